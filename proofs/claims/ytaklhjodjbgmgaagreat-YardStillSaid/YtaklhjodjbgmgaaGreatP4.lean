/-
  Proofs that the statement of this claim leans on: part 4.
-/
import Derived.Test.YtaklhjodjbgmgaaGreatP3
set_option linter.unusedVariables false
set_option linter.unusedSimpArgs false
section
set_option maxRecDepth 100000
namespace Go.Proofs.YtaklhjodjbgmgaaGreat
open Go.Fw Go.Proofs
open Go.Proofs.Tryz (prog)
def a_gh:Ann:= { cbs:= [2],loops:= [(3,{ mods:= [(5,SlotSh.bx [Sh.any,Sh.any,Sh.any,Sh.any]),(15,s6)],keep:= [1,2,4,13,14] }),(11,{ mods:= [(5,SlotSh.bx [Sh.any,Sh.any,Sh.any,Sh.any]),(43,s6)],keep:= [1,2,4,41,42] }),(17,{ mods:= [(5,SlotSh.bx [Sh.any,Sh.any,Sh.any,Sh.any]),(62,s6)],keep:= [1,2,4,60,61] })] }
def a_h3 (c0 c1 c2 c3 c4:D)(c5 c6 c7 c8 oc:Int)(σ:Store)(Qp:RV->Store->Prop) :Prop:=
 wL c0 fun len=>∃I:D->D->D->D->Int->Store->Prop,∃μ:D->D->D->D->Int->Store->Nat,(I .nils .nils .nils .nils 0 σ)/\∀d d1 d2 d3:D,∀n:Int,∀Z,(I d d1 d2 d3 n Z)->a_b (decide (n < (len:Int))) (wI prog Z c0 3 n fun row=>∃n1 n2 n3:Int,((List.take 3 row) =([iD n1,iD n2,iD n3]:List D))/\a_b (n2 != oc) ((([[.nils, .nils, .nils, .nils]]:List (List D)) =([[.nils, .nils, .nils, .nils]]:List (List D)))/\(I d d1 d2 d3 (w64 (n+1)) Z)/\((μ d d1 d2 d3 (w64 (n+1)) Z) < (μ d d1 d2 d3 n Z))) (Fw.newObj Z (.live a_e [[iD n]]) (fun id Z1=>a_j prog Z1 a_e 8 d (.osl id 0 1) (fun d4 Z2=>a_b (n1 == 1) (Fw.newObj Z2 (.live a_e [[iD n]]) (fun id1 Z3=>a_j prog Z3 a_e 8 d1 (.osl id1 0 1) (fun d5 Z4=>(([[.nils, .nils, .nils, .nils]]:List (List D)) =([[.nils, .nils, .nils, .nils]]:List (List D)))/\(I d4 d5 d2 d3 (w64 (n+1)) Z4)/\((μ d4 d5 d2 d3 (w64 (n+1)) Z4) < (μ d d1 d2 d3 n Z))))) ((([[.nils, .nils, .nils, .nils]]:List (List D)) =([[.nils, .nils, .nils, .nils]]:List (List D)))/\(I d4 d1 d2 d3 (w64 (n+1)) Z2)/\((μ d4 d1 d2 d3 (w64 (n+1)) Z2) < (μ d d1 d2 d3 n Z))))))) (wL c3 fun len1=>∃I1:D->D->D->D->Int->Store->Prop,∃μ1:D->D->D->D->Int->Store->Nat,(I1 d d1 d2 d3 0 Z)/\∀d4 d5 d6 d7:D,∀n1:Int,∀Z1,(I1 d4 d5 d6 d7 n1 Z1)->a_b (decide (n1 < (len1:Int))) (wI prog Z1 c3 1 n1 fun row=>∃n2:Int,((List.take 1 row) =([iD n2]:List D))/\DCalls prog n_9 [.agg [c0,c1,c2,c3,c4,iD c5,iD c6,iD c7,iD c8],iA n2,iA oc] Z1 (fun r Z2=>∃b:Bool,(r=(.a (bA b) :RV))/\a_b b (Fw.newObj Z2 (.live a_e [[iD n1]]) (fun id Z3=>a_j prog Z3 a_e 8 d6 (.osl id 0 1) (fun d8 Z4=>(([[.nils, .nils, .nils, .nils]]:List (List D)) =([[.nils, .nils, .nils, .nils]]:List (List D)))/\(I1 d4 d5 d8 d7 (w64 (n1+1)) Z4)/\((μ1 d4 d5 d8 d7 (w64 (n1+1)) Z4) < (μ1 d4 d5 d6 d7 n1 Z1))))) ((([[.nils, .nils, .nils, .nils]]:List (List D)) =([[.nils, .nils, .nils, .nils]]:List (List D)))/\(I1 d4 d5 d6 d7 (w64 (n1+1)) Z2)/\((μ1 d4 d5 d6 d7 (w64 (n1+1)) Z2) < (μ1 d4 d5 d6 d7 n1 Z1))))) (wL c2 fun len2=>∃I2:D->D->D->D->Int->Store->Prop,∃μ2:D->D->D->D->Int->Store->Nat,(I2 d4 d5 d6 d7 0 Z1)/\∀d8 d9 d10 d11:D,∀n2:Int,∀Z2,(I2 d8 d9 d10 d11 n2 Z2)->a_b (decide (n2 < (len2:Int))) (wI prog Z2 c2 2 n2 fun row=>∃n3 n4:Int,((List.take 2 row) =([iD n3,iD n4]:List D))/\DCalls prog n_9 [.agg [c0,c1,c2,c3,c4,iD c5,iD c6,iD c7,iD c8],iA n3,iA oc] Z2 (fun r Z3=>∃b:Bool,(r=(.a (bA b) :RV))/\a_b b (Fw.newObj Z3 (.live a_e [[iD n2]]) (fun id Z4=>a_j prog Z4 a_e 8 d11 (.osl id 0 1) (fun d12 Z5=>(([[.nils, .nils, .nils, .nils]]:List (List D)) =([[.nils, .nils, .nils, .nils]]:List (List D)))/\(I2 d8 d9 d10 d12 (w64 (n2+1)) Z5)/\((μ2 d8 d9 d10 d12 (w64 (n2+1)) Z5) < (μ2 d8 d9 d10 d11 n2 Z2))))) ((([[.nils, .nils, .nils, .nils]]:List (List D)) =([[.nils, .nils, .nils, .nils]]:List (List D)))/\(I2 d8 d9 d10 d11 (w64 (n2+1)) Z3)/\((μ2 d8 d9 d10 d11 (w64 (n2+1)) Z3) < (μ2 d8 d9 d10 d11 n2 Z2))))) (Qp (.a (.agg [d8,d9,d10,d11])) Z2)))
theorem a_ha (c0 c1 c2 c3 c4:D)(c5 c6 c7 c8 oc:Int)(σ:Store)(Qp:RV->Store->Prop)(h:a_h3 c0 c1 c2 c3 c4 c5 c6 c7 c8 oc σ Qp) :DCalls prog j_c [.agg [c0,c1,c2,c3,c4,iD c5,iD c6,iD c7,iD c8],iA oc] σ Qp:=
 a_a mixed (by kernel_rfl) Tryz.func10 a_gh (Eq.mp (by kernel_rfl) h)
def z_b:Ann:= { draws:= [(4,{ ord:= [0,1,2,3,4,5,6,7,8,9,10,11,12,13,14] }),(15,{ ord:= [0,1,2,3,4,5,6,7,8,9,10,11] }),(20,{ ord:= [0,1,2,3,4,5,6,7,8,9,10,11] }),(25,{ ord:= [0,1,2,3,4,5,6,7,8,9,10,11,12] })],loops:= [(12,{ mods:= [(79,s6)],keep:= [0,7,10,77,78] }),(18,{ mods:= [(109,s6)],keep:= [0,7,10,107,108] }),(23,{ mods:= [(133,s6)],keep:= [0,10,131,132] })],joins:= [(3,{ keep:= [0,1,2] })] }
def a_a0 (y:D)(oc:Int)(text:ByteArray)(σ:Store)(Qp:RV->Store->Prop) :Prop:=
 ∀R:Store->Prop,(∀Z,(wR y Z fun s i off row=>∃d:D,((List.take 1 (List.drop (off+13) row)) =([d]:List D))/\wI prog Z d 1 oc fun row1=>∃d1:D,((List.take 1 row1) =([d1]:List D))/\wR d1 Z fun s1 i1 off1 row2=>∃d2:D,((List.take 1 (List.drop (off1+0) row2)) =([d2]:List D))/\wR y Z fun s2 i2 off2 row3=>∃n:Int,((List.take 1 (List.drop (off2+15) row3)) =([iD n]:List D))/\DCalls prog f_t [.one d2,iA n, .one (.str text)] Z (fun r Z1=>∃s3:ByteArray,∃n1:Int,(r=(.tup [.one (.str s3),iA n1]:RV))/\a_b (n1 != 0) (Qp (.a (iA n1)) Z1) (wR d1 Z1 fun s4 i3 off3 row4=>∃d3 d4 d5 d6:D,((List.take 4 (List.drop (off3+1) row4)) =([d3,d4,d5,d6]:List D))/\DCalls prog f_o [.agg [d3,d4,d5,d6], .one (.str s3)] Z1 (fun r1 Z2=>∃d7 d8 d9:D,∃n2:Int,(r1=(.tup [.agg [d7,d8,d9],iA n2]:RV))/\a_b (n2 != 0) (Qp (.a (iA n2)) Z2) (wR d1 Z2 fun s5 i4 off4 row5=>∃d10:D,((List.take 1 (List.drop (off4+0) row5)) =([d10]:List D))/\(a_u d10)/\∃s6:D,∃i5 off5:Nat,(d10=(.el s6 i5 off5:D))/\DCalls prog g_8 [.one (.el s6 i5 (off5+0))] Z2 (fun r2 Z3=>∃n3:Int,(r2=(.a (iA n3) :RV))/\(a_u d1)/\∃s7:D,∃i6 off6:Nat,(d1=(.el s7 i6 off6:D))/\a_k [iD n3] Z3 s7 i6 (off6+5) (fun Z4=>wR d1 Z4 fun s8 i7 off7 row6=>∃d11:D,((List.take 1 (List.drop ((off7+1) +1) row6)) =([d11]:List D))/\wL d11 fun len1=>∃I:Int->Store->Prop,∃μ:Int->Store->Nat,(I 0 Z4)/\∀n4:Int,∀Z5,(I n4 Z5)->a_b (decide (n4 < (len1:Int))) (wI prog Z5 d11 1 n4 fun row7=>∃n5:Int,((List.take 1 row7) =([iD n5]:List D))/\wI prog Z5 d7 1 n4 fun row8=>∃n6:Int,((List.take 1 row8) =([iD n6]:List D))/\a_b (n6 != 0) (wR y Z5 fun s9 i8 off8 row9=>∃d12:D,((List.take 1 (List.drop (off8+10) row9)) =([d12]:List D))/\∃len4:Nat,(Idx prog Z5 d12 3 len4)/\((0:Int)<=n5)/\(n5 < (len4:Int))/\wI prog Z5 d7 1 n4 fun row10=>∃n7:Int,((List.take 1 row10) =([iD n7]:List D))/\DCalls prog f_b [.one (.el d12 (Int.toNat n5) 0),iA n7] Z5 (fun r3 Z6=>(r3=(.tup []:RV))/\(([[d7,d8,d9]]:List (List D)) =([[d7,d8,d9]]:List (List D)))/\(I (w64 (n4+1)) Z6)/\((μ (w64 (n4+1)) Z6) < (μ n4 Z5)))) ((([[d7,d8,d9]]:List (List D)) =([[d7,d8,d9]]:List (List D)))/\(I (w64 (n4+1)) Z5)/\((μ (w64 (n4+1)) Z5) < (μ n4 Z5)))) (wR d1 Z5 fun s9 i8 off8 row7=>∃d12:D,((List.take 1 (List.drop ((off8+1) +2) row7)) =([d12]:List D))/\wL d12 fun len2=>∃I1:Int->Store->Prop,∃μ1:Int->Store->Nat,(I1 0 Z5)/\∀n5:Int,∀Z6,(I1 n5 Z6)->a_b (decide (n5 < (len2:Int))) (wI prog Z6 d12 1 n5 fun row8=>∃n6:Int,((List.take 1 row8) =([iD n6]:List D))/\wR y Z6 fun s10 i9 off9 row9=>∃d13:D,((List.take 1 (List.drop (off9+11) row9)) =([d13]:List D))/\∃len4:Nat,(Idx prog Z6 d13 3 len4)/\((0:Int)<=n6)/\(n6 < (len4:Int))/\wI prog Z6 d9 1 n5 fun row10=>∃n7:Int,((List.take 1 row10) =([iD n7]:List D))/\DCalls prog f_b [.one (.el d13 (Int.toNat n6) 0),iA n7] Z6 (fun r3 Z7=>(r3=(.tup []:RV))/\(([[d7,d8,d9]]:List (List D)) =([[d7,d8,d9]]:List (List D)))/\(I1 (w64 (n5+1)) Z7)/\((μ1 (w64 (n5+1)) Z7) < (μ1 n5 Z6)))) (wR d1 Z6 fun s10 i9 off9 row8=>∃d13:D,((List.take 1 (List.drop ((off9+1) +3) row8)) =([d13]:List D))/\wL d13 fun len3=>∃I2:Int->Store->Prop,∃μ2:Int->Store->Nat,(I2 0 Z6)/\∀n6:Int,∀Z7,(I2 n6 Z7)->a_b (decide (n6 < (len3:Int))) (wI prog Z7 d13 1 n6 fun row9=>∃n7:Int,((List.take 1 row9) =([iD n7]:List D))/\wR y Z7 fun s11 i10 off10 row10=>∃d14:D,((List.take 1 (List.drop (off10+12) row10)) =([d14]:List D))/\wI prog Z7 d8 1 n6 fun row11=>∃n8:Int,((List.take 1 row11) =([iD n8]:List D))/\∃len6:Nat,(Idx prog Z7 d14 2 len6)/\((0:Int)<=n7)/\(n7 < (len6:Int))/\a_k [iD n8] Z7 d14 (Int.toNat n7) 0 (fun Z8=>(([[d7,d8,d9]]:List (List D)) =([[d7,d8,d9]]:List (List D)))/\(I2 (w64 (n6+1)) Z8)/\((μ2 (w64 (n6+1)) Z8) < (μ2 n6 Z7)))) (Qp (.a (iA 0)) Z7))))))))))->R Z)->a_b (decide (oc < 0)) (Qp (.a (iA 20)) σ) (wR y σ fun s i off row=>∃d:D,((List.take 1 (List.drop (off+13) row)) =([d]:List D))/\wL d fun len=>a_b (decide (oc>=(len:Int))) (Qp (.a (iA 20)) σ) (R σ))
theorem a_bf (y:D)(oc:Int)(text:ByteArray)(σ:Store)(Qp:RV->Store->Prop)(h:a_a0 y oc text σ Qp) :DCalls prog f_5 [.one y,iA oc, .one (.str text)] σ Qp:=
 a_a mixed (by kernel_rfl) Tryz.func14 z_b (Eq.mp (by kernel_rfl) h)
def t_f:Ann:= { draws:= [(5,{ ord:= [0,1,2,4,5,3,6,7,8,9],nb:= [5] })],loops:= [(3,{ mods:= [(3,SlotSh.one (Sh.any)),(11,s6)],keep:= [9,10] })] }
def w_0 (y:D)(σ:Store)(Qp:RV->Store->Prop) :Prop:=
 wR y σ fun s i off row=>∃d:D,((List.take 1 (List.drop (off+14) row)) =([d]:List D))/\wL d fun len=>∃I:D->Int->Store->Prop,∃μ:D->Int->Store->Nat,(I .nils 0 σ)/\∀d1:D,∀n:Int,∀Z,(I d1 n Z)->a_b (decide (n < (len:Int))) (wI prog Z d 2 n fun row1=>∃d2:D,∃n1:Int,((List.take 2 row1) =([d2,iD n1]:List D))/\DCalls prog b_l [.one d2] Z (fun r Z1=>∃d3:D,(r=(.a (.one d3) :RV))/\Fw.newObj Z1 (.live a_m [[d3,iD n1]]) (fun id Z2=>a_j prog Z2 a_m 32 d1 (.osl id 0 1) (fun d4 Z3=>(I d4 (w64 (n+1)) Z3)/\((μ d4 (w64 (n+1)) Z3) < (μ d1 n Z)))))) (Qp (.a (.one d1)) Z)
theorem w_8 (y:D)(σ:Store)(Qp:RV->Store->Prop)(h:w_0 y σ Qp) :DCalls prog e_7 [.one y] σ Qp:=
 a_a mixed (by kernel_rfl) Tryz.func18 t_f (Eq.mp (by kernel_rfl) h)
def x_m:Ann:= { esc:= [3],draws:= [(21,{ ord:= [0,1,2,3,4,5,6,7,8] })],loops:= [(4,{ mods:= [(19,s6)],keep:= [0,3,4,18] }),(9,{ mods:= [(36,s6)],keep:= [0,3,4,34,35] }),(14,{ mods:= [(69,s6)],keep:= [0,3,4,67,68] }),(19,{ mods:= [(93,s6)],keep:= [3,4,91,92] })] }
def z_1 (y:D)(σ:Store)(Qp:RV->Store->Prop) :Prop:=
 Fw.newObj σ (.live x_1 [[.nils]]) (fun id Z=>wR y Z fun s i off row=>∃d:D,((List.take 1 (List.drop ((off+1) +0) row)) =([d]:List D))/\wL d fun len=>∃I:Int->Store->Prop,∃μ:Int->Store->Nat,(I 0 Z)/\∀n:Int,∀Z1,(I n Z1)->a_b (decide (n < (len:Int))) (DCalls prog b_j [.one y,iA n] Z1 (fun r Z2=>∃n1:Int,(r=(.a (iA n1) :RV))/\∃f:FuncId,∃a:List (Bool × (List D)),∃b:List (Bool × (List D)),∃as0':List A,∃bs:List A,((.fn a_7 [] [(false,[.el (.osl id 0 1) 0 0])]:D) =(.fn f a b:D))/\((c_7 a) =(Option.some as0'))/\((c_7 b) =(Option.some bs))/\DCalls prog f (HAppend.hAppend (HAppend.hAppend as0' [.one (.bool (decide (n1 > 1))),iA 1,iA n]) bs) Z2 (fun r1 Z3=>(r1=(.tup []:RV))/\(I (w64 (n+1)) Z3)/\((μ (w64 (n+1)) Z3) < (μ n Z1))))) (wR y Z1 fun s1 i1 off1 row1=>∃d1:D,((List.take 1 (List.drop ((off1+1) +0) row1)) =([d1]:List D))/\wL d1 fun len1=>∃I1:Int->Store->Prop,∃μ1:Int->Store->Nat,(I1 0 Z1)/\∀n1:Int,∀Z2,(I1 n1 Z2)->a_b (decide (n1 < (len1:Int))) (wI prog Z2 d1 3 n1 fun row2=>∃n2 n3 n4:Int,((List.take 3 row2) =([iD n2,iD n3,iD n4]:List D))/\a_b (n2 == 1) (DCalls prog b_j [.one y,iA n1] Z2 (fun r Z3=>∃n5:Int,(r=(.a (iA n5) :RV))/\a_b (decide (n5 > 0)) (wR y Z3 fun s2 i2 off2 row3=>∃d2:D,((List.take 1 (List.drop (off2+10) row3)) =([d2]:List D))/\∃len3:Nat,(Idx prog Z3 d2 3 len3)/\((0:Int)<=n1)/\(n1 < (len3:Int))/\DCalls prog b_y [.one (.el d2 (Int.toNat n1) 0)] Z3 (fun r1 Z4=>∃b:Bool,(r1=(.a (bA b) :RV))/\∃f:FuncId,∃a:List (Bool × (List D)),∃b1:List (Bool × (List D)),∃as0':List A,∃bs:List A,((.fn a_7 [] [(false,[.el (.osl id 0 1) 0 0])]:D) =(.fn f a b1:D))/\((c_7 a) =(Option.some as0'))/\((c_7 b1) =(Option.some bs))/\DCalls prog f (HAppend.hAppend (HAppend.hAppend as0' [bA b,iA 2,iA n1]) bs) Z4 (fun r2 Z5=>(r2=(.tup []:RV))/\(I1 (w64 (n1+1)) Z5)/\((μ1 (w64 (n1+1)) Z5) < (μ1 n1 Z2))))) (∃f:FuncId,∃a:List (Bool × (List D)),∃b:List (Bool × (List D)),∃as0':List A,∃bs:List A,((.fn a_7 [] [(false,[.el (.osl id 0 1) 0 0])]:D) =(.fn f a b:D))/\((c_7 a) =(Option.some as0'))/\((c_7 b) =(Option.some bs))/\DCalls prog f (HAppend.hAppend (HAppend.hAppend as0' [bA false,iA 2,iA n1]) bs) Z3 (fun r1 Z4=>(r1=(.tup []:RV))/\(I1 (w64 (n1+1)) Z4)/\((μ1 (w64 (n1+1)) Z4) < (μ1 n1 Z2)))))) (∃f:FuncId,∃a:List (Bool × (List D)),∃b:List (Bool × (List D)),∃as0':List A,∃bs:List A,((.fn a_7 [] [(false,[.el (.osl id 0 1) 0 0])]:D) =(.fn f a b:D))/\((c_7 a) =(Option.some as0'))/\((c_7 b) =(Option.some bs))/\DCalls prog f (HAppend.hAppend (HAppend.hAppend as0' [bA false,iA 2,iA n1]) bs) Z2 (fun r Z3=>(r=(.tup []:RV))/\(I1 (w64 (n1+1)) Z3)/\((μ1 (w64 (n1+1)) Z3) < (μ1 n1 Z2))))) (wR y Z2 fun s2 i2 off2 row2=>∃d2:D,((List.take 1 (List.drop ((off2+1) +3) row2)) =([d2]:List D))/\wL d2 fun len2=>∃I2:Int->Store->Prop,∃μ2:Int->Store->Nat,(I2 0 Z2)/\∀n2:Int,∀Z3,(I2 n2 Z3)->a_b (decide (n2 < (len2:Int))) (wI prog Z3 d2 1 n2 fun row3=>∃n3:Int,((List.take 1 row3) =([iD n3]:List D))/\DCalls prog b_j [.one y,iA n3] Z3 (fun r Z4=>∃n4:Int,(r=(.a (iA n4) :RV))/\a_b (decide (n4 > 0)) (DCalls prog g_b [.one y,iA n2] Z4 (fun r1 Z5=>∃b:Bool,(r1=(.a (bA b) :RV))/\∃f:FuncId,∃a:List (Bool × (List D)),∃b1:List (Bool × (List D)),∃as0':List A,∃bs:List A,((.fn a_7 [] [(false,[.el (.osl id 0 1) 0 0])]:D) =(.fn f a b1:D))/\((c_7 a) =(Option.some as0'))/\((c_7 b1) =(Option.some bs))/\DCalls prog f (HAppend.hAppend (HAppend.hAppend as0' [bA (!b),iA 3,iA n3]) bs) Z5 (fun r2 Z6=>(r2=(.tup []:RV))/\(I2 (w64 (n2+1)) Z6)/\((μ2 (w64 (n2+1)) Z6) < (μ2 n2 Z3))))) (∃f:FuncId,∃a:List (Bool × (List D)),∃b:List (Bool × (List D)),∃as0':List A,∃bs:List A,((.fn a_7 [] [(false,[.el (.osl id 0 1) 0 0])]:D) =(.fn f a b:D))/\((c_7 a) =(Option.some as0'))/\((c_7 b) =(Option.some bs))/\DCalls prog f (HAppend.hAppend (HAppend.hAppend as0' [bA false,iA 3,iA n3]) bs) Z4 (fun r1 Z5=>(r1=(.tup []:RV))/\(I2 (w64 (n2+1)) Z5)/\((μ2 (w64 (n2+1)) Z5) < (μ2 n2 Z3)))))) (wR y Z3 fun s3 i3 off3 row3=>∃d3:D,((List.take 1 (List.drop (off3+14) row3)) =([d3]:List D))/\wL d3 fun len3=>∃I3:Int->Store->Prop,∃μ3:Int->Store->Nat,(I3 0 Z3)/\∀n3:Int,∀Z4,(I3 n3 Z4)->a_b (decide (n3 < (len3:Int))) (wI prog Z4 d3 2 n3 fun row4=>∃d4:D,∃n4:Int,((List.take 2 row4) =([d4,iD n4]:List D))/\wI prog Z4 d4 1 0 fun row5=>∃n5:Int,((List.take 1 row5) =([iD n5]:List D))/\∃f:FuncId,∃a:List (Bool × (List D)),∃b:List (Bool × (List D)),∃as0':List A,∃bs:List A,((.fn a_7 [] [(false,[.el (.osl id 0 1) 0 0])]:D) =(.fn f a b:D))/\((c_7 a) =(Option.some as0'))/\((c_7 b) =(Option.some bs))/\DCalls prog f (HAppend.hAppend (HAppend.hAppend as0' [.one (.bool (decide (n4 < 0))),iA 4,iA n5]) bs) Z4 (fun r Z5=>(r=(.tup []:RV))/\(I3 (w64 (n3+1)) Z5)/\((μ3 (w64 (n3+1)) Z5) < (μ3 n3 Z4)))) (∃row4:List D,(Row Z4 (.osl id 0 1) 0 row4)/\∃d4:D,((List.take 1 row4) =([d4]:List D))/\Qp (.a (.one d4)) Z4)))))
theorem z_4 (y:D)(σ:Store)(Qp:RV->Store->Prop)(h:z_1 y σ Qp) :DCalls prog e_o [.one y] σ Qp:=
 a_a mixed (by kernel_rfl) Tryz.func26 x_m (Eq.mp (by kernel_rfl) h)
def p_p:Ann:= { }
def p_6 (s:D)(σ:Store)(Qp:RV->Store->Prop) :Prop:=
 ∃b:Bool,(h_s .sl s b)/\a_b (b != false) (Qp (.a (.one .nils)) σ) (Fw.newObj σ (.live e_8 []) (fun id Z=>a_j prog Z e_8 32 (.osl id 0 0) s (fun d Z1=>Qp (.a (.one d)) Z1)))
theorem r_u (s:D)(σ:Store)(Qp:RV->Store->Prop)(h:p_6 s σ Qp) :DCalls prog d_8 [.one s] σ Qp:=
 a_a mixed (by kernel_rfl) Tryz.func30 p_p (Eq.mp (by kernel_rfl) h)
def k_e:Ann:= { draws:= [(9,{ ord:= [0,1,2,3,4,5,6,7,8,9] })],loops:= [(8,{ mods:= [(8,s6)],keep:= [7] })],joins:= [(3,{ keep:= [0,1] }),(6,{ keep:= [0,6] })] }
def l_b (x:D)(count:Int)(σ:Store)(Qp:RV->Store->Prop) :Prop:=
 ∀R:Store->Prop,(∀Z,(wL x fun len=>DCalls prog g_1 [.one (.int .u64 (IntKind.wrap .u64 (len:Int))), .one (.int .u64 (IntKind.wrap .u64 count))] Z (fun r Z1=>∃n n1:Int,(r=(.tup [.one (.int .u64 n), .one (.int .u64 n1)]:RV))/\∀R1:Store->Prop,(∀Z2,(((0:Int)<=(w64 n1))/\((w64 n1)<=(w64 n1))/\(((24:Int) * (w64 n1))<=(2 ^ 48))/\Fw.newObj Z2 (.live a_l (List.replicate (Int.toNat (w64 n1)) [iD 0,iD 0,iD 0])) (fun id Z3=>r_x prog Z3 a_l (.osl id 0 (Int.toNat (w64 n1))) x (fun n2 Z4=>∃I:Int->Store->Prop,∃μ:Int->Store->Nat,(I n2 Z4)/\∀n3:Int,∀Z5,(I n3 Z5)->∃len1:Nat,(Len (.osl id 0 (Int.toNat (w64 n1))) len1)/\a_b (decide (n3 < (len1:Int))) (∃len2:Nat,(IdxN prog Z5 (.osl id 0 (Int.toNat (w64 n1))) 3 len2)/\((0:Int)<=n3)/\(n3<=(len2:Int))/\∃len3:Nat,(IdxN prog Z5 (.osl id 0 (Int.toNat (w64 n1))) 3 len3)/\((0:Int)<=0)/\((0:Int)<=n3)/\(n3<=(len3:Int))/\r_x prog Z5 a_l (.osl id (0+ (Int.toNat n3)) (len2 - (Int.toNat n3))) (.osl id 0 ((Int.toNat n3) - 0)) (fun n4 Z6=>(I (w64 (n3+n4)) Z6)/\((μ (w64 (n3+n4)) Z6) < (μ n3 Z5)))) (Qp (.a (.one (.osl id 0 (Int.toNat (w64 n1))))) Z5))))->R1 Z2)->a_b (decide (n > 0)) False (a_b (decide (n1 > 9223372036854775807)) False (R1 Z1))))->R Z)->a_b (decide (count < 0)) False (R σ)
theorem k_5 (x:D)(count:Int)(σ:Store)(Qp:RV->Store->Prop)(h:l_b x count σ Qp) :DCalls prog c_n [.one x,iA count] σ Qp:=
 a_a mixed (by kernel_rfl) Tryz.func34 k_e (Eq.mp (by kernel_rfl) h)
def a_og:Ann:= { cbs:= [3] }
def a_qp (c0 c1 c2 c3 c4:D)(c5 c6 c7 c8 section_ oc:Int)(σ:Store)(Qp:RV->Store->Prop) :Prop:=
 a_b (decide (section_>=0)) (wL c0 fun len=>a_b (decide (section_ < (len:Int))) (wI prog σ c0 3 section_ fun row=>∃n:Int,((List.take 1 (List.drop 1 row)) =([iD n]:List D))/\Qp (.a (bA (n == oc))) σ) (Qp (.a (bA false)) σ)) (Qp (.a (bA false)) σ)
theorem a_r9 (c0 c1 c2 c3 c4:D)(c5 c6 c7 c8 section_ oc:Int)(σ:Store)(Qp:RV->Store->Prop)(h:a_qp c0 c1 c2 c3 c4 c5 c6 c7 c8 section_ oc σ Qp) :DCalls prog n_9 [.agg [c0,c1,c2,c3,c4,iD c5,iD c6,iD c7,iD c8],iA section_,iA oc] σ Qp:=
 a_a mixed (by kernel_rfl) Tryz.func38 a_og (Eq.mp (by kernel_rfl) h)
def s_j:Ann:= { loops:= [(2,{ mods:= [(6,s6),(7,s6)],keep:= [0,1,2] }),(9,{ mods:= [(1,s6),(9,s6)],keep:= [0,8] })],joins:= [(7,{ keep:= [0,1,2] })] }
def v_z (w:D)(n width:Int)(σ:Store)(Qp:RV->Store->Prop) :Prop:=
 ∃I:Int->Int->Store->Prop,∃μ:Int->Int->Store->Nat,(I 1 0 σ)/\∀n1 n2:Int,∀Z,(I n1 n2 Z)->a_b (decide (n2 < width)) ((I (w64 (n1 * 256)) (w64 (n2+1)) Z)/\((μ (w64 (n1 * 256)) (w64 (n2+1)) Z) < (μ n1 n2 Z))) (∀R:Store->Prop,(∀Z1,(((0:Int)<=width)/\(width<=width)/\(((1:Int) * width)<=(2 ^ 48))/\Fw.newObj Z1 (.live c_t (List.replicate (Int.toNat width) [.int .u8 0])) (fun id Z2=>∃I1:Int->Int->Store->Prop,∃μ1:Int->Int->Store->Nat,(I1 n (w64 (width - 1)) Z2)/\∀n3 n4:Int,∀Z3,(I1 n3 n4 Z3)->a_b (decide (n4>=0)) (∃len:Nat,(Idx prog Z3 (.osl id 0 (Int.toNat width)) 1 len)/\((0:Int)<=n4)/\(n4 < (len:Int))/\a_k [.int .u8 (IntKind.wrap .u8 (Int.tmod n3 256))] Z3 (.osl id 0 (Int.toNat width)) (Int.toNat n4) 0 (fun Z4=>(I1 (w64 (Int.tdiv n3 256)) (w64 (n4 - 1)) Z4)/\((μ1 (w64 (Int.tdiv n3 256)) (w64 (n4 - 1)) Z4) < (μ1 n3 n4 Z3)))) (DCalls prog c_z [.one w, .one (.osl id 0 (Int.toNat width)),bA true] Z3 (fun r Z4=>(r=(.tup []:RV))/\Qp (.tup []) Z4))))->R Z1)->a_b (decide (n < 0)) (DCalls prog c_z [.one w, .one .nils,bA false] Z (fun r Z1=>(r=(.tup []:RV))/\Qp (.tup []) Z1)) (a_b (decide (n>=n1)) (DCalls prog c_z [.one w, .one .nils,bA false] Z (fun r Z1=>(r=(.tup []:RV))/\Qp (.tup []) Z1)) (R Z)))
theorem v_p (w:D)(n width:Int)(σ:Store)(Qp:RV->Store->Prop)(h:v_z w n width σ Qp) :DCalls prog d_t [.one w,iA n,iA width] σ Qp:=
 a_a mixed (by kernel_rfl) Tryz.func42 s_j (Eq.mp (by kernel_rfl) h)
def q_m:Ann:= { }
def s_y (f:D)(kind n:Int)(σ:Store)(Qp:RV->Store->Prop) :Prop:=
 wR f σ fun s i off row=>∃d:D,((List.take 1 (List.drop (off+0) row)) =([d]:List D))/\∃r:Option A,(h_o prog j_k σ d (.agg [iD kind,iD n]) r)/\∃b:Bool,((Option.getD r (bA false)) =(bA b:A))/\Qp (.a (bA b)) σ
theorem j_3 (f:D)(kind n:Int)(σ:Store)(Qp:RV->Store->Prop)(h:s_y f kind n σ Qp) :DCalls prog b_f [.one f,iA kind,iA n] σ Qp:=
 a_a mixed (by kernel_rfl) Tryz.func46 q_m (Eq.mp (by kernel_rfl) h)
def s_9:Ann:= { }
def v_x (x:D)(to:Int)(σ:Store)(Qp:RV->Store->Prop) :Prop:=
 wR x σ fun s i off row=>∃n:Int,((List.take 1 (List.drop (off+1) row)) =([iD n]:List D))/\a_b (to != n) ((a_u x)/\∃s1:D,∃i1 off1:Nat,(x=(.el s1 i1 off1:D))/\a_k [iD to] σ s1 i1 (off1+1) (fun Z=>(a_u x)/\∃s2:D,∃i2 off2:Nat,(x=(.el s2 i2 off2:D))/\a_k [iD 2] Z s2 i2 (off2+2) (fun Z1=>Qp (.tup []) Z1))) (Qp (.tup []) σ)
theorem w_y (x:D)(to:Int)(σ:Store)(Qp:RV->Store->Prop)(h:v_x x to σ Qp) :DCalls prog f_b [.one x,iA to] σ Qp:=
 a_a mixed (by kernel_rfl) Tryz.func50 s_9 (Eq.mp (by kernel_rfl) h)
def s_v:Ann:= { loops:= [(3,{ mods:= [(5,s6),(15,s6)],keep:= [1,13,14] }),(6,{ mods:= [(5,s6),(22,s6)],keep:= [1,13,14,15,20,21] })] }
def w_6 (y:D)(s:Int)(σ:Store)(Qp:RV->Store->Prop) :Prop:=
 wR y σ fun s1 i off row=>∃d:D,((List.take 1 (List.drop (off+11) row)) =([d]:List D))/\wL d fun len=>∃I:Int->Int->Store->Prop,∃μ:Int->Int->Store->Nat,(I 0 0 σ)/\∀n n1:Int,∀Z,(I n n1 Z)->a_b (decide (n1 < (len:Int))) (wI prog Z d 2 n1 fun row1=>∃d1:D,∃n2:Int,((List.take 2 row1) =([d1,iD n2]:List D))/\wL d1 fun len2=>∃I1:Int->Int->Store->Prop,∃μ1:Int->Int->Store->Nat,(I1 n 0 Z)/\∀n3 n4:Int,∀Z1,(I1 n3 n4 Z1)->a_b (decide (n4 < (len2:Int))) (wI prog Z1 d1 1 n4 fun row2=>∃n5:Int,((List.take 1 row2) =([iD n5]:List D))/\a_b (n5 == s) ((I1 (w64 (n3+1)) (w64 (n4+1)) Z1)/\((μ1 (w64 (n3+1)) (w64 (n4+1)) Z1) < (μ1 n3 n4 Z1))) ((I1 n3 (w64 (n4+1)) Z1)/\((μ1 n3 (w64 (n4+1)) Z1) < (μ1 n3 n4 Z1)))) ((I n3 (w64 (n1+1)) Z1)/\((μ n3 (w64 (n1+1)) Z1) < (μ n n1 Z)))) (Qp (.a (iA n)) Z)
theorem w_v (y:D)(s:Int)(σ:Store)(Qp:RV->Store->Prop)(h:w_6 y s σ Qp) :DCalls prog h_e [.one y,iA s] σ Qp:=
 a_a mixed (by kernel_rfl) Tryz.func58 s_v (Eq.mp (by kernel_rfl) h)
def u_k:Ann:= { draws:= [(3,{ ord:= [0,1,2,3,4,5,6,7,8,9,10,11,12,13,14,15,16,17] }),(10,{ ord:= [0,1,2,3,4,5,6,7,8,9,10,11,12,13,14,15,16] }),(15,{ ord:= [0,1,2,3,4,5,6,7,8,9,10,11,12,13,14,15,16,17,18,19],sp:= [17] }),(20,{ ord:= [0,1,2,3,4,5,6,7,8,9,10,11,12,13,14,15,16,17,18,19],sp:= [17] }),(25,{ ord:= [0,1,2,3,4,5,6,7,8,9,10,11] })],loops:= [(12,{ mods:= [(75,s6)],keep:= [0,9,10,73,74] }),(18,{ mods:= [(109,s6)],keep:= [0,9,10,107,108] }),(23,{ mods:= [(137,s6)],keep:= [0,10,135,136] })],joins:= [(3,{ keep:= [0,1,2] })] }
def y_l (y:D)(oc:Int)(text:ByteArray)(σ:Store)(Qp:RV->Store->Prop) :Prop:=
 ∀R:Store->Prop,(∀Z,(wR y Z fun s i off row=>∃d:D,((List.take 1 (List.drop (off+12) row)) =([d]:List D))/\wI prog Z d 1 oc fun row1=>∃d1:D,((List.take 1 row1) =([d1]:List D))/\wR y Z fun s1 i1 off1 row2=>∃n:Int,((List.take 1 (List.drop (off1+17) row2)) =([iD n]:List D))/\DCalls prog f_j [.one d1,iA n, .one (.str text)] Z (fun r Z1=>∃s2:ByteArray,∃n1:Int,(r=(.tup [.one (.str s2),iA n1]:RV))/\a_b (n1 != 0) (Qp (.a (iA n1)) Z1) (wR y Z1 fun s3 i2 off2 row3=>∃d2 d3 d4 d5 d6:D,∃n2 n3 n4 n5:Int,((List.take 9 (List.drop (off2+0) row3)) =([d2,d3,d4,d5,d6,iD n2,iD n3,iD n4,iD n5]:List D))/\DCalls prog j_c [.agg [d2,d3,d4,d5,d6,iD n2,iD n3,iD n4,iD n5],iA oc] Z1 (fun r1 Z2=>∃d7 d8 d9 d10:D,(r1=(.a (.agg [d7,d8,d9,d10]) :RV))/\DCalls prog f_a [.agg [d7,d8,d9,d10], .one (.str s2)] Z2 (fun r2 Z3=>∃d11 d12 d13:D,∃n6:Int,(r2=(.tup [.agg [d11,d12,d13],iA n6]:RV))/\a_b (n6 != 0) (Qp (.a (iA 3)) Z3) (wR y Z3 fun s4 i3 off3 row4=>∃d14:D,((List.take 1 (List.drop (off3+14) row4)) =([d14]:List D))/\wR y Z3 fun s5 i4 off4 row5=>∃d15:D,((List.take 1 (List.drop (off4+12) row5)) =([d15]:List D))/\wI prog Z3 d15 1 oc fun row6=>∃d16:D,((List.take 1 row6) =([d16]:List D))/\wR d16 Z3 fun s6 i5 off5 row7=>∃n7:Int,((List.take 1 (List.drop (off5+2) row7)) =([iD n7]:List D))/\∃len2:Nat,(Idx prog Z3 d14 1 len2)/\((0:Int)<=oc)/\(oc < (len2:Int))/\a_k [iD n7] Z3 d14 (Int.toNat oc) 0 (fun Z4=>wL d8 fun len3=>∃I:Int->Store->Prop,∃μ:Int->Store->Nat,(I 0 Z4)/\∀n8:Int,∀Z5,(I n8 Z5)->a_b (decide (n8 < (len3:Int))) (wI prog Z5 d8 1 n8 fun row8=>∃n9:Int,((List.take 1 row8) =([iD n9]:List D))/\wI prog Z5 d11 1 n8 fun row9=>∃n10:Int,((List.take 1 row9) =([iD n10]:List D))/\a_b (n10 != 0) (∃pre:List A->Store->Prop,∃post:List A->Store->RV->Store->Prop,(b_7 prog g_u pre post)/\wR y Z5 fun s7 i6 off6 row10=>∃d17:D,((List.take 1 (List.drop (off6+9) row10)) =([d17]:List D))/\wR y Z5 fun s8 i7 off7 row11=>∃d18:D,((List.take 1 (List.drop (off7+9) row11)) =([d18]:List D))/\wI prog Z5 d18 3 n9 fun row12=>∃n11 n12 n13:Int,((List.take 3 row12) =([iD n11,iD n12,iD n13]:List D))/\wI prog Z5 d11 1 n8 fun row13=>∃n14:Int,((List.take 1 row13) =([iD n14]:List D))/\(pre [.agg [iD n11,iD n12,iD n13],iA n14] Z5)/\∀r3:RV,∀s9:Store,(post [.agg [iD n11,iD n12,iD n13],iA n14] Z5 r3 s9)->∃n15 n16 n17:Int,(r3=(.a (.agg [iD n15,iD n16,iD n17]) :RV))/\∃len8:Nat,(Idx prog s9 d17 3 len8)/\((0:Int)<=n9)/\(n9 < (len8:Int))/\a_k [iD n15,iD n16,iD n17] s9 d17 (Int.toNat n9) 0 (fun Z6=>(([[d7,d8,d9,d10],[d11,d12,d13]]:List (List D)) =([[d7,d8,d9,d10],[d11,d12,d13]]:List (List D)))/\(I (w64 (n8+1)) Z6)/\((μ (w64 (n8+1)) Z6) < (μ n8 Z5)))) ((([[d7,d8,d9,d10],[d11,d12,d13]]:List (List D)) =([[d7,d8,d9,d10],[d11,d12,d13]]:List (List D)))/\(I (w64 (n8+1)) Z5)/\((μ (w64 (n8+1)) Z5) < (μ n8 Z5)))) (wL d9 fun len4=>∃I1:Int->Store->Prop,∃μ1:Int->Store->Nat,(I1 0 Z5)/\∀n9:Int,∀Z6,(I1 n9 Z6)->a_b (decide (n9 < (len4:Int))) (wI prog Z6 d9 1 n9 fun row8=>∃n10:Int,((List.take 1 row8) =([iD n10]:List D))/\∃pre:List A->Store->Prop,∃post:List A->Store->RV->Store->Prop,(b_7 prog g_u pre post)/\wR y Z6 fun s7 i6 off6 row9=>∃d17:D,((List.take 1 (List.drop (off6+10) row9)) =([d17]:List D))/\wR y Z6 fun s8 i7 off7 row10=>∃d18:D,((List.take 1 (List.drop (off7+10) row10)) =([d18]:List D))/\wI prog Z6 d18 3 n10 fun row11=>∃n11 n12 n13:Int,((List.take 3 row11) =([iD n11,iD n12,iD n13]:List D))/\wI prog Z6 d13 1 n9 fun row12=>∃n14:Int,((List.take 1 row12) =([iD n14]:List D))/\(pre [.agg [iD n11,iD n12,iD n13],iA n14] Z6)/\∀r3:RV,∀s9:Store,(post [.agg [iD n11,iD n12,iD n13],iA n14] Z6 r3 s9)->∃n15 n16 n17:Int,(r3=(.a (.agg [iD n15,iD n16,iD n17]) :RV))/\∃len8:Nat,(Idx prog s9 d17 3 len8)/\((0:Int)<=n10)/\(n10 < (len8:Int))/\a_k [iD n15,iD n16,iD n17] s9 d17 (Int.toNat n10) 0 (fun Z7=>(([[d7,d8,d9,d10],[d11,d12,d13]]:List (List D)) =([[d7,d8,d9,d10],[d11,d12,d13]]:List (List D)))/\(I1 (w64 (n9+1)) Z7)/\((μ1 (w64 (n9+1)) Z7) < (μ1 n9 Z6)))) (wL d10 fun len5=>∃I2:Int->Store->Prop,∃μ2:Int->Store->Nat,(I2 0 Z6)/\∀n10:Int,∀Z7,(I2 n10 Z7)->a_b (decide (n10 < (len5:Int))) (wI prog Z7 d10 1 n10 fun row8=>∃n11:Int,((List.take 1 row8) =([iD n11]:List D))/\wR y Z7 fun s7 i6 off6 row9=>∃d17:D,((List.take 1 (List.drop (off6+13) row9)) =([d17]:List D))/\wI prog Z7 d12 1 n10 fun row10=>∃n12:Int,((List.take 1 row10) =([iD n12]:List D))/\∃len8:Nat,(Idx prog Z7 d17 1 len8)/\((0:Int)<=n11)/\(n11 < (len8:Int))/\a_k [iD n12] Z7 d17 (Int.toNat n11) 0 (fun Z8=>(([[d11,d12,d13]]:List (List D)) =([[d11,d12,d13]]:List (List D)))/\(I2 (w64 (n10+1)) Z8)/\((μ2 (w64 (n10+1)) Z8) < (μ2 n10 Z7)))) (Qp (.a (iA 0)) Z7))))))))))->R Z)->a_b (decide (oc < 0)) (Qp (.a (iA 20)) σ) (a_b (decide (oc>=4)) (Qp (.a (iA 20)) σ) (R σ))
theorem y_m (y:D)(oc:Int)(text:ByteArray)(σ:Store)(Qp:RV->Store->Prop)(h:y_l y oc text σ Qp) :DCalls prog i_d [.one y,iA oc, .one (.str text)] σ Qp:=
 a_a mixed (by kernel_rfl) Tryz.func62 u_k (Eq.mp (by kernel_rfl) h)
def u_0:Ann:= { draws:= [(4,{ ord:= [0,1,2,3,4,5,6,7,8,9,10,11,12,13,14,15,16,17,18] }),(7,{ ord:= [0,1,2,3,4,5,6,7,8,9,10,11] }),(8,{ ord:= [0,1,2,3,4,5,6,7,8,9,10,11,12,13,14,15,16,17,18,19,20,21,22,23,24,25,26,27,28,29,30,31,32] })],joins:= [(3,{ keep:= [0,1] }),(7,{ keep:= [0,1,5,6,7] }),(10,{ keep:= [0,1,5,6,7] }),(11,{ keep:= [] })],splits:= [(10,(DT.split 3 9 (DT.leaf { ord:= [0,1,2,3,4,5,7,8,10,11,12,6,9,13,14,15,16] }) (DT.leaf { ord:= [0,1,2,4,5,7,8,10,11,12,6,9,3,13,14,15,16],sp:= [13] })))] }
def y_6 (y:D)(t:Int)(σ:Store)(Qp:RV->Store->Prop) :Prop:=
 ∀R:Store->Prop,(∀Z,(wR y Z fun s i off row=>∃d:D,((List.take 1 (List.drop (off+11) row)) =([d]:List D))/\wI prog Z d 2 t fun row1=>∃d1:D,∃n:Int,((List.take 2 row1) =([d1,iD n]:List D))/\wR y Z fun s1 i1 off1 row2=>∃d2:D,((List.take 1 (List.drop ((off1+0) +1) row2)) =([d2]:List D))/\wI prog Z d1 1 0 fun row3=>∃n1:Int,((List.take 1 row3) =([iD n1]:List D))/\DCalls prog d_e [.one d2,iA n1,iA n] Z (fun r Z1=>∃n2 n3:Int,∃b:Bool,(r=(.tup [iA n2,iA n3,bA b]:RV))/\∀R1:Store->Prop,(∀Z2,(wR y Z2 fun s2 i2 off2 row4=>∃d3 d4 d5 d6 d7:D,∃n4 n5 n6 n7:Int,((List.take 9 (List.drop (off2+0) row4)) =([d3,d4,d5,d6,d7,iD n4,iD n5,iD n6,iD n7]:List D))/\wI prog Z2 d1 1 0 fun row5=>∃n8:Int,((List.take 1 row5) =([iD n8]:List D))/\DCalls prog f_w [.agg [d3,d4,d5,d6,d7,iD n4,iD n5,iD n6,iD n7],iA n8,iA n] Z2 (fun r1 Z3=>∃n9:Int,(r1=(.a (iA n9) :RV))/\∀R2:Store->Prop,(∀Z4,(∀R3:Store->Prop,(∀Z5,(Qp (.a (iA 0)) Z5)->R3 Z5)->(wR y Z4 fun s3 i3 off3 row6=>∃d8:D,((List.take 1 (List.drop (off3+11) row6)) =([d8]:List D))/\Fw.newObj Z4 (.live a_e [[iD n2]]) (fun id Z5=>a_j prog Z5 a_e 8 (.osl id 0 1) d1 (fun d9 Z6=>DCalls prog d_m [.one y,iA n2,iA n3] Z6 (fun r2 Z7=>∃n10:Int,(r2=(.a (iA n10) :RV))/\∃len3:Nat,(Idx prog Z7 d8 2 len3)/\((0:Int)<=t)/\(t < (len3:Int))/\a_k [d9,iD n10] Z7 d8 (Int.toNat t) 0 (fun Z8=>R3 Z8)))))/\∃pre:List A->Store->Prop,∃post:List A->Store->RV->Store->Prop,(b_7 prog d_m pre post)/\(a_u y)/\∃s3:D,∃i3 off3:Nat,(y=(.el s3 i3 off3:D))/\Fw.newObj Z4 (.live a_e [[iD n2]]) (fun id Z5=>a_j prog Z5 a_e 8 (.osl id 0 1) d1 (fun d8 Z6=>∃row6:List D,(Row Z6 s3 i3 row6)/\∃d9:D,((List.take 1 (List.drop (off3+11) row6)) =([d9]:List D))/\(pre [.one y,iA n2,iA n3] Z6)/\∀r2:RV,∀s4:Store,(post [.one y,iA n2,iA n3] Z6 r2 s4)->∃n10:Int,(r2=(.a (iA n10) :RV))/\∃len3:Nat,(Idx prog s4 d9 2 len3)/\((0:Int)<=t)/\(t < (len3:Int))/\a_k [d8,iD n10] s4 d9 (Int.toNat t) 0 (fun Z7=>R3 Z7))))->R2 Z4)->a_b (decide (n9>=0)) (wR y Z3 fun s3 i3 off3 row6=>∃d8:D,((List.take 1 (List.drop (off3+15) row6)) =([d8]:List D))/\wI prog Z3 d8 1 n9 fun row7=>∃n10:Int,((List.take 1 row7) =([iD n10]:List D))/\a_b (decide (n10 < 0)) (Qp (.a (iA 29)) Z3) (wR y Z3 fun s4 i4 off4 row8=>∃n11:Int,((List.take 1 (List.drop (off4+17) row8)) =([iD n11]:List D))/\wR y Z3 fun s5 i5 off5 row9=>∃d9:D,((List.take 1 (List.drop (off5+15) row9)) =([d9]:List D))/\wI prog Z3 d9 1 n9 fun row10=>∃n12:Int,((List.take 1 row10) =([iD n12]:List D))/\wR y Z3 fun s6 i6 off6 row11=>∃n13:Int,((List.take 1 (List.drop (((off6+0) +5) +1) row11)) =([iD n13]:List D))/\a_b (decide ((w64 (n11 - n12)) > n13)) (Qp (.a (iA 29)) Z3) ((([[d1,iD n]]:List (List D)) =([[d1,iD n]]:List (List D)))/\R2 Z3))) ((([[d1,iD n]]:List (List D)) =([[d1,iD n]]:List (List D)))/\R2 Z3)))->R1 Z2)->a_b (decide (n < 0)) (Qp (.a (iA 29)) Z1) (a_b (!b) (Qp (.a (iA 29)) Z1) ((([[d1,iD n]]:List (List D)) =([[d1,iD n]]:List (List D)))/\R1 Z1))))->R Z)->a_b (decide (t < 0)) (Qp (.a (iA 30)) σ) (wR y σ fun s i off row=>∃d:D,((List.take 1 (List.drop (off+11) row)) =([d]:List D))/\wL d fun len=>a_b (decide (t>=(len:Int))) (Qp (.a (iA 30)) σ) (R σ))
theorem y_q (y:D)(t:Int)(σ:Store)(Qp:RV->Store->Prop)(h:y_6 y t σ Qp) :DCalls prog i_a [.one y,iA t] σ Qp:=
 a_a mixed (by kernel_rfl) Tryz.func66 u_0 (Eq.mp (by kernel_rfl) h)
def s_q:Ann:= { draws:= [(4,{ ord:= [0,1,2,3,4,5,6,7,8,9,10,11,12,13,14,15,16,17,18,19,20,21,22,23] })],loops:= [(8,{ mods:= [(6,SlotSh.one (Sh.any)),(56,s6)],keep:= [0,1,54,55] })],joins:= [(3,{ keep:= [0,1] }),(6,{ keep:= [0,1] })] }
def w_m (y:D)(t:Int)(σ:Store)(Qp:RV->Store->Prop) :Prop:=
 ∀R:Store->Prop,(∀Z,(wR y Z fun s i off row=>∃d:D,((List.take 1 (List.drop (off+11) row)) =([d]:List D))/\wI prog Z d 2 t fun row1=>∃d1:D,∃n:Int,((List.take 2 row1) =([d1,iD n]:List D))/\∀R1:Store->Prop,(∀Z1,(wR y Z1 fun s1 i1 off1 row2=>∃d2:D,((List.take 1 (List.drop (off1+11) row2)) =([d2]:List D))/\wL d2 fun len1=>∃I:D->Int->Store->Prop,∃μ:D->Int->Store->Nat,(I .nils 0 Z1)/\∀d3:D,∀n1:Int,∀Z2,(I d3 n1 Z2)->a_b (decide (n1 < (len1:Int))) (wI prog Z2 d2 2 n1 fun row3=>∃d4:D,∃n2:Int,((List.take 2 row3) =([d4,iD n2]:List D))/\a_b (n1 != t) (Fw.newObj Z2 (.live a_m [[d4,iD n2]]) (fun id Z3=>a_j prog Z3 a_m 32 d3 (.osl id 0 1) (fun d5 Z4=>(I d5 (w64 (n1+1)) Z4)/\((μ d5 (w64 (n1+1)) Z4) < (μ d3 n1 Z2))))) ((I d3 (w64 (n1+1)) Z2)/\((μ d3 (w64 (n1+1)) Z2) < (μ d3 n1 Z2)))) ((a_u y)/\∃s2:D,∃i2 off2:Nat,(y=(.el s2 i2 off2:D))/\a_k [d3] Z2 s2 i2 (off2+11) (fun Z3=>Qp (.a (iA 0)) Z3)))->R1 Z1)->wL d1 fun len1=>a_b ((len1:Int) != 1) (Qp (.a (iA 29)) Z) (wR y Z fun s1 i1 off1 row2=>∃d2:D,((List.take 1 (List.drop ((off1+0) +0) row2)) =([d2]:List D))/\wI prog Z d1 1 0 fun row3=>∃n1:Int,((List.take 1 row3) =([iD n1]:List D))/\wI prog Z d2 3 n1 fun row4=>∃n2:Int,((List.take 1 (List.drop 2 row4)) =([iD n2]:List D))/\a_b (n2 == 0) (Qp (.a (iA 29)) Z) (a_b (n != 1) (Qp (.a (iA 29)) Z) (R1 Z))))->R Z)->a_b (decide (t < 0)) (Qp (.a (iA 30)) σ) (wR y σ fun s i off row=>∃d:D,((List.take 1 (List.drop (off+11) row)) =([d]:List D))/\wL d fun len=>a_b (decide (t>=(len:Int))) (Qp (.a (iA 30)) σ) (R σ))
theorem v_w (y:D)(t:Int)(σ:Store)(Qp:RV->Store->Prop)(h:w_m y t σ Qp) :DCalls prog h_g [.one y,iA t] σ Qp:=
 a_a mixed (by kernel_rfl) Tryz.func70 s_q (Eq.mp (by kernel_rfl) h)
def u_s:Ann:= { loops:= [(3,{ mods:= [(5,s6),(15,s6)],keep:= [1,13,14] }),(6,{ mods:= [(5,s6),(22,s6)],keep:= [1,13,14,15,20,21] })] }
def z_f (y:D)(s:Int)(σ:Store)(Qp:RV->Store->Prop) :Prop:=
 wR y σ fun s1 i off row=>∃d:D,((List.take 1 (List.drop (off+14) row)) =([d]:List D))/\wL d fun len=>∃I:Int->Int->Store->Prop,∃μ:Int->Int->Store->Nat,(I 0 0 σ)/\∀n n1:Int,∀Z,(I n n1 Z)->a_b (decide (n1 < (len:Int))) (wI prog Z d 2 n1 fun row1=>∃d1:D,∃n2:Int,((List.take 2 row1) =([d1,iD n2]:List D))/\wL d1 fun len2=>∃I1:Int->Int->Store->Prop,∃μ1:Int->Int->Store->Nat,(I1 n 0 Z)/\∀n3 n4:Int,∀Z1,(I1 n3 n4 Z1)->a_b (decide (n4 < (len2:Int))) (wI prog Z1 d1 1 n4 fun row2=>∃n5:Int,((List.take 1 row2) =([iD n5]:List D))/\a_b (n5 == s) ((I1 (w64 (n3+1)) (w64 (n4+1)) Z1)/\((μ1 (w64 (n3+1)) (w64 (n4+1)) Z1) < (μ1 n3 n4 Z1))) ((I1 n3 (w64 (n4+1)) Z1)/\((μ1 n3 (w64 (n4+1)) Z1) < (μ1 n3 n4 Z1)))) ((I n3 (w64 (n1+1)) Z1)/\((μ n3 (w64 (n1+1)) Z1) < (μ n n1 Z)))) (Qp (.a (iA n)) Z)
theorem y_a (y:D)(s:Int)(σ:Store)(Qp:RV->Store->Prop)(h:z_f y s σ Qp) :DCalls prog b_j [.one y,iA s] σ Qp:=
 a_a mixed (by kernel_rfl) Tryz.func74 u_s (Eq.mp (by kernel_rfl) h)
def a_hh:Ann:= { draws:= [(10,{ ord:= [0,1,2,3,4,5,6,7,8,9,10,11,12,13,14,15,16,17,18,19,20,21,22,23,24,25,26],nb:= [9] }),(12,{ ord:= [0,1,2,3,4,5,6] })],loops:= [(5,{ mods:= [(25,s6)],keep:= [0,5,23,24] }),(8,{ mods:= [(41,s6)],keep:= [0,5,7,23,24,25,39,40] }),(19,{ mods:= [(88,s6)],keep:= [5,10,86,87] })],joins:= [(3,{ keep:= [0,1] }),(23,{ keep:= [5,10,11,12,86,87,88] })] }
def a_ma (sections joints:D)(σ:Store)(Qp:RV->Store->Prop) :Prop:=
 ∀R:Store->Prop,(∀Z,(Fw.newObj Z (.mp 0 []) (fun id Z1=>wL joints fun len=>∃I:Int->Store->Prop,∃μ:Int->Store->Nat,(I 0 Z1)/\∀n:Int,∀Z2,(I n Z2)->a_b (decide (n < (len:Int))) (wI prog Z2 joints 4 n fun row=>∃n1 n2 n3 n4:Int,((List.take 4 row) =([iD n1,iD n2,iD n3,iD n4]:List D))/\Fw.newObj Z2 (.live b_3 [[iD n1,iD n2],[iD n3,iD n4]]) (fun id1 Z3=>∃len2:Nat,(Len (.osl id1 0 2) len2)/\∃I1:Int->Store->Prop,∃μ1:Int->Store->Nat,(I1 0 Z3)/\∀n5:Int,∀Z4,(I1 n5 Z4)->a_b (decide (n5 < (len2:Int))) (∃len3:Nat,(Idx prog Z4 (.osl id1 0 2) 2 len3)/\((0:Int)<=n5)/\(n5 < (len3:Int))/\∃row1:List D,(Row Z4 (.osl id1 0 2) (Int.toNat n5) row1)/\∃n6 n7:Int,((List.take 2 row1) =([iD n6,iD n7]:List D))/\wL sections fun len4=>DCalls prog d_v [iA n6,iA 0, .one (iD (w64 ((len4:Int) - 1)))] Z4 (fun r Z5=>∃b:Bool,(r=(.a (bA b) :RV))/\a_b (!b) (Qp (.a (iA 6)) Z5) (wI prog Z5 sections 3 n6 fun row2=>∃n8:Int,((List.take 1 row2) =([iD n8]:List D))/\DCalls prog j_h [iA n8] Z5 (fun r1 Z6=>∃n9:Int,(r1=(.a (iA n9) :RV))/\DCalls prog d_v [iA n7,iA 0, .one (iD (w64 (n9 - 1)))] Z6 (fun r2 Z7=>∃b1:Bool,(r2=(.a (bA b1) :RV))/\a_b (!b1) (Qp (.a (iA 6)) Z7) (∃r3:Option A,(h_o prog b_3 Z7 (.omap id) (.agg [iD n6,iD n7]) r3)/\∃n10:Int,((Option.getD r3 (iA 0)) =(iA n10:A))/\a_b (decide (n10 > 0)) (Qp (.a (iA 6)) Z7) (∃r4:Option A,(h_o prog b_3 Z7 (.omap id) (.agg [iD n6,iD n7]) r4)/\∃n11:Int,((Option.getD r4 (iA 0)) =(iA n11:A))/\a_jy prog b_3 Z7 (.omap id) (.agg [iD n6,iD n7]) (iA 0) (fun (v:A)=>fun n12 Z8=>a_ec Z8 (.omap id) n12 (.one (iD (w64 (n11+1)))) (fun Z9=>(([[iD n1,iD n2,iD n3,iD n4]]:List (List D)) =([[iD n1,iD n2,iD n3,iD n4]]:List (List D)))/\(I1 (w64 (n5+1)) Z9)/\((μ1 (w64 (n5+1)) Z9) < (μ1 n5 Z4))))))))))) (a_b (n1 == n3) (Qp (.a (iA 6)) Z4) ((I (w64 (n+1)) Z4)/\((μ (w64 (n+1)) Z4) < (μ n Z2)))))) (Fw.newObj Z2 (.mp 0 []) (fun id1 Z3=>wL sections fun len1=>∃I1:Int->Store->Prop,∃μ1:Int->Store->Nat,(I1 0 Z3)/\∀n1:Int,∀Z4,(I1 n1 Z4)->a_b (decide (n1 < (len1:Int))) (wI prog Z4 sections 3 n1 fun row=>∃n2 n3 n4:Int,((List.take 3 row) =([iD n2,iD n3,iD n4]:List D))/\∀R1:Store->Prop,(∀Z5,(a_b (n4 != 0) (a_b (n2 != 0) (Qp (.a (iA 6)) Z5) (∃r:Option A,(h_o prog b_3 Z5 (.omap id) (.agg [iD n1,iD 1]) r)/\∃n5:Int,((Option.getD r (iA 0)) =(iA n5:A))/\a_b (decide (n5 > 0)) (Qp (.a (iA 6)) Z5) (∃r1:Option A,(h_o prog a_e Z5 (.omap id1) (iA n4) r1)/\∃n6:Int,((Option.getD r1 (iA 0)) =(iA n6:A))/\a_b (decide (n6 > 0)) (Qp (.a (iA 6)) Z5) (∃r2:Option A,(h_o prog a_e Z5 (.omap id1) (iA n4) r2)/\∃n7:Int,((Option.getD r2 (iA 0)) =(iA n7:A))/\MPut prog a_e Z5 (.omap id1) (iA n4) (.one (iD (w64 (n7+1)))) (fun Z6=>(I1 (w64 (n1+1)) Z6)/\((μ1 (w64 (n1+1)) Z6) < (μ1 n1 Z4))))))) (∃r:Option A,(h_o prog a_e Z5 (.omap id1) (iA n4) r)/\∃n5:Int,((Option.getD r (iA 0)) =(iA n5:A))/\MPut prog a_e Z5 (.omap id1) (iA n4) (.one (iD (w64 (n5+1)))) (fun Z6=>(I1 (w64 (n1+1)) Z6)/\((μ1 (w64 (n1+1)) Z6) < (μ1 n1 Z4)))))->R1 Z5)->DCalls prog j_h [iA n2] Z4 (fun r Z5=>∃n5:Int,(r=(.a (iA n5) :RV))/\a_b (n5 == 0) (Qp (.a (iA 6)) Z5) (DCalls prog d_v [iA n3,iA 0,iA 3] Z5 (fun r1 Z6=>∃b:Bool,(r1=(.a (bA b) :RV))/\a_b (!b) (Qp (.a (iA 6)) Z6) (DCalls prog d_v [iA n4,iA 0,iA 3] Z6 (fun r2 Z7=>∃b1:Bool,(r2=(.a (bA b1) :RV))/\a_b (!b1) (Qp (.a (iA 6)) Z7) ((([[iD n2,iD n3,iD n4]]:List (List D)) =([[iD n2,iD n3,iD n4]]:List (List D)))/\R1 Z7))))))) (Qp (.a (iA 0)) Z4)))))->R Z)->wL sections fun len=>DCalls prog d_v [iA (len:Int),iA 1,iA 16] σ (fun r Z=>∃b:Bool,(r=(.a (bA b) :RV))/\a_b (!b) (Qp (.a (iA 6)) Z) (wL joints fun len1=>a_b (decide ((len1:Int) > 24)) (Qp (.a (iA 6)) Z) (R Z)))
theorem a_k1 (sections joints:D)(σ:Store)(Qp:RV->Store->Prop)(h:a_ma sections joints σ Qp) :DCalls prog o_y [.one sections, .one joints] σ Qp:=
 a_a mixed (by kernel_rfl) Tryz.func78 a_hh (Eq.mp (by kernel_rfl) h)
def a_cu:Ann:= { }
def a_e5 (n lo hi:Int)(σ:Store)(Qp:RV->Store->Prop) :Prop:=
 a_b (decide (lo<=n)) (Qp (.a (.one (.bool (decide (n<=hi))))) σ) (Qp (.a (bA false)) σ)
theorem a_fz (n lo hi:Int)(σ:Store)(Qp:RV->Store->Prop)(h:a_e5 n lo hi σ Qp) :DCalls prog c_4 [iA n,iA lo,iA hi] σ Qp:=
 a_a mixed (by kernel_rfl) Tryz.func82 a_cu (Eq.mp (by kernel_rfl) h)
def a_kc:Ann:= { loops:= [(3,{ mods:= [(0,s6),(6,s6)],keep:= [5] })] }
def a_o9 (n width:Int)(σ:Store)(Qp:RV->Store->Prop) :Prop:=
 ((0:Int)<=width)/\(width<=width)/\(((1:Int) * width)<=(2 ^ 48))/\Fw.newObj σ (.live c_t (List.replicate (Int.toNat width) [.int .u8 0])) (fun id Z=>∃I:Int->Int->Store->Prop,∃μ:Int->Int->Store->Nat,(I n (w64 (width - 1)) Z)/\∀n1 n2:Int,∀Z1,(I n1 n2 Z1)->a_b (decide (n2>=0)) (∃len:Nat,(Idx prog Z1 (.osl id 0 (Int.toNat width)) 1 len)/\((0:Int)<=n2)/\(n2 < (len:Int))/\a_k [.int .u8 (IntKind.wrap .u8 (Int.tmod n1 256))] Z1 (.osl id 0 (Int.toNat width)) (Int.toNat n2) 0 (fun Z2=>(I (w64 (Int.tdiv n1 256)) (w64 (n2 - 1)) Z2)/\((μ (w64 (Int.tdiv n1 256)) (w64 (n2 - 1)) Z2) < (μ n1 n2 Z1)))) (∃b:ByteArray,(Fw.Rows prog Z1 c_t (.osl id 0 (Int.toNat width)) (c_3 b))/\Qp (.a (.one (.str b))) Z1))
theorem a_op (n width:Int)(σ:Store)(Qp:RV->Store->Prop)(h:a_o9 n width σ Qp) :DCalls prog j_g [iA n,iA width] σ Qp:=
 a_a mixed (by kernel_rfl) Tryz.func86 a_kc (Eq.mp (by kernel_rfl) h)
def a_ll:Ann:= { loops:= [(5,{ mods:= [(18,s6)],keep:= [2,7,16,17] }),(8,{ mods:= [(24,s6)],keep:= [2,7,9,16,17,18,23] })],splits:= [(11,(DT.split 5 7 (DT.leaf { ord:= [0,1,2,3,4,5,6,7,8,9,10,11],nb:= [1] }) (DT.leaf { ord:= [0,1,2,3,4,6,7,5,8,9,10,11],nb:= [1,3] })))] }
def a_oa (text:ByteArray)(kind:Int)(fields:D)(σ:Store)(Qp:RV->Store->Prop) :Prop:=
 DCalls prog e_v [.one (.str text)] σ (fun r Z=>∃d:D,(r=(.a (.one d) :RV))/\DCalls prog c_w [.one d] Z (fun r1 Z1=>∃n:Int,(r1=(.a (iA n) :RV))/\a_b (n != kind) (Qp (.a (iA 3)) Z1) (wL fields fun len=>∃I:Int->Store->Prop,∃μ:Int->Store->Nat,(I 0 Z1)/\∀n1:Int,∀Z2,(I n1 Z2)->a_b (decide (n1 < (len:Int))) (wI prog Z2 fields 3 n1 fun row=>∃d1:D,∃n2 n3:Int,((List.take 3 row) =([d1,iD n2,iD n3]:List D))/\∃I1:Int->Store->Prop,∃μ1:Int->Store->Nat,(I1 0 Z2)/\∀n4:Int,∀Z3,(I1 n4 Z3)->a_b (decide (n4 < n2)) (DCalls prog g_6 [.one d] Z3 (fun r2 Z4=>∃n5:Int,(r2=(.a (iA n5) :RV))/\a_b (n5 == 0) (Qp (.a (iA 3)) Z4) ((wR d1 Z4 fun s i off row1=>∃d2:D,((List.take 1 (List.drop off row1)) =([d2]:List D))/\DCalls prog c_w [.one d] Z4 (fun r3 Z5=>∃n6:Int,(r3=(.a (iA n6) :RV))/\Fw.newObj Z5 (.live a_e [[iD n6]]) (fun id Z6=>a_j prog Z6 a_e 8 d2 (.osl id 0 1) (fun d3 Z7=>(a_u d1)/\∃s1:D,∃i1 off1:Nat,(d1=(.el s1 i1 off1:D))/\a_k [d3] Z7 s1 i1 off1 (fun Z8=>(([[d1,iD n2,iD n3]]:List (List D)) =([[d1,iD n2,iD n3]]:List (List D)))/\(I1 (w64 (n4+1)) Z8)/\((μ1 (w64 (n4+1)) Z8) < (μ1 n4 Z3)))))))/\(a_u d1)/\DCalls prog c_w [.one d] Z4 (fun r3 Z5=>∃n6:Int,(r3=(.a (iA n6) :RV))/\∃s:D,∃i off:Nat,(d1=(.el s i off:D))/\∃row1:List D,(Row Z5 s i row1)/\∃d2:D,((List.take 1 (List.drop off row1)) =([d2]:List D))/\Fw.newObj Z5 (.live a_e [[iD n6]]) (fun id Z6=>a_j prog Z6 a_e 8 d2 (.osl id 0 1) (fun d3 Z7=>(a_u d1)/\∃s1:D,∃i1 off1:Nat,(d1=(.el s1 i1 off1:D))/\a_k [d3] Z7 s1 i1 off1 (fun Z8=>(([[d1,iD n2,iD n3]]:List (List D)) =([[d1,iD n2,iD n3]]:List (List D)))/\(I1 (w64 (n4+1)) Z8)/\((μ1 (w64 (n4+1)) Z8) < (μ1 n4 Z3))))))))) ((I (w64 (n1+1)) Z3)/\((μ (w64 (n1+1)) Z3) < (μ n1 Z2)))) (DCalls prog i_k [.one d] Z2 (fun r2 Z3=>∃n2:Int,(r2=(.a (iA n2) :RV))/\a_b (n2 != 0) (Qp (.a (iA 3)) Z3) (DCalls prog o_3 [.one fields] Z3 (fun r3 Z4=>∃b:Bool,(r3=(.a (bA b) :RV))/\a_b (!b) (Qp (.a (iA 3)) Z4) (Qp (.a (iA 0)) Z4))))))))
theorem a_om (text:ByteArray)(kind:Int)(fields:D)(σ:Store)(Qp:RV->Store->Prop)(h:a_oa text kind fields σ Qp) :DCalls prog q_k [.one (.str text),iA kind, .one fields] σ Qp:=
 a_a mixed (by kernel_rfl) Tryz.func90 a_ll (Eq.mp (by kernel_rfl) h)
def w_l:Ann:= { cbs:= [1],loops:= [(2,{ mods:= [(8,s6)],keep:= [1,6,7] })] }
def y_k (c0 c1 c2 c3 c4:D)(c5 c6 c7 c8:Int)(σ:Store)(Qp:RV->Store->Prop) :Prop:=
 wL c3 fun len=>∃I:Int->Store->Prop,∃μ:Int->Store->Nat,(I 0 σ)/\∀n:Int,∀Z,(I n Z)->a_b (decide (n < (len:Int))) (wI prog Z c3 1 n fun row=>∃n1:Int,((List.take 1 row) =([iD n1]:List D))/\DCalls prog f_7 [.agg [c0,c1,c2,c3,c4,iD c5,iD c6,iD c7,iD c8],iA n1] Z (fun r Z1=>∃n2:Int,(r=(.a (iA n2) :RV))/\a_b (decide (n2 < 0)) (Qp (.a (bA false)) Z1) (wI prog Z1 c0 3 n1 fun row1=>∃n3:Int,((List.take 1 (List.drop 2 row1)) =([iD n3]:List D))/\a_b (n3 != 0) (Qp (.a (bA false)) Z1) (∃len3:Nat,(IdxN prog Z1 c3 1 len3)/\((0:Int)<=0)/\((0:Int)<=n)/\(n<=(len3:Int))/\DCalls prog d_r [.one (h_u c3 0 (Int.toNat n)),iA n1] Z1 (fun r1 Z2=>∃b:Bool,(r1=(.a (bA b) :RV))/\a_b b (Qp (.a (bA false)) Z2) ((I (w64 (n+1)) Z2)/\((μ (w64 (n+1)) Z2) < (μ n Z)))))))) (wL c3 fun len1=>Qp (.a (.one (.bool (decide ((len1:Int)<=4))))) Z)
theorem y_2 (c0 c1 c2 c3 c4:D)(c5 c6 c7 c8:Int)(σ:Store)(Qp:RV->Store->Prop)(h:y_k c0 c1 c2 c3 c4 c5 c6 c7 c8 σ Qp) :DCalls prog h_0 [.agg [c0,c1,c2,c3,c4,iD c5,iD c6,iD c7,iD c8]] σ Qp:=
 a_a mixed (by kernel_rfl) Tryz.func98 w_l (Eq.mp (by kernel_rfl) h)
def x_6:Ann:= { cbs:= [2],draws:= [(1,{ ord:= [0,1,2,3,4,5,6,7,8,9,10,11,12,13,14,15,16,17,18,19,20,21,22,23,24,25,26,27,28,29] }),(3,{ ord:= [0,1,2,3,4,5,6,7,8,9,10,11] })] }
def z_v (c0 c1 c2 c3 c4:D)(c5 c6 c7 c8 r:Int)(σ:Store)(Qp:RV->Store->Prop) :Prop:=
 a_b (decide (r < 0)) (Qp (.a (iA (-1))) σ) (wL c4 fun len=>a_b (decide (r>=(len:Int))) (Qp (.a (iA (-1))) σ) (wI prog σ c4 6 r fun row=>∃n:Int,((List.take 1 row) =([iD n]:List D))/\a_b (decide (n < 0)) (Qp (.a (iA (-1))) σ) (wI prog σ c4 6 r fun row1=>∃n1:Int,((List.take 1 row1) =([iD n1]:List D))/\wL c2 fun len3=>a_b (decide (n1>=(len3:Int))) (Qp (.a (iA (-1))) σ) (wI prog σ c4 6 r fun row2=>∃n2:Int,((List.take 1 row2) =([iD n2]:List D))/\wI prog σ c2 2 n2 fun row3=>∃n3:Int,((List.take 1 row3) =([iD n3]:List D))/\Qp (.a (iA n3)) σ))))
theorem z_9 (c0 c1 c2 c3 c4:D)(c5 c6 c7 c8 r:Int)(σ:Store)(Qp:RV->Store->Prop)(h:z_v c0 c1 c2 c3 c4 c5 c6 c7 c8 r σ Qp) :DCalls prog i_w [.agg [c0,c1,c2,c3,c4,iD c5,iD c6,iD c7,iD c8],iA r] σ Qp:=
 a_a mixed (by kernel_rfl) Tryz.func102 x_6 (Eq.mp (by kernel_rfl) h)
def a_cn:Ann:= { cbs:= [3],loops:= [(2,{ mods:= [(12,s6)],keep:= [1,2,10,11] })] }
def a_dv (c0 c1 c2 c3 c4:D)(c5 c6 c7 c8 s e_:Int)(σ:Store)(Qp:RV->Store->Prop) :Prop:=
 wL c2 fun len=>∃I:Int->Store->Prop,∃μ:Int->Store->Nat,(I 0 σ)/\∀n:Int,∀Z,(I n Z)->a_b (decide (n < (len:Int))) (wI prog Z c2 2 n fun row=>∃n1 n2:Int,((List.take 2 row) =([iD n1,iD n2]:List D))/\a_b (n1 == s) (a_b (n2 == e_) (Qp (.a (iA n)) Z) ((I (w64 (n+1)) Z)/\((μ (w64 (n+1)) Z) < (μ n Z)))) ((I (w64 (n+1)) Z)/\((μ (w64 (n+1)) Z) < (μ n Z)))) (Qp (.a (iA (-1))) Z)
theorem a_ep (c0 c1 c2 c3 c4:D)(c5 c6 c7 c8 s e_:Int)(σ:Store)(Qp:RV->Store->Prop)(h:a_dv c0 c1 c2 c3 c4 c5 c6 c7 c8 s e_ σ Qp) :DCalls prog f_w [.agg [c0,c1,c2,c3,c4,iD c5,iD c6,iD c7,iD c8],iA s,iA e_] σ Qp:=
 a_a mixed (by kernel_rfl) Tryz.func106 a_cn (Eq.mp (by kernel_rfl) h)
def t_u:Ann:= { cbs:= [2],draws:= [(1,{ ord:= [0,1,2,3,4,5,6,7] }),(2,{ ord:= [0,1,3,4,5,6,8,9,10,11,12,13,14,15,18,2,7,16,17,19],nb:= [14] })] }
def w_f (h0 h1 h2 h3:D)(text:ByteArray)(σ:Store)(Qp:RV->Store->Prop) :Prop:=
 wL h1 fun len=>wL h3 fun len1=>wL h2 fun len2=>DCalls prog i_l [.one (.str text),iA 1,iA (len:Int)] σ (fun r Z=>∃d:D,(r=(.a (.one d) :RV))/\DCalls prog i_l [.one (.str text), .one (iD (w64 (1+ (len:Int)))),iA (len1:Int)] Z (fun r1 Z1=>∃d1:D,(r1=(.a (.one d1) :RV))/\DCalls prog i_l [.one (.str text), .one (iD (w64 ((w64 (1+ (len:Int))) + (len1:Int)))),iA (len2:Int)] Z1 (fun r2 Z2=>∃d2:D,(r2=(.a (.one d2) :RV))/\DCalls prog k_9 [.agg [h0,h1,h2,h3], .agg [d,d1,d2]] Z2 (fun r3 Z3=>∃s:ByteArray,∃n:Int,(r3=(.tup [.one (.str s),iA n]:RV))/\a_b (n != 0) (Qp (.tup [.agg [.nils, .nils, .nils],iA 3]) Z3) (a_b (!((ByteArray.toList s) ==(ByteArray.toList text))) (Qp (.tup [.agg [.nils, .nils, .nils],iA 3]) Z3) (Qp (.tup [.agg [d,d1,d2],iA 0]) Z3))))))
theorem u_e (h0 h1 h2 h3:D)(text:ByteArray)(σ:Store)(Qp:RV->Store->Prop)(h:w_f h0 h1 h2 h3 text σ Qp) :DCalls prog f_a [.agg [h0,h1,h2,h3], .one (.str text)] σ Qp:=
 a_a mixed (by kernel_rfl) Tryz.func110 t_u (Eq.mp (by kernel_rfl) h)
def n_7:Ann:= { draws:= [(5,{ ord:= [0,1,2,3,4,5,6,7] })],wide:= [31] }
def p_r (s:D)(i j:Int)(σ:Store)(Qp:RV->Store->Prop) :Prop:=
 wL s fun len=>wL s fun len1=>((0:Int)<=i)/\(i<=j)/\(j<=(len:Int))/\((len:Int)<=(len1:Int))/\a_b (i == j) (Qp (.a (.one s)) σ) (wL s fun len2=>∃len3:Nat,(IdxN prog σ s 2 len3)/\((0:Int)<=0)/\((0:Int)<=i)/\(i<=(len3:Int))/\∃len4:Nat,(IdxN prog σ s 2 len4)/\((0:Int)<=j)/\(j<=(len4:Int))/\a_j prog σ a_m 32 (h_u s 0 (Int.toNat i)) (h_u s (Int.toNat j) len4) (fun d Z=>wL d fun len5=>∃n:Nat,(Wide prog Z d 2 n)/\((0:Int)<=(len5:Int))/\((len5:Int)<=(len2:Int))/\((len2:Int)<=(n:Int))/\∃rd:List (List D),(Fw.Rows prog Z a_m (h_u d (Int.toNat (len5:Int)) (Int.toNat (len2:Int))) rd)/\(((rd=([]:List (List D)))/\Qp (.a (.one d)) Z)\/(∃id i0 len6:Nat,∃t:TypeId,∃rows:List (List D),((h_u d (Int.toNat (len5:Int)) (Int.toNat (len2:Int))) =(.osl id i0 len6:D))/\((Z id) =(.live t rows:SO))/\Qp (.a (.one d)) (Store.set Z id (.live t (HAppend.hAppend (HAppend.hAppend (List.take i0 rows) (List.replicate len6 [.nils,iD 0])) (List.drop (i0+len6) rows))))))))
theorem p_n (s:D)(i j:Int)(σ:Store)(Qp:RV->Store->Prop)(h:p_r s i j σ Qp) :DCalls prog f_m [.one s,iA i,iA j] σ Qp:=
 a_a mixed (by kernel_rfl) Tryz.func114 n_7 (Eq.mp (by kernel_rfl) h)
def a_ch:Ann:= { }
def a_eo (n lo hi:Int)(σ:Store)(Qp:RV->Store->Prop) :Prop:=
 a_b (decide (lo<=n)) (Qp (.a (.one (.bool (decide (n<=hi))))) σ) (Qp (.a (bA false)) σ)
theorem a_ea (n lo hi:Int)(σ:Store)(Qp:RV->Store->Prop)(h:a_eo n lo hi σ Qp) :DCalls prog d_v [iA n,iA lo,iA hi] σ Qp:=
 a_a mixed (by kernel_rfl) Tryz.func118 a_ch (Eq.mp (by kernel_rfl) h)
def q_r:Ann:= { draws:= [(6,{ ord:= [0,1,2,3,4,5,6,7,8] })],loops:= [(4,{ mods:= [(13,s6)],keep:= [0,1,12] })] }
def s_1 (s1 s2:D)(σ:Store)(Qp:RV->Store->Prop) :Prop:=
 wL s1 fun len=>wL s2 fun len1=>a_b ((len:Int) !=(len1:Int)) (Qp (.a (bA false)) σ) (wL s1 fun len2=>∃I:Int->Store->Prop,∃μ:Int->Store->Nat,(I 0 σ)/\∀n:Int,∀Z,(I n Z)->a_b (decide (n < (len2:Int))) (wI prog Z s1 2 n fun row=>∃n1 n2:Int,((List.take 2 row) =([iD n1,iD n2]:List D))/\wI prog Z s2 2 n fun row1=>∃n3 n4:Int,((List.take 2 row1) =([iD n3,iD n4]:List D))/\a_b (!((n1 == n3) && (n2 == n4))) (Qp (.a (bA false)) Z) ((I (w64 (n+1)) Z)/\((μ (w64 (n+1)) Z) < (μ n Z)))) (Qp (.a (bA true)) Z))
theorem t_s (s1 s2:D)(σ:Store)(Qp:RV->Store->Prop)(h:s_1 s1 s2 σ Qp) :DCalls prog g_j [.one s1, .one s2] σ Qp:=
 a_a mixed (by kernel_rfl) Tryz.func122 q_r (Eq.mp (by kernel_rfl) h)
def r_g:Ann:= { cbs:= [2,3],joins:= [(4,{ keep:= [2,3,5] })] }
def t_o (p0 p1 p2 p3 p4:D)(p5 p6 p7 p8 r0 r1:Int)(r2 r3 r4:D)(r5:Bool)(σ:Store)(Qp:RV->Store->Prop) :Prop:=
 DCalls prog c_y [.agg [p0,p1,p2,p3,p4,iD p5,iD p6,iD p7,iD p8],iA r1] σ (fun r Z=>∃n n1:Int,∃b:Bool,(r=(.tup [.agg [iD n,iD n1],bA b]:RV))/\∀R:Store->Prop,(∀Z1,(DCalls prog d_4 [.one p1,iA n,iA n1] Z1 (fun r6 Z2=>∃n2 n3:Int,∃b1:Bool,(r6=(.tup [iA n2,iA n3,bA b1]:RV))/\DCalls prog b_0 [.agg [p0,p1,p2,p3,p4,iD p5,iD p6,iD p7,iD p8],iA n2] Z2 (fun r7 Z3=>∃n4 n5 n6:Int,∃b2:Bool,(r7=(.tup [.agg [iD n4,iD n5,iD n6],bA b2]:RV))/\a_b (!b1) (Qp (.a (.one .nils)) Z3) (a_b (!b2) (Qp (.a (.one .nils)) Z3) (a_b (n6 != 0) (Qp (.a (.one .nils)) Z3) (DCalls prog o_v [.one r2,iA n2] Z3 (fun r8 Z4=>∃b3:Bool,(r8=(.a (bA b3) :RV))/\a_b b3 (Qp (.a (.one .nils)) Z4) (DCalls prog e_a [.agg [p0,p1,p2,p3,p4,iD p5,iD p6,iD p7,iD p8], .agg [iD r0,iD r1,r2,r3,r4, .bool r5]] Z4 (fun r9 Z5=>∃n7:Int,(r9=(.a (iA n7) :RV))/\a_b (n2 == n7) (Qp (.a (.one .nils)) Z5) (Fw.newObj Z5 (.live a_e [[iD n2]]) (fun id Z6=>Qp (.a (.one (.osl id 0 1))) Z6)))))))))))->R Z1)->a_b r5 (Qp (.a (.one .nils)) Z) (a_b (!b) (Qp (.a (.one .nils)) Z) ((([[iD n,iD n1]]:List (List D)) =([[iD n,iD n1]]:List (List D)))/\R Z)))
theorem t_c (p0 p1 p2 p3 p4:D)(p5 p6 p7 p8 r0 r1:Int)(r2 r3 r4:D)(r5:Bool)(σ:Store)(Qp:RV->Store->Prop)(h:t_o p0 p1 p2 p3 p4 p5 p6 p7 p8 r0 r1 r2 r3 r4 r5 σ Qp) :DCalls prog g_l [.agg [p0,p1,p2,p3,p4,iD p5,iD p6,iD p7,iD p8], .agg [iD r0,iD r1,r2,r3,r4, .bool r5]] σ Qp:=
 a_a mixed (by kernel_rfl) Tryz.func126 r_g (Eq.mp (by kernel_rfl) h)
def t_k:Ann:= { }
def u_2 (r:D)(σ:Store)(Qp:RV->Store->Prop) :Prop:=
 DCalls prog d_d [.one r,iA 1] σ (fun r1 Z=>∃n:Int,(r1=(.a (iA n) :RV))/\Qp (.a (iA n)) Z)
theorem w_g (r:D)(σ:Store)(Qp:RV->Store->Prop)(h:u_2 r σ Qp) :DCalls prog c_w [.one r] σ Qp:=
 a_a mixed (by kernel_rfl) Tryz.func131 t_k (Eq.mp (by kernel_rfl) h)
def a_ox:Ann:= { esc:= [3],loops:= [(5,{ mods:= [(16,s6)],keep:= [3,14,15] })] }
def a_q9 (list:D)(σ:Store)(Qp:RV->Store->Prop) :Prop:=
 wL list fun len=>a_b ((len:Int) == 0) (Qp (.a (iA 0)) σ) (wI prog σ list 1 0 fun row=>∃n:Int,((List.take 1 row) =([iD n]:List D))/\Fw.newObj σ (.live n_f [[iD 0,iD 0]]) (fun id Z=>a_k [iD n,iD 0] Z (.osl id 0 1) 0 0 (fun Z1=>∃len2:Nat,(IdxN prog Z1 list 1 len2)/\((0:Int)<=1)/\((1:Int)<=(len2:Int))/\∃len3:Nat,(Len (h_u list 1 len2) len3)/\∃I:Int->Store->Prop,∃μ:Int->Store->Nat,(I 0 Z1)/\∀n1:Int,∀Z2,(I n1 Z2)->a_b (decide (n1 < (len3:Int))) (∃len4:Nat,(Idx prog Z2 (h_u list 1 len2) 1 len4)/\((0:Int)<=n1)/\(n1 < (len4:Int))/\∃row1:List D,(Row Z2 (h_u list 1 len2) (Int.toNat n1) row1)/\∃n2:Int,((List.take 1 row1) =([iD n2]:List D))/\DCalls prog k_2 [.one (.el (.osl id 0 1) 0 0),iA n2] Z2 (fun r Z3=>(r=(.tup []:RV))/\(I (w64 (n1+1)) Z3)/\((μ (w64 (n1+1)) Z3) < (μ n1 Z2)))) (∃row1:List D,(Row Z2 (.osl id 0 1) 0 row1)/\∃n2:Int,((List.take 1 (List.drop 1 row1)) =([iD n2]:List D))/\Qp (.a (iA n2)) Z2))))
theorem a_qz (list:D)(σ:Store)(Qp:RV->Store->Prop)(h:a_q9 list σ Qp) :DCalls prog k_4 [.one list] σ Qp:=
 a_a mixed (by kernel_rfl) Tryz.func135 a_ox (Eq.mp (by kernel_rfl) h)
def a_gi:Ann:= { loops:= [(3,{ mods:= [(7,s6),(12,s6)],keep:= [1,2,10,11] })],joins:= [(7,{ mods:= [(7,s6)],keep:= [1,2,9,10,11,12] })] }
def a_gu (joints:D)(section_ end_:Int)(σ:Store)(Qp:RV->Store->Prop) :Prop:=
 wL joints fun len=>∃I:Int->Int->Store->Prop,∃μ:Int->Int->Store->Nat,(I 0 0 σ)/\∀n n1:Int,∀Z,(I n n1 Z)->a_b (decide (n1 < (len:Int))) (wI prog Z joints 4 n1 fun row=>∃n2 n3 n4 n5:Int,((List.take 4 row) =([iD n2,iD n3,iD n4,iD n5]:List D))/\∀R:Int->Store->Prop,(∀n6:Int,∀Z1,(a_b (n4 == section_) (a_b (n5 == end_) ((I (w64 (n6+1)) (w64 (n1+1)) Z1)/\((μ (w64 (n6+1)) (w64 (n1+1)) Z1) < (μ n n1 Z))) ((I n6 (w64 (n1+1)) Z1)/\((μ n6 (w64 (n1+1)) Z1) < (μ n n1 Z)))) ((I n6 (w64 (n1+1)) Z1)/\((μ n6 (w64 (n1+1)) Z1) < (μ n n1 Z))))->R n6 Z1)->a_b (n2 == section_) (a_b (n3 == end_) ((([[iD n2,iD n3,iD n4,iD n5]]:List (List D)) =([[iD n2,iD n3,iD n4,iD n5]]:List (List D)))/\R (w64 (n+1)) Z) ((([[iD n2,iD n3,iD n4,iD n5]]:List (List D)) =([[iD n2,iD n3,iD n4,iD n5]]:List (List D)))/\R n Z)) ((([[iD n2,iD n3,iD n4,iD n5]]:List (List D)) =([[iD n2,iD n3,iD n4,iD n5]]:List (List D)))/\R n Z)) (Qp (.a (iA n)) Z)
theorem a_ii (joints:D)(section_ end_:Int)(σ:Store)(Qp:RV->Store->Prop)(h:a_gu joints section_ end_ σ Qp) :DCalls prog g_z [.one joints,iA section_,iA end_] σ Qp:=
 a_a mixed (by kernel_rfl) Tryz.func143 a_gi (Eq.mp (by kernel_rfl) h)
def a_ly:Ann:= { loops:= [(2,{ mods:= [(13,s6)],keep:= [1,2,11,12] })] }
def a_o2 (kind in_ out_:Int)(σ:Store)(Qp:RV->Store->Prop) :Prop:=
 DCalls prog i_o [iA kind] σ (fun r Z=>∃d:D,(r=(.a (.one d) :RV))/\wL d fun len=>∃I:Int->Store->Prop,∃μ:Int->Store->Nat,(I 0 Z)/\∀n:Int,∀Z1,(I n Z1)->a_b (decide (n < (len:Int))) (wI prog Z1 d 3 n fun row=>∃n1 n2 n3:Int,((List.take 3 row) =([iD n1,iD n2,iD n3]:List D))/\a_b (n1 == in_) (a_b (n2 == out_) (Qp (.tup [iA n3,bA true]) Z1) (a_b (n2 == in_) (a_b (n1 == out_) (Qp (.tup [iA n3,bA true]) Z1) ((I (w64 (n+1)) Z1)/\((μ (w64 (n+1)) Z1) < (μ n Z1)))) ((I (w64 (n+1)) Z1)/\((μ (w64 (n+1)) Z1) < (μ n Z1))))) (a_b (n2 == in_) (a_b (n1 == out_) (Qp (.tup [iA n3,bA true]) Z1) ((I (w64 (n+1)) Z1)/\((μ (w64 (n+1)) Z1) < (μ n Z1)))) ((I (w64 (n+1)) Z1)/\((μ (w64 (n+1)) Z1) < (μ n Z1))))) (Qp (.tup [iA 0,bA false]) Z1))
theorem a_nz (kind in_ out_:Int)(σ:Store)(Qp:RV->Store->Prop)(h:a_o2 kind in_ out_ σ Qp) :DCalls prog r_j [iA kind,iA in_,iA out_] σ Qp:=
 a_a mixed (by kernel_rfl) Tryz.func147 a_ly (Eq.mp (by kernel_rfl) h)
def a_ik:Ann:= { loops:= [(3,{ mods:= [(7,SlotSh.one (Sh.any)),(8,s6)],keep:= [0,1,2] })] }
def a_lb (text:ByteArray)(at_ n:Int)(σ:Store)(Qp:RV->Store->Prop) :Prop:=
 ∃I:D->Int->Store->Prop,∃μ:D->Int->Store->Nat,(I .nils at_ σ)/\∀d:D,∀n1:Int,∀Z,(I d n1 Z)->a_b (decide (n1 < (w64 (at_+n)))) (a_b (decide (n1 < (ByteArray.size text:Int))) (∃n2:Int,(r_k text n1 n2)/\Fw.newObj Z (.live a_e [[iD (w64 n2)]]) (fun id Z1=>a_j prog Z1 a_e 8 d (.osl id 0 1) (fun d1 Z2=>(I d1 (w64 (n1+1)) Z2)/\((μ d1 (w64 (n1+1)) Z2) < (μ d n1 Z))))) (Qp (.a (.one d)) Z)) (Qp (.a (.one d)) Z)
theorem a_lc (text:ByteArray)(at_ n:Int)(σ:Store)(Qp:RV->Store->Prop)(h:a_lb text at_ n σ Qp) :DCalls prog i_l [.one (.str text),iA at_,iA n] σ Qp:=
 a_a mixed (by kernel_rfl) Tryz.func151 a_ik (Eq.mp (by kernel_rfl) h)
def l_3:Ann:= { cbs:= [3] }
def m_8 (s:D)(v0 v1:Int)(σ:Store)(Qp:RV->Store->Prop) :Prop:=
 DCalls prog d_z [.one s, .agg [iD v0,iD v1]] σ (fun r Z=>∃n:Int,(r=(.a (iA n) :RV))/\Qp (.a (.one (.bool (decide (n>=0))))) Z)
theorem m_4 (s:D)(v0 v1:Int)(σ:Store)(Qp:RV->Store->Prop)(h:m_8 s v0 v1 σ Qp) :DCalls prog e_d [.one s, .agg [iD v0,iD v1]] σ Qp:=
 a_a mixed (by kernel_rfl) Tryz.func155 l_3 (Eq.mp (by kernel_rfl) h)
def a_nl:Ann:= { }
def a_fk (text:ByteArray)(σ:Store)(Qp:RV->Store->Prop) :Prop:=
 a_b (decide ((ByteArray.size text:Int) < 6)) (Qp (.tup [iA 0,iA 1]) σ) (DCalls prog e_v [.one (.str text)] σ (fun r Z=>∃d:D,(r=(.a (.one d) :RV))/\DCalls prog e_5 [.one d] Z (fun r1 Z1=>∃n:Int,(r1=(.a (iA n) :RV))/\a_b (decide (n > 1024)) (Qp (.tup [iA 0,iA 2]) Z1) (a_b (decide ((ByteArray.size text:Int) < (w64 (n+6)))) (Qp (.tup [iA 0,iA 1]) Z1) (Qp (.tup [.one (iD (w64 (n+6))),iA 0]) Z1)))))
theorem a_r5 (text:ByteArray)(σ:Store)(Qp:RV->Store->Prop)(h:a_fk text σ Qp) :DCalls prog o_g [.one (.str text)] σ Qp:=
 a_a mixed (by kernel_rfl) Tryz.func159 a_nl (Eq.mp (by kernel_rfl) h)
def a_ct:Ann:= { draws:= [(1,{ ord:= [0,1,2,3,4,5,6,7,8,9,10,11,12,13,14],sp:= [9] })] }
def a_d7 (r:D)(n:Int)(σ:Store)(Qp:RV->Store->Prop) :Prop:=
 wR r σ fun s i off row=>∃n1:Int,((List.take 1 (List.drop (off+0) row)) =([iD n1]:List D))/\DCalls prog m_f [iA n1,iA n] σ (fun r1 Z=>∃b:Bool,(r1=(.a (bA b) :RV))/\a_b b (∃pre:List A->Store->Prop,∃post:List A->Store->RV->Store->Prop,(b_7 prog n_u pre post)/\wR r Z fun s1 i1 off1 row1=>∃n2:Int,((List.take 1 (List.drop (off1+1) row1)) =([iD n2]:List D))/\wR r Z fun s2 i2 off2 row2=>∃n3:Int,((List.take 1 (List.drop (off2+0) row2)) =([iD n3]:List D))/\(pre [iA n3,iA n] Z)/\∀r2:RV,∀s3:Store,(post [iA n3,iA n] Z r2 s3)->∃n4:Int,(r2=(.a (iA n4) :RV))/\(a_u r)/\∃s4:D,∃i3 off3:Nat,(r=(.el s4 i3 off3:D))/\a_k [iD (w64 (n2+ (w64 (n4 - 1))))] s3 s4 i3 (off3+1) (fun Z1=>(a_u r)/\∃s5:D,∃i4 off4:Nat,(r=(.el s5 i4 off4:D))/\a_k [iD n] Z1 s5 i4 (off4+0) (fun Z2=>Qp (.tup []) Z2))) (Qp (.tup []) Z))
theorem a_gj (r:D)(n:Int)(σ:Store)(Qp:RV->Store->Prop)(h:a_d7 r n σ Qp) :DCalls prog k_2 [.one r,iA n] σ Qp:=
 a_a mixed (by kernel_rfl) Tryz.func163 a_ct (Eq.mp (by kernel_rfl) h)
def a_h2:Ann:= { }
def a_lg (kind:Int)(σ:Store)(Qp:RV->Store->Prop) :Prop:=
 a_b (kind == 0) (Fw.newObj σ (.live h_p [[iD 0,iD 1,iD 0]]) (fun id Z=>Qp (.a (.one (.osl id 0 1))) Z)) (a_b (kind == 1) (Fw.newObj σ (.live h_p [[iD 0,iD 1,iD 1],[iD 0,iD 2,iD 2]]) (fun id Z=>Qp (.a (.one (.osl id 0 2))) Z)) (a_b (kind == 2) (Fw.newObj σ (.live h_p [[iD 0,iD 1,iD 0],[iD 2,iD 3,iD 0]]) (fun id Z=>Qp (.a (.one (.osl id 0 2))) Z)) (Qp (.a (.one .nils)) σ)))
theorem a_lw (kind:Int)(σ:Store)(Qp:RV->Store->Prop)(h:a_lg kind σ Qp) :DCalls prog i_o [iA kind] σ Qp:=
 a_a mixed (by kernel_rfl) Tryz.func167 a_h2 (Eq.mp (by kernel_rfl) h)
def a_g8:Ann:= { cbs:= [2] }
def a_lk (s0 s1 s2:Int)(a1:D)(σ:Store)(Qp:RV->Store->Prop) :Prop:=
 ∃s:D,∃i off:Nat,(a1=(.el s i off:D))/\∃row:List D,(Row σ s i row)/\∃n:Int,((List.take 1 (List.drop off row)) =([iD n]:List D))/\Qp (.a (bA (s0 == n))) σ
theorem a_k9 (s0 s1 s2:Int)(a1:D)(σ:Store)(Qp:RV->Store->Prop)(h:a_lk s0 s1 s2 a1 σ Qp) :DCalls prog y_i [.agg [iD s0,iD s1,iD s2], .one a1] σ Qp:=
 a_a mixed (by kernel_rfl) Tryz.func171 a_g8 (Eq.mp (by kernel_rfl) h)
def a_hi:Ann:= { draws:= [(6,{ ord:= [0,1,2,3,4,5,6,7,8] })],joins:= [(3,{ keep:= [0,1] })] }
def a_l8 (text:ByteArray)(at_:Int)(σ:Store)(Qp:RV->Store->Prop) :Prop:=
 ∀R:Store->Prop,(∀Z,(((0:Int)<=at_)/\(at_<=(ByteArray.size text:Int))/\a_b (decide ((ByteArray.size (ByteArray.extract text (Int.toNat at_) (ByteArray.size text)) :Int) < 6)) (Qp (.tup [.one (.str (ByteArray.mk (List.toArray []))),iA 0,iA 1]) Z) (∃n:Int,(r_k (ByteArray.extract text (Int.toNat at_) (ByteArray.size text)) 0 n)/\∃n1:Int,(r_k (ByteArray.extract text (Int.toNat at_) (ByteArray.size text)) 1 n1)/\a_b (decide ((w64 ((w64 ((w64 n) * 256)) + (w64 n1))) > 1024)) (Qp (.tup [.one (.str (ByteArray.mk (List.toArray []))),iA 0,iA 2]) Z) (a_b (decide ((ByteArray.size (ByteArray.extract text (Int.toNat at_) (ByteArray.size text)) :Int) < (w64 ((w64 ((w64 ((w64 n) * 256)) + (w64 n1))) +6)))) (Qp (.tup [.one (.str (ByteArray.mk (List.toArray []))),iA 0,iA 1]) Z) (((0:Int)<=2)/\((2:Int)<=(w64 ((w64 ((w64 ((w64 n) * 256)) + (w64 n1))) +2)))/\((w64 ((w64 ((w64 ((w64 n) * 256)) + (w64 n1))) +2))<=(ByteArray.size (ByteArray.extract text (Int.toNat at_) (ByteArray.size text)) :Int))/\DCalls prog k_j [.one (.str (ByteArray.extract (ByteArray.extract text (Int.toNat at_) (ByteArray.size text)) 2 (Int.toNat (w64 ((w64 ((w64 ((w64 n) * 256)) + (w64 n1))) +2)))))] Z (fun r Z1=>∃s:ByteArray,∃n2:Int,(r=(.tup [.one (.str s),iA n2]:RV))/\((0:Int)<=0)/\((0:Int)<=(w64 ((w64 ((w64 ((w64 n) * 256)) + (w64 n1))) +6)))/\((w64 ((w64 ((w64 ((w64 n) * 256)) + (w64 n1))) +6))<=(ByteArray.size (ByteArray.extract text (Int.toNat at_) (ByteArray.size text)) :Int))/\a_b (!((ByteArray.toList s) ==(ByteArray.toList (ByteArray.extract (ByteArray.extract text (Int.toNat at_) (ByteArray.size text)) 0 (Int.toNat (w64 ((w64 ((w64 ((w64 n) * 256)) + (w64 n1))) +6))))))) (Qp (.tup [.one (.str (ByteArray.mk (List.toArray []))),iA 0,iA 4]) Z1) (Qp (.tup [.one (.str (ByteArray.extract (ByteArray.extract text (Int.toNat at_) (ByteArray.size text)) 2 (Int.toNat (w64 ((w64 ((w64 ((w64 n) * 256)) + (w64 n1))) +2))))), .one (iD (w64 ((w64 (at_+ (w64 ((w64 ((w64 n) * 256)) + (w64 n1))))) +6))),iA 0]) Z1))))))->R Z)->a_b (decide (at_ < 0)) (Qp (.tup [.one (.str (ByteArray.mk (List.toArray []))),iA 0,iA 20]) σ) (a_b (decide (at_ > (ByteArray.size text:Int))) (Qp (.tup [.one (.str (ByteArray.mk (List.toArray []))),iA 0,iA 20]) σ) (R σ))
theorem a_ke (text:ByteArray)(at_:Int)(σ:Store)(Qp:RV->Store->Prop)(h:a_l8 text at_ σ Qp) :DCalls prog o_0 [.one (.str text),iA at_] σ Qp:=
 a_a mixed (by kernel_rfl) Tryz.func175 a_hi (Eq.mp (by kernel_rfl) h)
end Go.Proofs.YtaklhjodjbgmgaaGreat
end
section
set_option maxRecDepth 20000
namespace Go.Proofs.YtaklhjodjbgmgaaGreat
open Go.Fw Go.Proofs Go.RowKit
open Go.Proofs.Tryz (prog)
variable {σ:Store}
theorem a_z3 (l:List (Int × Int × Int)) :∀row ∈ l.map encW,∀x ∈ row,Flat x:=by
 intro row hrow x hx
 obtain ⟨w,_,rfl⟩:=List.mem_map.1 hrow
 simp[encW] at hx
 rcases hx with rfl | rfl | rfl <;> exact .int _ _
def q_c (σ:Store)(t:TypeId)(k:Int)(r:RV)(σ':Store) :Prop:=σ'=σ/\∃d,r= .a (.one d)/\∀s,At prog s t d ((d_5 k).map encW)
theorem n_p {t:TypeId}(hc:prog.cellsOf t=3){k:Int}{rows:List (List D)}{n:Nat}{id:Nat}{σ':Store}(hn:n=rows.length)(hl:rows.length < 100)(hid:σ id= .free)(he:Ext σ σ')(hs:σ' id= .live t rows)(hr:rows=(d_5 k).map encW) :
   ∃r' σ'',Ret prog σ σ' (.a (.one (.osl id 0 n))) σ'' r'/\q_c σ t k r' σ'':=by
 have hat:At prog σ' t (.osl id 0 n) rows:=At.fresh hs (by omega) hn
 obtain ⟨d',h1,h2⟩:=b_s hat he (a_dg hid) (by rw[hr];exact a_z3 _)
 exact ⟨.a (.one d'),σ, .pure he h1,rfl,d',rfl,fun s=>hr ▸ h2 s⟩
theorem o_r (k:Int) :DCalls prog j_f [iA k] σ (q_c σ c_b k):=by
 refine (a_nu k σ _ ?_).ret (Q:=fun r s=>∃r' σ',Ret prog σ s r σ' r'/\q_c σ c_b k r' σ') (fun r s h=>h)
 refine bce (fun h0=>a_f fun id σ' hid _ he hs=>?_) (fun h0=>bce (fun h1=>a_f fun id σ' hid _ he hs=>?_) (fun h1=>bce (fun h2=>a_f fun id σ' hid _ he hs=>?_) (fun h2=>?_)))
 · exact n_p i_u rfl (by simp) hid he hs (by subst h0;rfl)
 · exact n_p i_u rfl (by simp) hid he hs (by subst h1;rfl)
 · exact n_p i_u rfl (by simp) hid he hs (by subst h2;rfl)
 · exact ⟨.a (.one .nils),σ, .pure (.refl _) .nils,rfl, .nils,rfl,fun s=>by simp[d_5,h0,h1,h2];exact .nil⟩
theorem m_p (k:Int) :DCalls prog i_o [iA k] σ (q_c σ h_p k):=by
 refine (a_lw k σ _ ?_).ret (Q:=fun r s=>∃r' σ',Ret prog σ s r σ' r'/\q_c σ h_p k r' σ') (fun r s h=>h)
 refine bce (fun h0=>a_f fun id σ' hid _ he hs=>?_) (fun h0=>bce (fun h1=>a_f fun id σ' hid _ he hs=>?_) (fun h1=>bce (fun h2=>a_f fun id σ' hid _ he hs=>?_) (fun h2=>?_)))
 · exact n_p h_n rfl (by simp) hid he hs (by subst h0;rfl)
 · exact n_p h_n rfl (by simp) hid he hs (by subst h1;rfl)
 · exact n_p h_n rfl (by simp) hid he hs (by subst h2;rfl)
 · exact ⟨.a (.one .nils),σ, .pure (.refl _) .nils,rfl, .nils,rfl,fun s=>by simp[d_5,h0,h1,h2];exact .nil⟩
theorem n_g (k:Int) :(d_5 k).length < 2 ^ 60:=by unfold d_5;split <;> (try split) <;> (try split) <;> simp
theorem o_j (k:Int) :Pure prog j_h [iA k] σ (.a (iA (b_v k))):=by
 refine a_ny k σ _ ((o_r k).mono ?_)
 rintro r σ' ⟨rfl,d,rfl,hd⟩
 refine ⟨d,rfl,(hd σ').lenK ⟨fun n m s=>s=σ'/\Rng (d_5 k) (fun r=>r.foldl o_e n=b_v k) m,fun n m _=>(d_5 k).length - m.toNat,⟨rfl, .start (a_sa k)⟩,?_⟩⟩
 rintro n m _ ⟨rfl,hr⟩
 refine bcd (fun hlt=>?_) (fun hge=>?_)
 · obtain ⟨j,x,rfl,hx,hj,hF,nx⟩:=hr.step (by simp) (n_g k) hlt
   refine (hd _).load (a_g hx) i_u rfl ⟨x.1,x.2.1,x.2.2,rfl,by omega,by omega,by omega,by omega,i_r rfl (nx (fun r=>r.foldl o_e (o_e n x) =b_v k) hF)⟩
 · have:=hr.done (by simp) hge
   exact ⟨by rw[<-this];rfl,rfl⟩
theorem j_e (k:Int) :Pure prog f_6 [iA k] σ (.a (iA (b_v k))):=by
 refine a_mk k σ _ ((m_p k).mono ?_)
 rintro r σ' ⟨rfl,d,rfl,hd⟩
 refine ⟨d,rfl,(hd σ').lenK ⟨fun n m s=>s=σ'/\Rng (d_5 k) (fun r=>r.foldl o_e n=b_v k) m,fun n m _=>(d_5 k).length - m.toNat,⟨rfl, .start (a_sa k)⟩,?_⟩⟩
 rintro n m _ ⟨rfl,hr⟩
 refine bcd (fun hlt=>?_) (fun hge=>?_)
 · obtain ⟨j,x,rfl,hx,hj,hF,nx⟩:=hr.step (by simp) (n_g k) hlt
   refine (hd _).load (a_g hx) h_n rfl ⟨x.1,x.2.1,x.2.2,rfl,i_r rfl (nx (fun r=>r.foldl o_e (o_e n x) =b_v k) hF)⟩
 · have:=hr.done (by simp) hge
   exact ⟨by rw[<-this];rfl,rfl⟩
theorem a_ko (k i o:Int) :Pure prog r_j [iA k,iA i,iA o] σ (opt1 (m_w (d_5 k) i o)):=by
 refine a_nz k i o σ _ ((m_p k).mono ?_)
 rintro r σ' ⟨rfl,d,rfl,hd⟩
 refine ⟨d,rfl,(hd σ').lenK ⟨fun m s=>s=σ'/\Rng (d_5 k) (fun r=>m_w r i o=m_w (d_5 k) i o) m,fun m _=>(d_5 k).length - m.toNat,⟨rfl, .start rfl⟩,?_⟩⟩
 rintro m _ ⟨rfl,hr⟩
 refine bcd (fun hlt=>?_) (fun hge=>?_)
 · obtain ⟨j,x,rfl,hx,hj,hF,nx⟩:=hr.step (by simp) (n_g k) hlt
   refine (hd _).load (a_g hx) h_n rfl ⟨x.1,x.2.1,x.2.2,rfl,?_⟩
   rw[m_w] at hF
   repeat' (first | refine bce (fun _=>?_) (fun _=>?_))
   all_goals first
     | (rw[if_pos (by omega)] at hF;exact ⟨by rw[<-hF];rfl,rfl⟩)
     | (rw[if_neg (by omega)] at hF;exact i_r rfl (nx (fun r=>m_w r i o=m_w (d_5 k) i o) hF))
 · have:=hr.done (by simp) hge
   exact ⟨by rw[<-this];rfl,rfl⟩
theorem f_d (n lo hi:Int) :Pure prog d_v [iA n,iA lo,iA hi] σ (.a (bA (decide (lo<=n/\n<=hi)))):=by
 refine a_ea n lo hi σ _ (bcd (fun h=>⟨?_,rfl⟩) (fun h=>⟨?_,rfl⟩))
 · simp[h]
 · simp[h]
theorem e_0 {d:D}{js:List Jt}(s e:Int)(h:At prog σ e_8 d (js.map Jt.enc)) :Pure prog d_4 [.one d,iA s,iA e] σ (opt2 (nxt js s e)):=by
 have hl:=h.size
 rw[zB] at hl
 refine a_o0 d s e σ _ (h.lenK ⟨fun n σ'=>σ'=σ/\Rng js (fun r=>nxt r s e=nxt js s e) n,fun n _=>js.length - n.toNat,⟨rfl, .start rfl⟩,?_⟩)
 rintro n σ' ⟨rfl,hr⟩
 refine bcd (fun hlt=>?_) (fun hge=>?_)
 · obtain ⟨j,x,rfl,hx,hj,hF,nx⟩:=hr.step (by simp) hl hlt
   refine h.load (a_g hx) s_a rfl ⟨x.A,x.AEnd,x.B,x.BEnd,rfl,?_⟩
   rw[nxt] at hF
   repeat' (first | refine bce (fun _=>?_) (fun _=>?_))
   all_goals first
     | exact ⟨by rw[<-hF];simp[*,opt2],rfl⟩
     | exact i_r rfl (nx (fun r=>nxt r s e=nxt js s e) (by simpa[*] using hF))
 · exact ⟨by rw[<-hr.done (by simp) hge];rfl,rfl⟩
theorem s_m {d:D}{l:List Int}(v:Int)(h:At prog σ a_e d (l.map Go.Fw.encI)) :Pure prog h_a [.one d,iA v] σ (.a (iA (p_a l v 0))):=by
 have hl:=h.size
 rw[zB] at hl
 refine v_g d v σ _ (h.lenK ⟨fun n σ'=>σ'=σ/\Rng l (fun r=>(∀j:Nat,n=j->p_a r v j=p_a l v 0)) n,fun n _=>l.length - n.toNat,⟨rfl, .start fun j hj=>by cases j with | zero=>rfl | succ j=>omega⟩,?_⟩)
 rintro n σ' ⟨rfl,hr⟩
 refine bcd (fun hlt=>?_) (fun hge=>?_)
 · obtain ⟨j,x,rfl,hx,hj,hF,nx⟩:=hr.step (by simp) hl hlt
   refine h.load (a_g hx) c_int rfl ⟨x,rfl,?_⟩
   have hF:=hF j rfl
   rw[p_a] at hF
   refine bce (fun _=>?_) (fun _=>?_)
   · exact ⟨by rw[<-hF];simp[*],rfl⟩
   · refine i_r rfl (nx _ fun j' hj'=>?_)
     rw[a_i (by omega)] at hj'
     obtain rfl:j'=j+1:=by omega
     rw[if_neg (fun e=>by simp_all)] at hF
     exact hF
 · refine ⟨?_,rfl⟩
   obtain ⟨j,hj,hj2,hF⟩:=hr
   have hF:=hF j hj
   rw[e_c (by simp at hge;omega)] at hF
   rw[<-hF];rfl
theorem u_9 {W:World}{cs:Array Value}{t:TypeId}{j:Nat}{v:Value}(h:cs[j]? =some v) :(W.alloc (.cells cs t)).cell? ⟨W.heap.size,j,none⟩ =some v:=by
 unfold World.cell?
 rw[(MapKept.heap_alloc W _).1]
 exact h
theorem a_ml (a b p e:Int)(W:World) :Calls prog h_a #[.slice (some ⟨W.heap.size,0,none⟩) 2 2, .int .i64 e] (W.alloc (.cells #[.int .i64 a, .int .i64 b, .int .i64 p] c_b)) fun r W'=>
   r= .returned (.int .i64 (p_a [a,b] e 0))/\Below (W.heap.size+1) (W.alloc (.cells #[.int .i64 a, .int .i64 b, .int .i64 p] c_b)) W':=by
 have hsz:(W.alloc (.cells #[.int .i64 a, .int .i64 b, .int .i64 p] c_b)).heap.size=W.heap.size+1:=Array.size_push _
 have hA:At prog noS a_e (.sl 1 [[iD a],[iD b]]) ([a,b].map Go.Fw.encI):=⟨⟨rfl, .inr c_int.symm⟩,by simp,fun es rows e=>by injection e with e1 _;rw[<-e1,c_int]⟩
 have hcell:∀j v,#[Value.int .i64 a, .int .i64 b, .int .i64 p][j]? =some v->(W.alloc (.cells #[.int .i64 a, .int .i64 b, .int .i64 p] c_b)).cell? ⟨W.heap.size,j,none⟩ =some v:=fun j v h=>u_9 h
 have hV:V (t_a (W.alloc (.cells #[.int .i64 a, .int .i64 b, .int .i64 p] c_b))) noB (W.alloc (.cells #[.int .i64 a, .int .i64 b, .int .i64 p] c_b)) (.slice (some ⟨W.heap.size,0,none⟩) 2 2) (.sl 1 [[iD a],[iD b]]):=by
   have key:∀(i:Nat) row (j:Nat) d,([[iD a],[iD b]]:List (List D))[i]? =some row->row[j]? =some d->(i=0/\j=0/\row=[iD a]/\d=iD a)\/(i=1/\j=0/\row=[iD b]/\d=iD b):=by
     intro i row j d h1 h2
     rcases i with _ | _ | i
     · simp at h1;subst h1
       rcases j with _ | j
       · simp at h2;exact .inl ⟨rfl,rfl,rfl,h2.symm⟩
       · simp at h2
     · simp at h1;subst h1
       rcases j with _ | j
       · simp at h2;exact .inr ⟨rfl,rfl,rfl,h2.symm⟩
       · simp at h2
     · simp at h1
   refine V.sl ⟨W.heap.size,0,none⟩ 2 2 1 _ (fun i j=>if i=0 then .int .i64 a else .int .i64 b) (fun _=>⟨by show W.heap.size < _;rw[hsz];omega,rfl⟩) rfl (by omega) (fun i row h=>?_) (fun i row j d h hj=>?_) (fun i row j d h hj=>?_)
   · rcases i with _ | _ | i
     · simp at h;subst h;rfl
     · simp at h;subst h;rfl
     · simp at h
   · rcases key i row j d h hj with ⟨rfl,rfl,rfl,rfl⟩ | ⟨rfl,rfl,rfl,rfl⟩
     · exact hcell 0 _ rfl
     · exact hcell 1 _ rfl
   · rcases key i row j d h hj with ⟨rfl,rfl,rfl,rfl⟩ | ⟨rfl,rfl,rfl,rfl⟩
     · exact V.int _ _
     · exact V.int _ _
 have hc:=(s_m e hA).2 (t_a _) noB (W.alloc (.cells #[.int .i64 a, .int .i64 b, .int .i64 p] c_b)) #[.slice (some ⟨W.heap.size,0,none⟩) 2 2, .int .i64 e] a_yt rfl (by
   intro i v x hv hx
   rcases i with _ | _ | i
   · simp at hv hx
     subst hv hx
     exact hV
   · simp at hv hx
     subst hv hx
     exact V.int _ _
   · simp at hv)
 refine hc.mono fun r W' ⟨v,rr,σ',k',β',q1,⟨q2,_⟩,q3,_,_,q6⟩=>?_
 subst q2
 have hv:=V.inv_int q3
 subst hv
 exact ⟨q1,q6.os,q6.tape,q6.output,q6.size,fun b hb=>q6.block b (by rw[hsz];exact hb) (fun i bi hi=>by cases hi)⟩
theorem a_c5 (a b p e:Int)(W:World) :Calls prog f_2 #[.agg #[.int .i64 a, .int .i64 b, .int .i64 p], .int .i64 e] W fun r W'=>
   r= .returned (if e=a then .tuple #[.int .i64 b, .bool true] else if e=b then .tuple #[.int .i64 a, .bool true] else .tuple #[.int .i64 0, .bool false])/\Below W.heap.size W W':=by
 have hI:=a_ml a b p e W
 have fin:∀W',Below (W.heap.size+1) (W.alloc (.cells #[.int .i64 a, .int .i64 b, .int .i64 p] c_b)) W'->Below W.heap.size W W':=fun W' hb=>
   ((Below.refl _ _).alloc (Nat.le_refl _) _).trans (hb.mono (by omega))
 have cells : ∀ W', Below (W.heap.size + 1) (W.alloc (.cells #[.int .i64 a, .int .i64 b, .int .i64 p] c_b)) W' ->
     W'.cell? ⟨W.heap.size,0,none⟩ =some (.int .i64 a)/\W'.cell? ⟨W.heap.size,1,none⟩ =some (.int .i64 b):=fun W' hb=>by
   exact ⟨(hb.cell (p:=⟨W.heap.size,0,none⟩) (Nat.lt_succ_self _)).trans (u_9 rfl),(hb.cell (p:=⟨W.heap.size,1,none⟩) (Nat.lt_succ_self _)).trans (u_9 rfl)⟩
 by_cases h0:e=a
 · subst h0
   rw[show p_a [e,b] e 0=0 by simp[p_a]] at hI
   rw[if_pos rfl]
   go_enter Tryz.func141,Tryz.ntmps141
   go_wp2_with fail
   refine hI.mono ?_
   rintro r W' ⟨rfl,hb⟩
   obtain ⟨c0,c1⟩:=cells W' hb
   have hf:=fin W' hb
   clear cells fin hI hb
   go_wp2
   go_ret2
   exact ⟨rfl,hf⟩
 · by_cases h1:e=b
   · subst h1
     rw[show p_a [a,e] e 0=1 by simp[p_a,h0]] at hI
     rw[if_neg h0,if_pos rfl]
     go_enter Tryz.func141,Tryz.ntmps141
     go_wp2_with fail
     refine hI.mono ?_
     rintro r W' ⟨rfl,hb⟩
     obtain ⟨c0,c1⟩:=cells W' hb
     have hf:=fin W' hb
     clear cells fin hI hb
     go_wp2
     go_ret2
     exact ⟨rfl,hf⟩
   · rw[show p_a [a,b] e 0= -1 by simp[p_a,h0,h1]] at hI
     rw[if_neg h0,if_neg h1]
     go_enter Tryz.func141,Tryz.ntmps141
     go_wp2_with fail
     refine hI.mono ?_
     rintro r W' ⟨rfl,hb⟩
     have hf:=fin W' hb
     clear cells fin hI hb
     go_wp2
     go_ret2
     exact ⟨rfl,hf⟩
theorem y_5 (a b p e:Int) :Pure prog f_2 [.agg [iD a,iD b,iD p],iA e] σ (opt1 (if e=a then some b else if e=b then some a else none)):=by
 refine ⟨by kernel_rfl,fun k β W vs hS hsz hv=>?_⟩
 have hvs:vs= #[.agg #[.int .i64 a, .int .i64 b, .int .i64 p], .int .i64 e]:=by
   have h0:=hv 0 (vs.getD 0 undef) _ (by simp at hsz;simp[hsz]) rfl
   have h1:=hv 1 (vs.getD 1 undef) _ (by simp at hsz;simp[hsz]) rfl
   obtain ⟨us,e0,hu⟩:=h0
   have e1:=V.inv_int h1
   have hus:us= #[.int .i64 a, .int .i64 b, .int .i64 p]:=by
     apply Array.ext'
     exact a_nd hu rfl
   apply Array.ext
   · simpa using hsz
   · intro i h1 h2
     simp at hsz
     match i,h1 with
     | 0,_=>simp[hsz] at e0;simp[e0,hus]
     | 1,_=>simp[hsz] at e1;simp[e1]
     | i+2,h=>omega
 subst hvs
 refine (a_c5 a b p e W).mono fun r W' ⟨h1,h2⟩=>?_
 have hg:Grow W W':=⟨h2.os,h2.tape,h2.output,h2.size,h2.block⟩
 have tup:∀(x:Int) (c:Bool),VR k β W' (.tuple #[.int .i64 x, .bool c]) (.tup [iA x,bA c]):=fun x c=>tup2 (v:=iA x) (V.int _ _)
 refine ⟨_,_,σ,k,β,h1,⟨rfl,rfl⟩,?_,hS.grow hg,Ghost.refl _ _ _ _,hg.frm _ _⟩
 by_cases h0:e=a
 · simp only[h0,if_true];exact tup _ _
 · by_cases h1:e=b
   · simp only[h0,h1,if_false,if_true];split <;> exact tup _ _
   · simp only[h0,h1,if_false];exact tup _ _
theorem a_mv (k i o:Int) :Pure prog v_2 [iA k,iA i,iA o] σ (opt1 (m_w (d_5 k) i o)):=by
 refine a_r3 k i o σ _ ((o_r k).mono ?_)
 rintro r σ' ⟨rfl,d,rfl,hd⟩
 refine ⟨d,rfl,(hd σ').lenK ⟨fun m s=>s=σ'/\Rng (d_5 k) (fun r=>m_w r i o=m_w (d_5 k) i o) m,fun m _=>(d_5 k).length - m.toNat,⟨rfl, .start rfl⟩,?_⟩⟩
 rintro m _ ⟨rfl,hr⟩
 refine bcd (fun hlt=>?_) (fun hge=>?_)
 · obtain ⟨j,x,rfl,hx,hj,hF,nx⟩:=hr.step (by simp) (n_g k) hlt
   refine (hd _).load (a_g hx) i_u rfl ⟨x.1,x.2.1,x.2.2,rfl,(y_5 _ _ _ _).use ?_⟩
   have hne:x.1≠x.2.1:=by
     have hm:=zC hx
     unfold d_5 at hm
     split at hm
     · simp at hm;subst hm;decide
     · split at hm
       · simp at hm;rcases hm with rfl | rfl <;> decide
       · split at hm
         · simp at hm;rcases hm with rfl | rfl <;> decide
         · cases hm
   rw[m_w] at hF
   by_cases h0:i=x.1
   · subst h0
     refine ⟨x.2.1,true,by simp[opt1],?_⟩
     refine bce (fun h1=>?_) (fun h1=>?_)
     · exact ⟨by rw[<-hF];simp[*,opt1],rfl⟩
     · exact i_r rfl (nx (fun r=>m_w r x.1 o=m_w (d_5 k) x.1 o) (by rw[if_neg (by rintro (⟨_,h⟩ | ⟨h,_⟩);exact h1 h;exact hne h.symm)] at hF;exact hF))
   · by_cases h1:i=x.2.1
     · subst h1
       refine ⟨x.1,true,by simp[opt1,h0],?_⟩
       refine bce (fun h1=>?_) (fun h1=>?_)
       · exact ⟨by rw[<-hF];simp[*,opt1],rfl⟩
       · exact i_r rfl (nx (fun r=>m_w r x.2.1 o=m_w (d_5 k) x.2.1 o) (by rw[if_neg (by rintro (⟨h,_⟩ | ⟨_,h⟩);exact hne h;exact h1 h)] at hF;exact hF))
     · refine ⟨0,false,by simp[opt1,h0,h1],?_⟩
       exact i_r rfl (nx (fun r=>m_w r i o=m_w (d_5 k) i o) (by rw[if_neg (by rintro (⟨h,_⟩ | ⟨h,_⟩);exact h0 h.symm;exact h1 h.symm)] at hF;exact hF))
 · have:=hr.done (by simp) hge
   exact ⟨by rw[<-this];rfl,rfl⟩
theorem e_h {d:D}{js:List Jt}(s e:Int)(h:At prog σ e_8 d (js.map Jt.enc)) :Pure prog d_e [.one d,iA s,iA e] σ (opt2 (nxt js s e)):=by
 have hl:=h.size
 rw[zB] at hl
 refine a_jv d s e σ _ (h.lenK ⟨fun n σ'=>σ'=σ/\Rng js (fun r=>nxt r s e=nxt js s e) n,fun n _=>js.length - n.toNat,⟨rfl, .start rfl⟩,?_⟩)
 rintro n σ' ⟨rfl,hr⟩
 refine bcd (fun hlt=>?_) (fun hge=>?_)
 · obtain ⟨j,x,rfl,hx,hj,hF,nx⟩:=hr.step (by simp) hl hlt
   refine h.load (a_g hx) s_a rfl ⟨x.A,x.AEnd,x.B,x.BEnd,rfl,?_⟩
   rw[nxt] at hF
   repeat' (first | refine bce (fun _=>?_) (fun _=>?_))
   all_goals first
     | exact ⟨by rw[<-hF];simp[*,opt2],rfl⟩
     | exact i_r rfl (nx (fun r=>nxt r s e=nxt js s e) (by simpa[*] using hF))
 · exact ⟨by rw[<-hr.done (by simp) hge];rfl,rfl⟩
theorem l_u {d:D}{js:List Jt}(s e:Int)(h:At prog σ e_8 d (js.map Jt.enc)) :Pure prog g_z [.one d,iA s,iA e] σ (.a (iA (cnt js s e))):=by
 have hl:=h.size
 rw[zB] at hl
 have hb:∀l:List Jt,0<=cnt l s e/\cnt l s e<=2 * l.length:=by
   intro l
   induction l with
   | nil=>simp[cnt]
   | cons j r ih=>simp only[cnt,List.length_cons];split <;> split <;> omega
 refine a_ii d s e σ _ (h.lenK ⟨fun c n σ'=>σ'=σ/\Rng js (fun r=>c+cnt r s e=cnt js s e/\0<=c) n,fun c n _=>js.length - n.toNat,⟨rfl, .start ⟨by omega,by omega⟩⟩,?_⟩)
 rintro c n σ' ⟨rfl,hr⟩
 refine bcd (fun hlt=>?_) (fun hge=>?_)
 · obtain ⟨j,x,rfl,hx,hj,hF,nx⟩:=hr.step (by simp) hl hlt
   refine h.load (a_g hx) s_a rfl ⟨x.A,x.AEnd,x.B,x.BEnd,rfl,?_⟩
   rw[cnt] at hF
   have h1:=hb js
   have h2:=hb (js.drop (j+1))
   have hw:c < 2 ^ 62:=by split at hF <;> split at hF <;> omega
   intro R hR
   have key:∀c':Int,0<=c'->c'<=2 ^ 62->c'+ (if x.B=s/\x.BEnd=e then 1 else 0) +cnt (js.drop (j+1)) s e=cnt js s e->R c' σ':=by
     intro c' h0 h3 h4
     refine hR c' σ' ?_
     repeat' (first | refine bce (fun _=>?_) (fun _=>?_))
     · rw[a_r (n:=c'+1) (by omega) (by omega)]
       exact i_r rfl (nx (fun r=>c'+1+cnt r s e=cnt js s e/\0<=c'+1) ⟨by simp[*] at h4;omega,by omega⟩)
     · exact i_r rfl (nx (fun r=>c'+cnt r s e=cnt js s e/\0<=c') ⟨by simp[*] at h4;omega,by omega⟩)
     · exact i_r rfl (nx (fun r=>c'+cnt r s e=cnt js s e/\0<=c') ⟨by simp[*] at h4;omega,by omega⟩)
   repeat' (first | refine bce (fun _=>?_) (fun _=>?_))
   · refine ⟨rfl,?_⟩
     rw[a_r (n:=c+1) (by omega) (by omega)]
     exact key _ (by omega) (by omega) (by simp[*] at hF;omega)
   · exact ⟨rfl,key _ (by omega) (by omega) (by simp[*] at hF;omega)⟩
   · exact ⟨rfl,key _ (by omega) (by omega) (by simp[*] at hF;omega)⟩
 · have:=hr.done (by simp) hge
   simp[cnt] at this
   exact ⟨by rw[<-this.1],rfl⟩
end Go.Proofs.YtaklhjodjbgmgaaGreat
end
namespace Go.Fw
section
def c_c (js:List Jt) :List (Int × Int):=js.flatMap Jt.spots
theorem a_dy (secs:List Sec) :∀(l tk tk':List (Int × Int)),u_o secs l tk=some tk'↔(∀p ∈ l,k_y secs p=true)/\l.Nodup/\(∀p ∈ l,p ∉ tk)/\tk'=l.reverse ++ tk
 | [],tk,tk'=>by simp[u_o];exact eq_comm
 | p::r,tk,tk'=>by
   rw[u_o]
   by_cases h:k_y secs p=true/\p ∉ tk
   · rw[if_pos h,a_dy secs r (p::tk) tk']
     simp only[List.mem_cons,forall_eq_or_imp,List.nodup_cons,List.reverse_cons,zK,List.singleton_append]
     constructor
     · rintro ⟨h1,h2,h3,h4⟩
       exact ⟨⟨h.1,h1⟩,⟨fun hp=>(h3 p hp) (.inl rfl),h2⟩,⟨h.2,fun q hq hqt=>h3 q hq (.inr hqt)⟩,h4⟩
     · rintro ⟨⟨_,h1⟩,⟨h2,h3⟩,⟨_,h4⟩,h5⟩
       exact ⟨h1,h3,fun q hq hqt=>hqt.elim (fun e=>h2 (e ▸ hq)) (h4 q hq),h5⟩
   · rw[if_neg h]
     simp only[List.mem_cons,forall_eq_or_imp]
     constructor
     · intro h';cases h'
     · rintro ⟨⟨h1,_⟩,_,⟨h2,_⟩,_⟩;exact absurd ⟨h1,h2⟩ h
theorem a_fq (secs:List Sec) :∀(js:List Jt) (tk tk':List (Int × Int)),u_d secs js tk=some tk'↔
   (∀p ∈ c_c js,k_y secs p=true)/\(c_c js).Nodup/\(∀p ∈ c_c js,p ∉ tk)/\(∀j ∈ js,j.A≠j.B)/\tk'=(c_c js).reverse ++ tk
 | [],tk,tk'=>by simp[u_d,c_c];exact eq_comm
 | j::r,tk,tk'=>by
   rw[u_d]
   have hall:c_c (j::r) =j.spots ++ c_c r:=by simp[c_c]
   rw[hall]
   cases hp:u_o secs j.spots tk with
   | none=>
     have hno:¬∃t,u_o secs j.spots tk=some t:=by rw[hp];rintro ⟨t,h⟩;cases h
     constructor
     · intro h;cases h
     · rintro ⟨h1,h2,h3,_,_⟩
       exact absurd ⟨_,(a_dy secs j.spots tk _).2 ⟨fun p hp=>h1 p (zE _ hp),(List.nodup_append.1 h2).1,fun p hp=>h3 p (zE _ hp),rfl⟩⟩ hno
   | some t=>
     obtain ⟨a1,a2,a3,a4⟩:=(a_dy secs j.spots tk t).1 hp
     by_cases hAB:j.A=j.B
     · simp only[hAB,if_true]
       constructor
       · intro h;cases h
       · rintro ⟨_,_,_,h4,_⟩;exact absurd hAB (h4 j (by simp))
     · simp only[hAB,if_false]
       rw[a_fq secs r t tk',a4]
       constructor
       · rintro ⟨h1,h2,h3,h4,h5⟩
         refine ⟨fun p hp=>(List.mem_append.1 hp).elim (a1 p) (h1 p),List.nodup_append.2 ⟨a2,h2,fun a ha b hb e=>?_⟩,fun p hp=>(List.mem_append.1 hp).elim (a3 p) (fun hp ht=>h3 p hp (by simp[ht])),fun x hx=>?_,by rw[h5];simp⟩
         · subst e;exact h3 a hb (by simp[ha])
         · rcases List.mem_cons.1 hx with rfl | hx
           · exact hAB
           · exact h4 x hx
       · rintro ⟨h1,h2,h3,h4,h5⟩
         obtain ⟨b1,b2,b3⟩:=List.nodup_append.1 h2
         refine ⟨fun p hp=>h1 p (zD _ hp),b2,fun p hp ht=>?_,fun x hx=>h4 x (List.mem_cons_of_mem _ hx),by rw[h5];simp⟩
         rcases List.mem_append.1 ht with ht | ht
         · exact b3 p (by simpa using ht) p hp rfl
         · exact h3 p (zD _ hp) ht
theorem k_u (s e:Int) :∀js:List Jt,cnt js s e=((c_c js).count (s,e) :Int)
 | []=>by simp[cnt,c_c]
 | j::r=>by
   have hall:c_c (j::r) =(j.A,j.AEnd) :: (j.B,j.BEnd) ::c_c r:=by simp[c_c,Jt.spots]
   rw[hall,cnt,k_u s e r,List.count_cons,List.count_cons]
   simp only[beq_iff_eq,Prod.mk.injEq]
   split <;> split <;> omega
theorem a_ei (tk:List (Int × Int)) :∀(secs:List Sec) (i:Int) (ls:List Int),q_d tk secs i ls=true↔
   ∀(k:Nat) s,secs[k]? =some s->b_v s.Kind≠0/\(0<=s.OC/\s.OC<=3)/\(0<=s.Line/\s.Line<=3)/\(s.Line≠0->s.Kind=0/\(i+k,1) ∉ tk/\s.Line ∉ ls/\∀k' s',k' < k->secs[k']? =some s'->s'.Line≠s.Line)
 | [],i,ls=>by simp[q_d]
 | x::r,i,ls=>by
   rw[q_d]
   by_cases hc:b_v x.Kind=0\/¬(0<=x.OC/\x.OC<=3)\/¬(0<=x.Line/\x.Line<=3)\/x.Line≠0/\(x.Kind≠0\/(i,1) ∈ tk\/x.Line ∈ ls)
   · rw[if_pos hc]
     constructor
     · intro h;cases h
     · intro h
       obtain ⟨h1,h2,h3,h4⟩:=h 0 x rfl
       rcases hc with hc | hc | hc | ⟨hc,hd⟩
       · exact absurd hc h1
       · exact absurd h2 hc
       · exact absurd h3 hc
       · obtain ⟨g1,g2,g3,_⟩:=h4 hc
         rcases hd with hd | hd | hd
         · exact absurd g1 hd
         · exact absurd hd (by simpa using g2)
         · exact absurd hd g3
   · rw[if_neg hc,a_ei tk r (i+1) (x.Line::ls)]
     have hx:b_v x.Kind≠0/\(0<=x.OC/\x.OC<=3)/\(0<=x.Line/\x.Line<=3)/\(x.Line≠0->x.Kind=0/\(i,1) ∉ tk/\x.Line ∉ ls):=by
       refine ⟨fun h=>hc (.inl h),Classical.not_not.1 fun h=>hc (.inr (.inl h)),Classical.not_not.1 fun h=>hc (.inr (.inr (.inl h))),fun hl=>⟨Classical.not_not.1 fun h=>hc (.inr (.inr (.inr ⟨hl, .inl h⟩))),fun h=>hc (.inr (.inr (.inr ⟨hl, .inr (.inl h)⟩))),fun h=>hc (.inr (.inr (.inr ⟨hl, .inr (.inr h)⟩)))⟩⟩
     constructor
     · intro h k s hk
       cases k with
       | zero=>
         simp at hk;subst hk
         exact ⟨hx.1,hx.2.1,hx.2.2.1,fun hl=>by
           obtain ⟨a,b,c⟩:=hx.2.2.2 hl
           exact ⟨a,by simpa using b,c,fun k' s' hk'=>by omega⟩⟩
       | succ k=>
         obtain ⟨h1,h2,h3,h4⟩:=h k s (by simpa using hk)
         refine ⟨h1,h2,h3,fun hl=>?_⟩
         obtain ⟨a,b,c,d⟩:=h4 hl
         refine ⟨a,by rw[show i+ ((k+1:Nat) :Int) =i+1+k by omega];exact b,fun hm=>c (by simp[hm]),fun k' s' hk' hs'=>?_⟩
         cases k' with
         | zero=>simp at hs';subst hs';exact fun e=>c (by simp[e])
         | succ k'=>exact d k' s' (by omega) (by simpa using hs')
     · intro h k s hk
       obtain ⟨h1,h2,h3,h4⟩:=h (k+1) s (by simpa using hk)
       refine ⟨h1,h2,h3,fun hl=>?_⟩
       obtain ⟨a,b,c,d⟩:=h4 hl
       refine ⟨a,by rw[show i+1+ (k:Int) =i+ ((k+1:Nat) :Int) by omega];exact b,fun hm=>?_,fun k' s' hk' hs'=>d (k'+1) s' (by omega) (by simpa using hs')⟩
       rcases List.mem_cons.1 hm with hm | hm
       · exact d 0 x (by omega) rfl hm.symm
       · exact c hm
def a_d1 (secs:List Sec)(js:List Jt)(k:Nat)(s:Sec) :Prop:=
 b_v s.Kind≠0/\(0<=s.OC/\s.OC<=3)/\(0<=s.Line/\s.Line<=3)/\(s.Line≠0->s.Kind=0/\cnt js k 1<=0/\∀k' s',k' < k->secs[k']? =some s'->s'.Line≠s.Line)
def jtOk (secs:List Sec)(js:List Jt)(j:Jt) :Prop:=
 (0<=j.A/\j.A < secs.length)/\(0<=j.B/\j.B < secs.length)/\j.A≠j.B/\(0<=j.AEnd/\j.AEnd < b_v (j_v secs j.A))/\(0<=j.BEnd/\j.BEnd < b_v (j_v secs j.B))/\cnt js j.A j.AEnd<=1/\cnt js j.B j.BEnd<=1
theorem o_n (secs:List Sec)(p:Int × Int) :k_y secs p=true↔(0<=p.1/\p.1 < secs.length)/\(0<=p.2/\p.2 < b_v (j_v secs p.1)):=by
 simp only[k_y,zO,decide_eq_true_eq];omega
theorem mem_spots {js:List Jt}{p:Int × Int} :p ∈ c_c js↔∃j ∈ js,p=(j.A,j.AEnd)\/p=(j.B,j.BEnd):=by
 simp[c_c,Jt.spots]
theorem l_t (secs:List Sec)(js:List Jt) :c_s secs js=true↔
   (1<=secs.length/\secs.length<=16/\js.length<=24)/\(∀(k:Nat) s,secs[k]? =some s->a_d1 secs js k s)/\∀j ∈ js,jtOk secs js j:=by
 simp only[c_s,zO,decide_eq_true_eq]
 refine and_congr_right fun _=>?_
 have hnd:(c_c js).Nodup↔∀j ∈ js,cnt js j.A j.AEnd<=1/\cnt js j.B j.BEnd<=1:=by
   rw[List.nodup_iff_count]
   constructor
   · intro h j _
     rw[k_u,k_u]
     have h1:=h (j.A,j.AEnd)
     have h2:=h (j.B,j.BEnd)
     omega
   · intro h p
     by_cases hp:p ∈ c_c js
     · obtain ⟨j,hj,rfl | rfl⟩:=mem_spots.1 hp
       · have:=(h j hj).1;rw[k_u] at this;omega
       · have:=(h j hj).2;rw[k_u] at this;omega
     · rw[List.count_eq_zero_of_not_mem hp];omega
 have hsp:(∀p ∈ c_c js,k_y secs p=true)↔∀j ∈ js,((0<=j.A/\j.A < secs.length)/\(0<=j.AEnd/\j.AEnd < b_v (j_v secs j.A)))/\((0<=j.B/\j.B < secs.length)/\(0<=j.BEnd/\j.BEnd < b_v (j_v secs j.B))):=by
   constructor
   · intro h j hj
     exact ⟨(o_n _ _).1 (h (j.A,j.AEnd) (mem_spots.2 ⟨j,hj, .inl rfl⟩)),(o_n _ _).1 (h (j.B,j.BEnd) (mem_spots.2 ⟨j,hj, .inr rfl⟩))⟩
   · intro h p hp
     obtain ⟨j,hj,rfl | rfl⟩:=mem_spots.1 hp
     · exact (o_n _ _).2 (h j hj).1
     · exact (o_n _ _).2 (h j hj).2
 have hcz:∀k:Nat,cnt js k 1<=0↔((k:Int),(1:Int)) ∉ (c_c js).reverse ++ []:=fun k=>by
   rw[k_u,zS,List.mem_reverse,<-List.count_eq_zero];omega
 constructor
 · intro h
   cases hj:u_d secs js [] with
   | none=>rw[hj] at h;cases h
   | some tk=>
     rw[hj] at h
     obtain ⟨h1,h2,_,h4,rfl⟩:=(a_fq secs js [] tk).1 hj
     have h5:=(a_ei _ secs 0 []).1 h
     refine ⟨fun k s hk=>?_,fun j hj=>?_⟩
     · obtain ⟨a,b,c,d⟩:=h5 k s hk
       refine ⟨a,b,c,fun hl=>?_⟩
       obtain ⟨d1,d2,_,d4⟩:=d hl
       exact ⟨d1,(hcz k).2 (by simpa using d2),d4⟩
     · obtain ⟨⟨a1,a2⟩,b1,b2⟩:=hsp.1 h1 j hj
       exact ⟨a1,b1,h4 j hj,a2,b2,hnd.1 h2 j hj⟩
 · rintro ⟨h1,h2⟩
   have hj:u_d secs js []=some ((c_c js).reverse ++ []):=(a_fq secs js [] _).2 ⟨hsp.2 fun j hj=>by obtain ⟨a,b,c,d,e,f⟩:=h2 j hj;exact ⟨⟨a,d⟩,b,e⟩,hnd.2 fun j hj=>(h2 j hj).2.2.2.2.2,by simp,fun j hj=>(h2 j hj).2.2.1,rfl⟩
   rw[hj]
   refine (a_ei _ secs 0 []).2 fun k s hk=>?_
   obtain ⟨a,b,c,d⟩:=h1 k s hk
   refine ⟨a,b,c,fun hl=>?_⟩
   obtain ⟨d1,d2,d3⟩:=d hl
   exact ⟨d1,by simpa using (hcz k).1 d2,by simp,d3⟩
end
end Go.Fw
namespace Go.Proofs.YtaklhjodjbgmgaaGreat
open Go.Fw Go.Proofs Go.RowKit
open Go.Proofs.Tryz (prog)
section
variable {σ:Store}
abbrev encP (p:Int × Int) :A:= .agg [iD p.1,iD p.2]
theorem k_r:Keys prog b_3 encP:=a_tb fun a b=>by kernel_rfl
theorem h_j:Keys prog a_e iA:=⟨fun x=>by kernel_rfl,fun x y=>by simp[eqA,b_x,b_p,e_f]⟩
theorem a_hr {d1 d2:D}{secs:List Sec}{js:List Jt}(hs:∀s,At prog s d_n d1 (secs.map Sec.enc))(hj:∀s,At prog s e_8 d2 (js.map Jt.enc)) :
   Pure prog o_y [.one d1, .one d2] σ (.a (iA (if c_s secs js=true then 0 else 6))):=by
 have hls:=(hs σ).size
 have hlj:=(hj σ).size
 rw[zB] at hls hlj
 refine .of (a_k1 d1 d2 σ _ ?_) (a_uy _)
 intro R hR
 refine (hs σ).lenK ((f_d _ _ _).use ⟨_,rfl,a_0 (fun h=>?_) (fun h=>(hj σ).lenK (bcd (fun h2=>?_) (fun h2=>hR σ ?_)))⟩)
 · simp at h
   exact ⟨by rw[if_neg];simp[c_s];omega, .refl _⟩
 · simp at h2
   exact ⟨by rw[if_neg];simp[c_s];omega, .refl _⟩
 simp at h h2
 have hsize:decide (1<=secs.length/\secs.length<=16/\js.length<=24) =true:=by simp;omega
 refine a_f fun id σ1 hid _ he hs1=>(hj σ1).lenK ⟨fun n s=>∃tk f,MapAt prog b_3 encP s id f/\(∀z,f z=if z ∈ tk then some (iA 1) else none)/\Ext σ s/\Rng js (fun r=>u_d secs r tk=u_d secs js []) n,
   fun n _=>js.length - n.toNat,⟨[],_, .new hs1,fun z=>by simp,he, .start rfl⟩,?_⟩
 rintro n s ⟨tk,f,hm,hf,hes,hr⟩
 refine bcd (fun hlt=>?_) (fun hge=>?_)
 · obtain ⟨j,x,rfl,hx,hjl,hF,nx⟩:=hr.step (by simp) hlj hlt
   refine (hj s).load (a_g hx) s_a rfl ⟨x.A,x.AEnd,x.B,x.BEnd,rfl,?_⟩
   refine a_f fun id1 s1 hid1 _ he1 hs2=>?_
   have hne:id≠id1:=fun e=>by
     obtain ⟨c,es,h1,_⟩:=hm
     rw[e,hid1] at h1;cases h1
   have hbad:u_o secs x.spots tk=none\/x.A=x.B->(if c_s secs js=true then (0:Int) else 6) =6:=by
     intro hb
     have:u_d secs js []=none:=by
       rw[<-hF,u_d]
       rcases hb with hb | hb
       · rw[hb]
       · cases u_o secs x.spots tk with
         | none=>rfl
         | some tk'=>simp[hb]
     rw[if_neg];simp[c_s,this]
   have hloc:∀s',s' id1= .live b_3 [[iD x.A,iD x.AEnd],[iD x.B,iD x.BEnd]]->At prog s' b_3 (.osl id1 0 2) (x.spots.map fun p=> [iD p.1,iD p.2]):=fun s' h=>At.fresh h (by simp) rfl
   refine (hloc s1 hs2).lenK ⟨fun m s'=>∃tk' f',MapAt prog b_3 encP s' id f'/\(∀z,f' z=if z ∈ tk' then some (iA 1) else none)/\Ext σ s'/\s' id1= .live b_3 [[iD x.A,iD x.AEnd],[iD x.B,iD x.BEnd]]/\
     Rng x.spots (fun q=>u_o secs q tk'=u_o secs x.spots tk) m,fun m _=>x.spots.length - m.toNat,⟨tk,f,hm.same (he1 id (fun e=>hne (by
       obtain ⟨c,es,h1,_⟩:=hm
       rw[e] at h1;cases h1))),hf,hes.trans he1,hs2, .start rfl⟩,?_⟩
   rintro m s' ⟨tk',f',hm',hf',hes',hs2',hr'⟩
   refine bcd (fun hlt'=>?_) (fun hge'=>?_)
   · obtain ⟨i,p,rfl,hp,hil,hG,nx'⟩:=hr'.step (by simp) (by simp[Jt.spots]) hlt'
     refine (hloc s' hs2').load (a_g hp) a_n0 rfl ⟨p.1,p.2,rfl,(hs s').lenK ?_⟩
     rw[u_o] at hG
     have hw1:w64 (((secs.map Sec.enc).length:Int) - 1) =(secs.length:Int) - 1:=by rw[zB,a_r (by omega) (by omega)]
     refine (f_d _ _ _).use ⟨_,rfl,?_⟩
     rw[hw1]
     refine a_0 (fun h3=>?_) (fun h3=>?_)
     · exact ⟨by rw[hbad (.inl ?_)];rw[<-hG,if_neg];simp only[k_y,h3];simp,hes'⟩
     · have h3':=zM h3
       obtain ⟨y,hy⟩:=a_c (l:=secs) (j:=p.1.toNat) (by omega)
       refine (hs s').load (a_g hy) a_x (by omega) ⟨y.Kind,rfl,(o_j _).use ⟨_,rfl,(f_d _ _ _).use ⟨_,rfl,?_⟩⟩⟩
       have hk:j_v secs p.1=y.Kind:=by simp[j_v,hy]
       have hn:=a_ek y.Kind
       rw[a_r (n:=b_v y.Kind - 1) (by omega) (by omega)]
       refine a_0 (fun h4=>?_) (fun h4=>?_)
       · exact ⟨by rw[hbad (.inl ?_)];rw[<-hG,if_neg];simp only[k_y,hk,h4];simp,hes'⟩
       · have hok:k_y secs p=true:=by simp only[k_y,hk,h3,h4];rfl
         by_cases hin:p ∈ tk'
         · refine hm'.lookI k_r p (n:=1) (by rw[hf',if_pos hin];rfl) (bcd (fun _=>?_) (fun h=>absurd (by decide) h))
           exact ⟨by rw[hbad (.inl ?_)];rw[<-hG,if_neg];simp[hin],hes'⟩
         · refine hm'.lookI k_r p (n:=0) (by rw[hf',if_neg hin];rfl) (bcd (fun h=>absurd h (by decide)) (fun _=>?_))
           refine hm'.lookI k_r p (n:=0) (by rw[hf',if_neg hin];rfl) ?_
           rw[if_pos ⟨hok,hin⟩] at hG
           refine hm'.bump k_r p fun s3 f3 hm3 hf3 hf3' hs3 hs3'=>⟨rfl,?_⟩
           have hn2:=nx' (fun q=>u_o secs q (p::tk') =u_o secs x.spots tk) hG
           refine ⟨⟨p::tk',f3,hm3,fun z=>?_,fun i hi=>?_,?_,hn2.1⟩,hn2.2⟩
           · by_cases hz:z=p
             · subst hz;rw[hf3'];simp;rfl
             · rw[hf3 z hz,hf'];simp[hz]
           · rw[hs3 i (fun e=>?_)]
             · exact hes' i hi
             · subst e;rw[hid] at hi;exact hi rfl
           · rw[hs3 _ (Ne.symm hne)];exact hs2'
   · have hG:=hr'.done (by simp) hge'
     rw[u_o] at hG
     refine bce (fun h5=>⟨by rw[hbad (.inr h5)],hes'⟩) (fun h5=>?_)
     rw[u_d,<-hG] at hF
     simp only[if_neg h5] at hF
     have hn2:=nx (fun r=>u_d secs r tk'=u_d secs js []) hF
     exact ⟨⟨tk',f',hm',hf',hes',hn2.1⟩,hn2.2⟩
 · have hF:=hr.done (by simp) hge
   rw[u_d] at hF
   have htop:c_s secs js=q_d tk secs 0 []:=by simp only[c_s,hsize,<-hF,Bool.true_and]
   rw[htop]
   clear htop hr hF hR
   refine a_f fun id1 s1 hid1 _ he1 hs2=>?_
   have hne:id≠id1:=fun e=>by
     obtain ⟨c,es,h1,_⟩:=hm
     rw[e,hid1] at h1;cases h1
   refine (hs s1).lenK ⟨fun n s'=>∃ls f2,MapAt prog a_e iA s' id1 f2/\(∀z,z ∉ ls->f2 z=none)/\(∀z,z ∈ ls->∃c:Int,1<=c/\c<=n/\f2 z=some (iA c))/\MapAt prog b_3 encP s' id f/\Ext σ s'/\
     Rng secs (fun r=>q_d tk r n ls=q_d tk secs 0 []) n,fun n _=>secs.length - n.toNat,⟨[],_, .new hs2,fun z _=>rfl,fun z hz=>(by cases hz),hm.same (he1 id (fun e=>by
       obtain ⟨c,es,h1,_⟩:=hm
       rw[e] at h1;cases h1)),hes.trans he1, .start rfl⟩,?_⟩
   rintro n s' ⟨ls,f2,hm2,hf2,hf2',hm',hes',hr⟩
   refine bcd (fun hlt=>?_) (fun hge=>?_)
   · obtain ⟨j,x,rfl,hx,hjl,hF,nx⟩:=hr.step (by simp) hls hlt
     refine (hs s').load (a_g hx) a_x rfl ⟨x.Kind,x.OC,x.Line,rfl,?_⟩
     intro R1 hR1
     rw[q_d] at hF
     have hbad:∀hc:(b_v x.Kind=0\/¬(0<=x.OC/\x.OC<=3)\/¬(0<=x.Line/\x.Line<=3)\/x.Line≠0/\(x.Kind≠0\/((j:Int),1) ∈ tk\/x.Line ∈ ls)),(if q_d tk secs 0 []=true then (0:Int) else 6) =6:=by
       intro hc
       rw[if_pos hc] at hF
       rw[<-hF];rfl
     refine (o_j _).use ⟨_,rfl,bce (fun h1=>⟨by rw[hbad (.inl h1)],hes'⟩) (fun h1=>(f_d _ _ _).use ⟨_,rfl,a_0 (fun h2=>⟨by rw[hbad (.inr (.inl (of_decide_eq_false h2)))],hes'⟩) (fun h2=>(f_d _ _ _).use ⟨_,rfl,a_0 (fun h3=>⟨by rw[hbad (.inr (.inr (.inl (of_decide_eq_false h3))))],hes'⟩) (fun h3=>⟨rfl,hR1 s' ?_⟩)⟩)⟩)⟩
     have put : ∀ hc : ¬ (x.Line ≠ 0 /\ (x.Kind ≠ 0 \/ ((j : Int), 1) ∈ tk \/ x.Line ∈ ls)), ∃ c : Int, (f2 x.Line).getD (iA 0) = iA c /\ 0 <= c /\ c <= j /\ (x.Line ∉ ls -> c = 0) /\ ∀ (c' : Int), c' = c -> MPut prog a_e s' (.omap id1) (iA x.Line) (iA (w64 (c' + 1))) fun s6 =>
         (∃ls f2,MapAt prog a_e iA s6 id1 f2/\(∀z,z ∉ ls->f2 z=none)/\(∀z,z ∈ ls->∃c:Int,1<=c/\c<=w64 ((j:Int) +1)/\f2 z=some (iA c))/\MapAt prog b_3 encP s6 id f/\Ext σ s6/\
           Rng secs (fun r=>q_d tk r (w64 ((j:Int) +1)) ls=q_d tk secs 0 []) (w64 ((j:Int) +1)))/\secs.length - (w64 ((j:Int) +1)).toNat < secs.length - (j:Int).toNat:=by
       intro hc
       have hgo:¬(b_v x.Kind=0\/¬(0<=x.OC/\x.OC<=3)\/¬(0<=x.Line/\x.Line<=3)\/x.Line≠0/\(x.Kind≠0\/((j:Int),1) ∈ tk\/x.Line ∈ ls)):=by
         rintro (h | h | h | h)
         · exact h1 h
         · exact h (zM h2)
         · exact h (zM h3)
         · exact hc h
       rw[if_neg hgo] at hF
       have hcount:∃c:Int,(f2 x.Line).getD (iA 0) =iA c/\0<=c/\c<=j/\(x.Line ∉ ls->c=0):=by
         by_cases hin:x.Line ∈ ls
         · obtain ⟨c,c1,c2,c3⟩:=hf2' _ hin
           exact ⟨c,by rw[c3];rfl,by omega,c2,fun h=>absurd hin h⟩
         · exact ⟨0,by rw[hf2 _ hin];rfl,by omega,by omega,fun _=>rfl⟩
       obtain ⟨c,k1,k2,k3,k4⟩:=hcount
       refine ⟨c,k1,k2,k3,k4,fun c' hc'=>?_⟩
       subst hc'
       refine hm2.put h_j x.Line fun s6 f6 g1 g2 g3 g4 g5=>?_
       have hn2:=nx (fun r=>q_d tk r (w64 ((j:Int) +1)) (x.Line::ls) =q_d tk secs 0 []) (by rw[a_i (by omega)];simpa using hF)
       have hw:w64 ((j:Int) +1) =(j:Int) +1:=a_r (by omega) (by omega)
       refine ⟨⟨x.Line::ls,f6,g1,fun z hz=>?_,fun z hz=>?_,hm'.same (g4 _ hne),fun i hi=>?_,hn2.1⟩,hn2.2⟩
       · simp only[List.mem_cons,not_or] at hz
         rw[g2 z hz.1];exact hf2 z hz.2
       · by_cases hzx:z=x.Line
         · subst hzx
           exact ⟨c'+1,by omega,by omega,by rw[g3,a_r (by omega) (by omega)]⟩
         · rw[g2 z hzx]
           obtain ⟨c2,q1,q2,q3⟩:=hf2' z ((List.mem_cons.1 hz).resolve_left hzx)
           exact ⟨c2,q1,by omega,q3⟩
       · rw[g4 i (fun e=>?_)]
         · exact hes' i hi
         · subst e
           have:=hes _ hi
           rw[hid1] at this;exact hi this.symm
     refine bcn (fun h4=>bcn (fun h5=>⟨by rw[hbad (.inr (.inr (.inr ⟨h4, .inl h5⟩)))],hes'⟩) (fun h5=>?_)) (fun h4=>?_)
     · by_cases hin:((j:Int),(1:Int)) ∈ tk
       · refine hm'.lookI k_r ((j:Int),(1:Int)) (n:=1) (by rw[hf,if_pos hin];rfl) (bcd (fun _=>⟨by rw[hbad (.inr (.inr (.inr ⟨h4, .inr (.inl hin)⟩)))],hes'⟩) (fun h=>absurd (by decide) h))
       · refine hm'.lookI k_r ((j:Int),(1:Int)) (n:=0) (by rw[hf,if_neg hin];rfl) (bcd (fun h=>absurd h (by decide)) (fun _=>?_))
         by_cases hin2:x.Line ∈ ls
         · obtain ⟨c,c1,c2,c3⟩:=hf2' _ hin2
           exact hm2.lookI h_j x.Line (n:=c) (by rw[c3];rfl) (bcd (fun _=>⟨by rw[hbad (.inr (.inr (.inr ⟨h4, .inr (.inr hin2)⟩)))],hes'⟩) (fun h=>absurd (show c > 0 by omega) h))
         · obtain ⟨c,k1,k2,k3,k4,k5⟩:=put (by rintro ⟨_,h | h | h⟩;exact h h5;exact hin h;exact hin2 h)
           have:=k4 hin2
           refine hm2.lookI h_j x.Line k1 (bcd (fun h=>absurd h (by omega)) (fun _=>hm2.lookI h_j x.Line k1 (k5 c rfl)))
     · obtain ⟨c,k1,k2,k3,k4,k5⟩:=put (fun h=>h.1 h4)
       exact hm2.lookI h_j x.Line k1 (k5 c rfl)
   · have hF:=hr.done (by simp) hge
     rw[q_d] at hF
     exact ⟨by rw[<-hF];rfl,hes'⟩
theorem a_fn {d1 d2:D}{secs:List Sec}{js:List Jt}(hs:At prog σ d_n d1 (secs.map Sec.enc))(hj:At prog σ e_8 d2 (js.map Jt.enc)) :
   Pure prog m_o [.one d1, .one d2] σ (.a (iA (if c_s secs js=true then 0 else 6))):=by
 have hls:=hs.size
 have hlj:=hj.size
 rw[zB] at hls hlj
 have bad:¬((1<=secs.length/\secs.length<=16/\js.length<=24)/\(∀(k:Nat) s,secs[k]? =some s->a_d1 secs js k s)/\∀j ∈ js,jtOk secs js j)->(RV.a (iA 6) = .a (iA (if c_s secs js=true then 0 else 6))/\σ=σ):=fun h=>by
   rw[if_neg (fun ht=>h ((l_t _ _).1 ht))];exact ⟨rfl,rfl⟩
 refine a_ip d1 d2 σ _ ?_
 intro R hR
 refine hs.lenK (bcd (fun h=>?_) (fun h=>hs.lenK (bcd (fun h2=>?_) (fun h2=>hj.lenK (bcd (fun h3=>?_) (fun h3=>hR σ ?_))))))
 · rw[zB] at h;exact bad fun hb=>by omega
 · rw[zB] at h2;exact bad fun hb=>by omega
 · rw[zB] at h3;exact bad fun hb=>by omega
 rw[zB] at h h2 h3
 refine hs.lenK ⟨fun n s=>s=σ/\Rng secs (fun _=>∀(k:Nat) x,(k:Int) < n->secs[k]? =some x->a_d1 secs js k x) n,fun n _=>secs.length - n.toNat,⟨rfl, .start fun k x hk=>by omega⟩,?_⟩
 rintro n τ ⟨rfl,hr⟩
 refine bcd (fun hlt=>?_) (fun hge=>?_)
 · obtain ⟨i,x,rfl,hx,hil,hF,nx⟩:=hr.step (by simp) hls hlt
   refine hs.load (a_g hx) a_x rfl ⟨x.Kind,x.OC,x.Line,rfl,?_⟩
   intro R1 hR1
   have nbad:¬a_d1 secs js i x->_:=fun hn=>bad fun hb=>hn (hb.2.1 i x hx)
   have hstep:a_d1 secs js i x->_:=fun hok=>nx (fun _=>∀(k:Nat) x,(k:Int) < w64 ((i:Int) +1)->secs[k]? =some x->a_d1 secs js k x) fun k y hk hy=>by
     rw[a_i (by omega)] at hk
     by_cases hki:k=i
     · subst hki;rw[hx] at hy;injection hy with hy;subst hy;exact hok
     · exact hF k y (by omega) hy
   refine (j_e _).use ⟨_,rfl,bce (fun h1=>nbad fun ho=>ho.1 h1) (fun h1=>bcd (fun h4=>nbad fun ho=>by have:=ho.2.1;omega) (fun h4=>bcd (fun h5=>nbad fun ho=>by have:=ho.2.1;omega)
     (fun h5=>bcd (fun h6=>nbad fun ho=>by have:=ho.2.2.1;omega) (fun h6=>bcd (fun h7=>nbad fun ho=>by have:=ho.2.2.1;omega) (fun h7=>⟨rfl,hR1 _ ?_⟩)))))⟩
   refine bce (fun h8=>?_) (fun h8=>bcn (fun h9=>nbad fun ho=>h9 (ho.2.2.2 h8).1) (fun h9=>(l_u _ _ hj).use ⟨_,rfl,bcd (fun h10=>nbad fun ho=>by have:=(ho.2.2.2 h8).2.1;omega) (fun h10=>?_)⟩))
   · exact i_r rfl (hstep ⟨h1,by omega,by omega,fun hl=>absurd h8 hl⟩)
   · refine ⟨fun m s=>s=τ/\∃k:Nat,m=k/\k<=i/\∀k' y,k' < k->secs[k']? =some y->y.Line≠x.Line,fun m _=>i - m.toNat,⟨rfl,0,rfl,by omega,fun k' y hk=>by omega⟩,?_⟩
     rintro m _ ⟨rfl,k,rfl,hki,hk⟩
     refine bcd (fun hlt2=>?_) (fun hge2=>?_)
     · obtain ⟨y,hy⟩:=a_c (l:=secs) (j:=k) (by omega)
       refine hs.load (a_g hy) a_x rfl ⟨y.Line,rfl,bce (fun h11=>nbad fun ho=>(ho.2.2.2 h8).2.2 k y (by omega) hy h11) (fun h11=>⟨rfl,?_⟩)⟩
       rw[a_i (by omega)]
       exact ⟨⟨rfl,k+1,rfl,by omega,fun k' z hk' hz=>by
         by_cases hkk:k'=k
         · subst hkk;rw[hy] at hz;injection hz with hz;subst hz;exact h11
         · exact hk k' z (by omega) hz⟩,by show i - (((k+1:Nat) :Int)).toNat < i - ((k:Int)).toNat;omega⟩
     · refine i_r rfl (hstep ⟨h1,by omega,by omega,fun _=>⟨h9,by omega,fun k' y hk' hy=>hk k' y (by omega) hy⟩⟩)
 · have hall : ∀ (k : Nat) x, secs[k]? = some x -> a_d1 secs js k x := fun k x hk => by
     obtain ⟨i,hi,hi2,hF⟩:=hr
     rw[zB] at hge
     have:=(zA.1 hk).1
     exact hF k x (by omega) hk
   clear hr
   refine hj.lenK ⟨fun n s=>s=τ/\Rng js (fun r=>(∀j ∈ r,jtOk secs js j)->∀j ∈ js,jtOk secs js j) n,fun n _=>js.length - n.toNat,⟨rfl, .start fun h=>h⟩,?_⟩
   rintro m _ ⟨rfl,hr⟩
   refine bcd (fun hlt=>?_) (fun hge2=>?_)
   · obtain ⟨i,x,rfl,hx,hil,hF,nx⟩:=hr.step (by simp) hlj hlt
     have nbad:¬jtOk secs js x->_:=fun hn=>bad fun hb=>hn (hb.2.2 x (zC hx))
     intro R1 hR1
     refine hj.load (a_g hx) s_a rfl ⟨x.A,x.AEnd,x.B,x.BEnd,rfl,?_⟩
     intro R2 hR2
     refine bcd (fun g1=>nbad fun ho=>by have:=ho.1;omega) (fun g1=>hs.lenK (bcd (fun g2=>nbad fun ho=>by have:=ho.1;rw[zB] at g2;omega) (fun g2=>bcd (fun g3=>nbad fun ho=>by have:=ho.2.1;omega)
       (fun g3=>hs.lenK (bcd (fun g4=>nbad fun ho=>by have:=ho.2.1;rw[zB] at g4;omega) (fun g4=>bce (fun g5=>nbad fun ho=>ho.2.2.1 g5) (fun g5=>⟨rfl,hR2 _ ?_⟩)))))))
     rw[zB] at g2 g4
     obtain ⟨ya,hya⟩:=a_c (l:=secs) (j:=x.A.toNat) (by omega)
     obtain ⟨yb,hyb⟩:=a_c (l:=secs) (j:=x.B.toNat) (by omega)
     have ka:j_v secs x.A=ya.Kind:=by simp[j_v,hya]
     have kb:j_v secs x.B=yb.Kind:=by simp[j_v,hyb]
     refine bcd (fun g6=>nbad fun ho=>by have:=ho.2.2.2.1;omega) (fun g6=>hs.load (a_g hya) a_x (by omega) ⟨ya.Kind,rfl,(j_e _).use ⟨_,rfl,bcd (fun g7=>nbad fun ho=>by have:=ho.2.2.2.1;rw[ka] at this;omega) (fun g7=>?_)⟩⟩)
     refine bcd (fun g8=>nbad fun ho=>by have:=ho.2.2.2.2.1;omega) (fun g8=>hs.load (a_g hyb) a_x (by omega) ⟨yb.Kind,rfl,(j_e _).use ⟨_,rfl,bcd (fun g9=>nbad fun ho=>by have:=ho.2.2.2.2.1;rw[kb] at this;omega) (fun g9=>?_)⟩⟩)
     refine (l_u _ _ hj).use ⟨_,rfl,bcd (fun g10=>nbad fun ho=>by have:=ho.2.2.2.2.2.1;omega) (fun g10=>(l_u _ _ hj).use ⟨_,rfl,bcd (fun g11=>nbad fun ho=>by have:=ho.2.2.2.2.2.2;omega) (fun g11=>hR1 _ ?_)⟩)⟩
     refine i_r rfl (nx _ fun h=>hF fun j hj=>?_)
     rcases List.mem_cons.1 hj with rfl | hj
     · exact ⟨by omega,by omega,g5,by rw[ka];omega,by rw[kb];omega,by omega,by omega⟩
     · exact h j hj
   · have hF:=hr.done (by simp) hge2
     refine ⟨?_,rfl⟩
     rw[if_pos ((l_t _ _).2 ⟨by omega,hall,hF (by simp)⟩)]
end
end Go.Proofs.YtaklhjodjbgmgaaGreat
namespace Go.Fw
section
structure Rt where
 Entry:Int
 Exit:Int
 Path:List St
 Flank:List Nd
 Overlap:List Int
 Shunt:Bool
structure Cf where
 Secs:List Sec
 Jts:List Jt
 Sigs:List Sg
 Xs:List Int
 Rts:List Rt
 Age:Int
 Brake:Int
 Hold:Int
 Budget:Int
def FnIs {α:Type}(P:Program)(σ:Store)(f:D)(arg:α->A)(l:List α)(p:α->Bool) :Prop:=
 ∃f1 a b as0' bs,f= .fn f1 a b/\c_7 a=some as0'/\c_7 b=some bs/\∀x ∈ l,DCalls P f1 (as0' ++ [arg x] ++ bs) σ fun r s=>r= .a (bA (p x))/\s=σ
def d_h {α:Type}(p:α->Bool) :List α->Nat->Int
 | [],_=> -1
 | x::r,j=>if p x=true then j else d_h p r (j+1)
theorem a_fi {α:Type}(p:α->Bool)(l:List α) :decide (d_h p l 0>=0) =l.any p:=by
 have key:∀(l:List α) (j:Nat),decide (d_h p l j>=0) =l.any p:=by
   intro l
   induction l with
   | nil=>intro j;simp[d_h]
   | cons x r ih=>
     intro j
     rw[d_h,List.any_cons]
     by_cases hp:p x=true
     · rw[if_pos hp,hp];simp
     · rw[if_neg hp,ih];simp[hp]
 exact key l 0
def a_n {α:Type}(l:List α)(i:Int) :Option α:=if i < 0 then none else l[i.toNat]?
theorem b_w {α:Type}{l:List α}{i:Int}{x:α}(h:a_n l i=some x) :0<=i/\i < l.length/\l[i.toNat]? =some x:=by
 unfold a_n at h
 split at h
 · cases h
 · have:=(zA.1 h).1
   exact ⟨by omega,by omega,h⟩
theorem a_5 {α:Type}{l:List α}{i:Int}(h:i < 0) :a_n l i=none:=if_pos h
theorem b_u {α:Type}{l:List α}{i:Int}(h:(l.length:Int)<=i) :a_n l i=none:=by
 unfold a_n;rw[if_neg (by omega),List.getElem?_eq_none_iff];omega
def a_y0:Option Sec->RV
 | none=> .tup [.agg [iD 0,iD 0,iD 0],bA false]
 | some s=> .tup [.agg s.enc,bA true]
def sgRV:Option Sg->RV
 | none=> .tup [.agg [iD 0,iD 0],bA false]
 | some s=> .tup [.agg s.enc,bA true]
def Cf.approach (c:Cf)(r:Rt) :Int:=((a_n c.Sigs r.Entry).map Sg.Sec).getD (-1)
def Cf.Approach (c:Cf)(i:Int) :Int:=((a_n c.Rts i).map c.approach).getD (-1)
def h_7 (path:List St)(s:Int) :Bool:=path.any fun x=>x.Sec == s
def RtAt (P:Program)(tS tN tI:TypeId)(σ:Store)(cs:List D)(r:Rt) :Prop:=
 ∃d1 d2 d3,cs=[iD r.Entry,iD r.Exit,d1,d2,d3, .bool r.Shunt]/\At P σ tS d1 (r.Path.map St.enc)/\At P σ tN d2 (r.Flank.map Nd.enc)/\At P σ tI d3 (r.Overlap.map encI)
def a_yr (P:Program)(tR tS tN tI:TypeId)(σ:Store)(d:D)(l:List Rt) :Prop:=
 ∃rows,At P σ tR d rows/\rows.length=l.length/\∀(i:Nat) row r,rows[i]? =some row->l[i]? =some r->RtAt P tS tN tI σ row r
def c_o (c:Cf)(approach:Int)(path:List St)(s:St)(out:List Nd)(e:Int) :List Nd:=
 if e=s.In\/e=s.Out then out else
 match nxt c.Jts s.Sec e with
 | none=>out
 | some (q,f)=>match a_n c.Secs q with
   | none=>out
   | some y=>if y.Kind=1/\(1<=f/\f<=2)/\q≠approach/\h_7 path q=false/\(out.any fun n=>n.Sec == q) =false then out ++ [⟨q,3 - f⟩] else out
def d_p (c:Cf)(approach:Int)(path:List St)(s:St) :Nat->Int->List Nd->List Nd
 | 0,_,out=>out
 | n+1,e,out=>d_p c approach path s n (e+1) (c_o c approach path s out e)
def f_g (c:Cf)(approach:Int)(path:List St) :List St->List Nd->List Nd
 | [],out=>out
 | s::r,out=>f_g c approach path r (match a_n c.Secs s.Sec with
   | none=>out
   | some x=>d_p c approach path s (b_v x.Kind).toNat 0 out)
def Cf.flank (c:Cf)(approach:Int)(path:List St) :List Nd:=f_g c approach path path []
theorem t_6 (c:Cf)(a:Int)(p:List St)(s:St)(out:List Nd)(e:Int) :out.length<=(c_o c a p s out e).length/\(c_o c a p s out e).length<=out.length+1:=by
 unfold c_o
 split
 · omega
 · split
   · omega
   · split
     · omega
     · split <;> simp
def Cf.overlap (c:Cf)(r:Rt) :List Int:=
 if r.Shunt=true then [] else
 match a_n c.Sigs r.Exit with
 | none=> []
 | some x=>match nxt c.Jts x.Sec x.End_ with
   | none=> []
   | some (q,_)=>match a_n c.Secs q with
     | none=> []
     | some y=>if y.Line=0/\h_7 r.Path q=false/\q≠c.approach r then [q] else []
def m_a (js:List Jt) :List Sg->List Sg->Bool
 | [],_=>true
 | x::r,seen=>if (nxt js x.Sec x.End_).isSome=true/\x ∉ seen then m_a js r (x::seen) else false
def xrun (secs:List Sec) :List Int->List Int->Bool
 | [],_=>true
 | x::r,seen=>match a_n secs x with
   | none=>false
   | some s=>if s.Line=0/\x ∉ seen then xrun secs r (x::seen) else false
def Cf.sigsOk (c:Cf) :Bool:=m_a c.Jts c.Sigs [] && decide (c.Sigs.length<=12)
def Cf.xsOk (c:Cf) :Bool:=xrun c.Secs c.Xs [] && decide (c.Xs.length<=4)
end
end Go.Fw
namespace Go.Proofs.YtaklhjodjbgmgaaGreat
open Go.Fw Go.Proofs Go.RowKit
open Go.Proofs.Tryz (prog)
section
variable {σ:Store}
theorem z_a {d f:D}{l:List St}{p:St->Bool}(h:At prog σ f_k d (l.map St.enc))(hf:FnIs prog σ f (fun x:St=> .agg x.enc) l p) :
   Pure prog e_p [.one d, .one f] σ (.a (iA (d_h p l 0))):=by
 have hl:=h.size
 rw[zB] at hl
 obtain ⟨f1,a,b,as0',bs,rfl,ha,hb,hf⟩:=hf
 refine n_y d _ σ _ (h.lenK ⟨fun n s=>s=σ/\Rng l (fun r=>∀j:Nat,n=j->d_h p r j=d_h p l 0) n,fun n _=>l.length - n.toNat,⟨rfl, .start fun j hj=>by cases j with | zero=>rfl | succ j=>omega⟩,?_⟩)
 rintro n τ ⟨rfl,hr⟩
 refine bcd (fun hlt=>?_) (fun hge=>?_)
 · obtain ⟨j,x,rfl,hx,hj,hF,nx⟩:=hr.step (by simp) hl hlt
   refine h.load (a_g hx) q_g rfl ⟨x.Sec,x.In,x.Out,rfl,f1,a,b,as0',bs,rfl,ha,hb,?_⟩
   have hF:=hF j rfl
   rw[d_h] at hF
   refine (hf x (zC hx)).mono ?_
   rintro r s ⟨rfl,rfl⟩
   refine ⟨p x,rfl,bc (fun hp=>?_) (fun hp=>?_)⟩
   · rw[if_pos hp] at hF;exact ⟨by rw[<-hF],rfl⟩
   · refine i_r rfl (nx _ fun j' hj'=>?_)
     rw[a_i (by omega)] at hj'
     have:j'=j+1:=by omega
     subst this
     rw[if_neg (by rw[hp];simp)] at hF
     exact hF
 · refine ⟨?_,rfl⟩
   obtain ⟨j,hj,hj2,hF⟩:=hr
   have hF:=hF j hj
   rw[zB] at hge
   rw[e_c (by omega)] at hF
   rw[<-hF];rfl
theorem r_d {d f:D}{l:List St}{p:St->Bool}(h:At prog σ f_k d (l.map St.enc))(hf:FnIs prog σ f (fun x:St=> .agg x.enc) l p) :
   Pure prog d_y [.one d, .one f] σ (.a (bA (l.any p))):=
 l_v d f σ _ ((z_a h hf).use ⟨_,rfl,by rw[a_fi];exact ⟨rfl,rfl⟩⟩)
theorem z_d {d f:D}{l:List Nd}{p:Nd->Bool}(h:At prog σ c_e d (l.map Nd.enc))(hf:FnIs prog σ f (fun x:Nd=> .agg x.enc) l p) :
   Pure prog e_s [.one d, .one f] σ (.a (iA (d_h p l 0))):=by
 have hl:=h.size
 rw[zB] at hl
 obtain ⟨f1,a,b,as0',bs,rfl,ha,hb,hf⟩:=hf
 refine n_e d _ σ _ (h.lenK ⟨fun n s=>s=σ/\Rng l (fun r=>∀j:Nat,n=j->d_h p r j=d_h p l 0) n,fun n _=>l.length - n.toNat,⟨rfl, .start fun j hj=>by cases j with | zero=>rfl | succ j=>omega⟩,?_⟩)
 rintro n τ ⟨rfl,hr⟩
 refine bcd (fun hlt=>?_) (fun hge=>?_)
 · obtain ⟨j,x,rfl,hx,hj,hF,nx⟩:=hr.step (by simp) hl hlt
   refine h.load (a_g hx) a_f6 rfl ⟨x.Sec,x.Pos,rfl,f1,a,b,as0',bs,rfl,ha,hb,?_⟩
   have hF:=hF j rfl
   rw[d_h] at hF
   refine (hf x (zC hx)).mono ?_
   rintro r s ⟨rfl,rfl⟩
   refine ⟨p x,rfl,bc (fun hp=>?_) (fun hp=>?_)⟩
   · rw[if_pos hp] at hF;exact ⟨by rw[<-hF],rfl⟩
   · refine i_r rfl (nx _ fun j' hj'=>?_)
     rw[a_i (by omega)] at hj'
     have:j'=j+1:=by omega
     subst this
     rw[if_neg (by rw[hp];simp)] at hF
     exact hF
 · refine ⟨?_,rfl⟩
   obtain ⟨j,hj,hj2,hF⟩:=hr
   have hF:=hF j hj
   rw[zB] at hge
   rw[e_c (by omega)] at hF
   rw[<-hF];rfl
theorem r_y {d f:D}{l:List Nd}{p:Nd->Bool}(h:At prog σ c_e d (l.map Nd.enc))(hf:FnIs prog σ f (fun x:Nd=> .agg x.enc) l p) :
   Pure prog c_h [.one d, .one f] σ (.a (bA (l.any p))):=
 l_f d f σ _ ((z_d h hf).use ⟨_,rfl,by rw[a_fi];exact ⟨rfl,rfl⟩⟩)
theorem q_z {d f:D}{l:List Sec}{p:Sec->Bool}(h:At prog σ d_n d (l.map Sec.enc))(hf:FnIs prog σ f (fun x:Sec=> .agg x.enc) l p) :
   Pure prog d_q [.one d, .one f] σ (.a (iA (d_h p l 0))):=by
 have hl:=h.size
 rw[zB] at hl
 obtain ⟨f1,a,b,as0',bs,rfl,ha,hb,hf⟩:=hf
 refine l_j d _ σ _ (h.lenK ⟨fun n s=>s=σ/\Rng l (fun r=>∀j:Nat,n=j->d_h p r j=d_h p l 0) n,fun n _=>l.length - n.toNat,⟨rfl, .start fun j hj=>by cases j with | zero=>rfl | succ j=>omega⟩,?_⟩)
 rintro n τ ⟨rfl,hr⟩
 refine bcd (fun hlt=>?_) (fun hge=>?_)
 · obtain ⟨j,x,rfl,hx,hj,hF,nx⟩:=hr.step (by simp) hl hlt
   refine h.load (a_g hx) a_x rfl ⟨x.Kind,x.OC,x.Line,rfl,f1,a,b,as0',bs,rfl,ha,hb,?_⟩
   have hF:=hF j rfl
   rw[d_h] at hF
   refine (hf x (zC hx)).mono ?_
   rintro r s ⟨rfl,rfl⟩
   refine ⟨p x,rfl,bc (fun hp=>?_) (fun hp=>?_)⟩
   · rw[if_pos hp] at hF;exact ⟨by rw[<-hF],rfl⟩
   · refine i_r rfl (nx _ fun j' hj'=>?_)
     rw[a_i (by omega)] at hj'
     have:j'=j+1:=by omega
     subst this
     rw[if_neg (by rw[hp];simp)] at hF
     exact hF
 · refine ⟨?_,rfl⟩
   obtain ⟨j,hj,hj2,hF⟩:=hr
   have hF:=hF j hj
   rw[zB] at hge
   rw[e_c (by omega)] at hF
   rw[<-hF];rfl
theorem p_f {d:D}{l:List Sg}(v:Sg)(h:At prog σ c_v d (l.map Sg.enc)) :Pure prog d_z [.one d, .agg v.enc] σ (.a (iA (d_h (fun x=>decide (v=x)) l 0))):=by
 have hl:=h.size
 rw[zB] at hl
 refine p_w d v.Sec v.End_ σ _ (h.lenK ⟨fun n s=>s=σ/\Rng l (fun r=>∀j:Nat,n=j->d_h (fun x=>decide (v=x)) r j=d_h (fun x=>decide (v=x)) l 0) n,fun n _=>l.length - n.toNat,⟨rfl, .start fun j hj=>by cases j with | zero=>rfl | succ j=>omega⟩,?_⟩)
 rintro n τ ⟨rfl,hr⟩
 refine bcd (fun hlt=>?_) (fun hge=>?_)
 · obtain ⟨j,x,rfl,hx,hj,hF,nx⟩:=hr.step (by simp) hl hlt
   refine h.load (a_g hx) d_b rfl ⟨x.Sec,x.End_,rfl,?_⟩
   have hF:=hF j rfl
   rw[d_h] at hF
   have hd:((v.Sec == x.Sec) && (v.End_ == x.End_)) =decide (v=x):=by
     rw[Bool.eq_iff_iff];cases v;cases x;simp
   rw[hd]
   refine bc (fun hp=>?_) (fun hp=>?_)
   · rw[if_pos hp] at hF;exact ⟨by rw[<-hF],rfl⟩
   · refine i_r rfl (nx _ fun j' hj'=>?_)
     rw[a_i (by omega)] at hj'
     have:j'=j+1:=by omega
     subst this
     rw[if_neg (by rw[hp];simp)] at hF
     exact hF
 · refine ⟨?_,rfl⟩
   obtain ⟨j,hj,hj2,hF⟩:=hr
   have hF:=hF j hj
   rw[zB] at hge
   rw[e_c (by omega)] at hF
   rw[<-hF];rfl
theorem w_q {d:D}{l:List Sg}(v:Sg)(h:At prog σ c_v d (l.map Sg.enc)) :Pure prog e_d [.one d, .agg v.enc] σ (.a (bA (l.any fun x=>decide (v=x)))):=
 m_4 d v.Sec v.End_ σ _ ((p_f v h).use ⟨_,rfl,by rw[a_fi];exact ⟨rfl,rfl⟩⟩)
theorem a_g2 {d1 d2:D}{l1 l2:List Nd}(h1:At prog σ c_e d1 (l1.map Nd.enc))(h2:At prog σ c_e d2 (l2.map Nd.enc)) :Pure prog g_j [.one d1, .one d2] σ (.a (bA (decide (l1=l2)))):=by
 have hl1:=h1.size
 have hl2:=h2.size
 rw[zB] at hl1 hl2
 refine t_s d1 d2 σ _ (h1.lenK (h2.lenK (bcn (fun hne=>?_) (fun heq=>h1.lenK ?_))))
 · rw[zB,zB] at hne
   exact ⟨by rw[decide_eq_false (fun e=>hne (by rw[e]))],rfl⟩
 rw[zB,zB] at heq
 refine ⟨fun n s=>s=σ/\Rng l1 (fun r=>∀j:Nat,n=j->(r=l2.drop j↔l1=l2)) n,fun n _=>l1.length - n.toNat,⟨rfl, .start fun j hj=>by cases j with | zero=>simp | succ j=>omega⟩,?_⟩
 rintro n τ ⟨rfl,hr⟩
 refine bcd (fun hlt=>?_) (fun hge=>?_)
 · obtain ⟨j,x,rfl,hx,hj,hF,nx⟩:=hr.step (by simp) hl1 hlt
   obtain ⟨y,hy⟩:=a_c (l:=l2) (j:=j) (by omega)
   refine h1.load (a_g hx) a_f6 rfl ⟨x.Sec,x.Pos,rfl,h2.load (a_g hy) a_f6 rfl ⟨y.Sec,y.Pos,rfl,?_⟩⟩
   have hF:=hF j rfl
   rw[b_k hy,List.cons.injEq] at hF
   have hd:((x.Sec == y.Sec) && (x.Pos == y.Pos)) =decide (x=y):=by
     rw[Bool.eq_iff_iff];cases x;cases y;simp
   rw[hd]
   refine a_0 (fun hp=>?_) (fun hp=>?_)
   · exact ⟨by rw[decide_eq_false (fun e=>of_decide_eq_false hp (hF.2 e).1)],rfl⟩
   · refine i_r rfl (nx _ fun j' hj'=>?_)
     rw[a_i (by omega)] at hj'
     have:j'=j+1:=by omega
     subst this
     rw[<-hF];exact ⟨fun h=>⟨zM hp,h⟩,fun h=>h.2⟩
 · obtain ⟨j,hj,hj2,hF⟩:=hr
   rw[zB] at hge
   have hF:=hF j hj
   rw[e_c (by omega),e_c (by omega)] at hF
   exact ⟨by rw[decide_eq_true (hF.1 rfl)],rfl⟩
theorem a_ln {d1 d2:D}{l1 l2:List Int}(h1:At prog σ a_e d1 (l1.map Go.Fw.encI))(h2:At prog σ a_e d2 (l2.map Go.Fw.encI)) :Pure prog h_b [.one d1, .one d2] σ (.a (bA (decide (l1=l2)))):=by
 have hl1:=h1.size
 have hl2:=h2.size
 rw[zB] at hl1 hl2
 refine u_z d1 d2 σ _ (h1.lenK (h2.lenK (bcn (fun hne=>?_) (fun heq=>h1.lenK ?_))))
 · rw[zB,zB] at hne
   exact ⟨by rw[decide_eq_false (fun e=>hne (by rw[e]))],rfl⟩
 rw[zB,zB] at heq
 refine ⟨fun n s=>s=σ/\Rng l1 (fun r=>∀j:Nat,n=j->(r=l2.drop j↔l1=l2)) n,fun n _=>l1.length - n.toNat,⟨rfl, .start fun j hj=>by cases j with | zero=>simp | succ j=>omega⟩,?_⟩
 rintro n τ ⟨rfl,hr⟩
 refine bcd (fun hlt=>?_) (fun hge=>?_)
 · obtain ⟨j,x,rfl,hx,hj,hF,nx⟩:=hr.step (by simp) hl1 hlt
   obtain ⟨y,hy⟩:=a_c (l:=l2) (j:=j) (by omega)
   refine h1.load (a_g hx) c_int rfl ⟨x,rfl,h2.load (a_g hy) c_int rfl ⟨y,rfl,?_⟩⟩
   have hF:=hF j rfl
   rw[b_k hy,List.cons.injEq] at hF
   refine bcn (fun hp=>?_) (fun hp=>?_)
   · exact ⟨by rw[decide_eq_false (fun e=>hp (hF.2 e).1)],rfl⟩
   · refine i_r rfl (nx _ fun j' hj'=>?_)
     rw[a_i (by omega)] at hj'
     have:j'=j+1:=by omega
     subst this
     rw[<-hF];exact ⟨fun h=>⟨hp,h⟩,fun h=>h.2⟩
 · obtain ⟨j,hj,hj2,hF⟩:=hr
   rw[zB] at hge
   have hF:=hF j hj
   rw[e_c (by omega),e_c (by omega)] at hF
   exact ⟨by rw[decide_eq_true (hF.1 rfl)],rfl⟩
end
section
variable {σ:Store}
structure CfAt (σ:Store) (c0 c1 c2 c3 c4:D) (c:Cf) :Prop where
 secs:At prog σ d_n c0 (c.Secs.map Sec.enc)
 jts:At prog σ e_8 c1 (c.Jts.map Jt.enc)
 sigs:At prog σ c_v c2 (c.Sigs.map Sg.enc)
 xs:At prog σ a_e c3 (c.Xs.map Go.Fw.encI)
 rts:a_yr prog s_b f_k c_e a_e σ c4 c.Rts
abbrev cfA (c0 c1 c2 c3 c4:D)(c:Cf) :A:= .agg [c0,c1,c2,c3,c4,iD c.Age,iD c.Brake,iD c.Hold,iD c.Budget]
abbrev rtA (d1 d2 d3:D)(r:Rt) :A:= .agg [iD r.Entry,iD r.Exit,d1,d2,d3, .bool r.Shunt]
section
variable {c0 c1 c2 c3 c4:D} {c:Cf} (h:CfAt σ c0 c1 c2 c3 c4 c)
include h
theorem f_e (s:Int) :Pure prog b_0 [cfA c0 c1 c2 c3 c4 c,iA s] σ (a_y0 (a_n c.Secs s)):=by
 refine t_m _ _ _ _ _ _ _ _ _ s σ _ (bcd (fun h1=>⟨by rw[a_5 h1];rfl,rfl⟩) (fun h1=>h.secs.lenK (bcd (fun h2=>⟨by rw[zB] at h2;rw[b_u h2];rfl,rfl⟩) (fun h2=>?_))))
 rw[zB] at h2
 obtain ⟨x,hx⟩:=a_c (l:=c.Secs) (j:=s.toNat) (by omega)
 refine h.secs.load (a_g hx) a_x (by omega) ⟨x.Kind,x.OC,x.Line,rfl,?_,rfl⟩
 have:a_n c.Secs s=some x:=by unfold a_n;rw[if_neg h1,hx]
 rw[this];rfl
theorem i_n (s:Int) :Pure prog c_y [cfA c0 c1 c2 c3 c4 c,iA s] σ (sgRV (a_n c.Sigs s)):=by
 refine w_d _ _ _ _ _ _ _ _ _ s σ _ (bcd (fun h1=>⟨by rw[a_5 h1];rfl,rfl⟩) (fun h1=>h.sigs.lenK (bcd (fun h2=>⟨by rw[zB] at h2;rw[b_u h2];rfl,rfl⟩) (fun h2=>?_))))
 rw[zB] at h2
 obtain ⟨x,hx⟩:=a_c (l:=c.Sigs) (j:=s.toNat) (by omega)
 refine h.sigs.load (a_g hx) d_b (by omega) ⟨x.Sec,x.End_,rfl,?_,rfl⟩
 have:a_n c.Sigs s=some x:=by unfold a_n;rw[if_neg h1,hx]
 rw[this];rfl
theorem n_q (r:Rt)(d1 d2 d3:D) :Pure prog e_a [cfA c0 c1 c2 c3 c4 c,rtA d1 d2 d3 r] σ (.a (iA (c.approach r))):=by
 refine q_w _ _ _ _ _ _ _ _ _ _ _ d1 d2 d3 _ σ _ ((i_n h r.Entry).use ?_)
 cases hg:a_n c.Sigs r.Entry with
 | none=>exact ⟨0,0,false,rfl,by simp[Cf.approach,hg],rfl⟩
 | some x=>exact ⟨x.Sec,x.End_,true,rfl,by simp[Cf.approach,hg],rfl⟩
theorem a_ya {i:Nat}{r:Rt}(hr:c.Rts[i]? =some r) :∃rows,At prog σ s_b c4 rows/\rows.length=c.Rts.length/\∃d1 d2 d3,rows[i]? =some [iD r.Entry,iD r.Exit,d1,d2,d3, .bool r.Shunt]/\At prog σ f_k d1 (r.Path.map St.enc)/\At prog σ c_e d2 (r.Flank.map Nd.enc)/\At prog σ a_e d3 (r.Overlap.map Go.Fw.encI):=by
 obtain ⟨rows,h1,h2,h3⟩:=h.rts
 have hlt:=(zA.1 hr).1
 obtain ⟨row,hrow⟩:=a_c (l:=rows) (j:=i) (by omega)
 obtain ⟨d1,d2,d3,rfl,q1,q2,q3⟩:=h3 i row r hrow hr
 exact ⟨rows,h1,h2,d1,d2,d3,hrow,q1,q2,q3⟩
theorem a_xx:∃rows,At prog σ s_b c4 rows/\rows.length=c.Rts.length:=by
 obtain ⟨rows,h1,h2,h3⟩:=h.rts
 exact ⟨rows,h1,h2⟩
end
theorem a_r7 {α:Type}{f1:FuncId}{id:Nat}{t:TypeId}{n:Int}{arg:α->A}{l:List α}{p:α->Bool}(hs:σ id= .live t [[iD n]])
   (hf:∀x ∈ l,DCalls prog f1 [arg x, .one (.el (.osl id 0 1) 0 0)] σ fun r s=>r= .a (bA (p x))/\s=σ) :FnIs prog σ (.fn f1 [] [(false,[.el (.osl id 0 1) 0 0])]) arg l p:=
 ⟨f1,_,_,[],[.one (.el (.osl id 0 1) 0 0)],rfl,rfl,rfl,hf⟩
theorem a_d {id:Nat}{t:TypeId}{row:List D}(hs:σ id= .live t [row]) :Row σ (.osl id 0 1) 0 row:=⟨by omega,t,[row],hs,rfl⟩
theorem a_cf {d:D}{path:List St}(s:Int)(h:At prog σ f_k d (path.map St.enc)) :Pure prog o_v [.one d,iA s] σ (.a (bA (h_7 path s))):=by
 refine .of (a_qo d s σ _ (a_f fun id σ1 hid _ he hs=>?_)) (a_f8 _)
 refine (r_d (p:=fun x=>x.Sec == s) (h.ext he) (a_r7 hs fun x _=>?_)).use ⟨_,rfl,rfl,he⟩
 exact a_k9 x.Sec x.In x.Out _ σ1 _ ⟨_,_,_,rfl,_,a_d hs,s,rfl,rfl,rfl⟩
theorem a_rz {d:D}{l:List Nd}{id:Nat}{q:Int}(h:At prog σ c_e d (l.map Nd.enc))(hs:σ id= .live a_e [[iD q]]) :
   Pure prog c_h [.one d, .one (.fn g_m [] [(false,[.el (.osl id 0 1) 0 0])])] σ (.a (bA (l.any fun n=>n.Sec == q))):=
 r_y (p:=fun x=>x.Sec == q) h (a_r7 hs fun x _=>s_8 x.Sec x.Pos _ σ _ ⟨_,_,_,rfl,_,a_d hs,q,rfl,rfl,rfl⟩)
end
end Go.Proofs.YtaklhjodjbgmgaaGreat
namespace Go.Fw
section
theorem j_a (o:Option (Int × Int)){K:Int->Int->Bool->Prop}(h:K (o.getD (0,0)).1 (o.getD (0,0)).2 o.isSome) :∃n m:Int,∃b:Bool,opt2 o= .tup [iA n,iA m,bA b]/\K n m b:=by
 cases o with
 | none=>exact ⟨0,0,false,rfl,h⟩
 | some p=>exact ⟨p.1,p.2,true,rfl,h⟩
theorem a_sd (o:Option Int){K:Int->Bool->Prop}(h:K (o.getD 0) o.isSome) :∃n:Int,∃b:Bool,opt1 o= .tup [iA n,bA b]/\K n b:=by
 cases o with
 | none=>exact ⟨0,false,rfl,h⟩
 | some p=>exact ⟨p,true,rfl,h⟩
theorem a_eq (o:Option Sec){K:Int->Int->Int->Bool->Prop}(h:K (o.getD ⟨0,0,0⟩).Kind (o.getD ⟨0,0,0⟩).OC (o.getD ⟨0,0,0⟩).Line o.isSome) :∃n m k:Int,∃b:Bool,a_y0 o= .tup [.agg [iD n,iD m,iD k],bA b]/\K n m k b:=by
 cases o with
 | none=>exact ⟨0,0,0,false,rfl,h⟩
 | some p=>exact ⟨p.Kind,p.OC,p.Line,true,rfl,h⟩
theorem a_ww (o:Option Sg){K:Int->Int->Bool->Prop}(h:K (o.getD ⟨0,0⟩).Sec (o.getD ⟨0,0⟩).End_ o.isSome) :∃n m:Int,∃b:Bool,sgRV o= .tup [.agg [iD n,iD m],bA b]/\K n m b:=by
 cases o with
 | none=>exact ⟨0,0,false,rfl,h⟩
 | some p=>exact ⟨p.Sec,p.End_,true,rfl,h⟩
def a_cd (c:Cf)(r:Rt)(ex:Option Sg)(a:Sg)(s:St)(last:Bool)(seen:List Int) :Bool:=
 match nxt c.Jts a.Sec a.End_ with
 | none=>false
 | some (q, i) => decide (q = s.Sec) && decide (i = s.In) && (m_w (d_5 ((a_n c.Secs q).getD ⟨0, 0, 0⟩).Kind) s.In s.Out).isSome && decide (q ∉ seen) &&
     (!(c.Sigs.any fun x=>decide (⟨s.Sec,s.Out⟩ =x)) || (last && decide (ex=some ⟨s.Sec,s.Out⟩))) && !(r.Shunt && decide (((a_n c.Secs q).getD ⟨0,0,0⟩).Line≠0))
def t_3 (c:Cf)(r:Rt)(ex:Option Sg) :List St->Sg->List Int->Bool
 | [],a,_=>match ex with
   | some x=>decide (a=x)
   | none=> !(nxt c.Jts a.Sec a.End_).isSome
 | s::rest,a,seen=>a_cd c r ex a s rest.isEmpty seen && t_3 c r ex rest ⟨s.Sec,s.Out⟩ (s.Sec::seen)
def Cf.path (c:Cf)(r:Rt) :Bool:=
 match a_n c.Sigs r.Entry with
 | none=>false
 | some a=>(decide (r.Exit= -1) || (a_n c.Sigs r.Exit).isSome) && decide (1<=r.Path.length/\r.Path.length<=8) && t_3 c r (a_n c.Sigs r.Exit) r.Path a [a.Sec]
def Cf.route (c:Cf)(r:Rt) :Int:=
 if c.path r=false then 9 else if r.Flank≠c.flank (c.approach r) r.Path then 10 else if r.Overlap≠c.overlap r then 11 else 0
def Cf.routes (c:Cf) :List Rt->Int
 | []=>0
 | r::l=>if c.route r≠0 then c.route r else c.routes l
def Cf.timing (c:Cf) :Bool:=
 decide (1<=c.Age/\c.Age<=8) && decide (0<=c.Brake/\c.Brake<=8) && decide (c.Age+c.Brake+1<=c.Hold/\c.Hold<=40) && decide (1<=c.Budget/\c.Budget<=1000000)
def Cf.check (c:Cf) :Int:=
 if c_s c.Secs c.Jts=false then 6 else if c.sigsOk=false then 7 else if c.xsOk=false then 8 else if c.Rts.length > 12 then 9
 else if c.routes c.Rts≠0 then c.routes c.Rts else if c.timing=true then 0 else 12
theorem Rows.det {P:Program}{s s':Store}{el:TypeId}{d:D}{rs rs':List (List D)}(h:Rows P s el d rs)(h':Rows P s' el d rs')(hd:∀id i len,d≠ .osl id i len) :rs=rs':=by
 cases d <;> simp only[Rows] at h h' <;> try exact h.elim
 · rw[h,h']
 · rw[h,h']
 · rw[h.1,h'.1]
 · exact absurd rfl (hd _ _ _)
theorem a_q8 {P:Program}{el:TypeId}{d:D}(h:∀s,∃rs,Rows P s el d rs) :∀id i len,d≠ .osl id i len:=by
 rintro id i len rfl
 obtain ⟨rs,t,rows,h1,_⟩:=h fun _=> .free
 cases h1
theorem a_nw {P:Program}{tR tS tN tI:TypeId}{d:D}{l:List Rt}(h:∀s,a_yr P tR tS tN tI s d l) :
   ∃rows,(∀s,At P s tR d rows)/\rows.length=l.length/\∀(i:Nat) row r,rows[i]? =some row->l[i]? =some r->
     ∃d1 d2 d3,row=[iD r.Entry,iD r.Exit,d1,d2,d3, .bool r.Shunt]/\(∀s,At P s tS d1 (r.Path.map St.enc))/\(∀s,At P s tN d2 (r.Flank.map Nd.enc))/\(∀s,At P s tI d3 (r.Overlap.map encI)):=by
 have hp:=a_q8 (P:=P) (el:=tR) (d:=d) fun s=>by
   obtain ⟨rows,h1,_⟩:=h s
   exact ⟨rows,h1.rows⟩
 obtain ⟨rows,h1,h2,h3⟩:=h fun _=> .free
 have hall:∀s,At P s tR d rows/\∀(i:Nat) row r,rows[i]? =some row->l[i]? =some r->RtAt P tS tN tI s row r:=fun s=>by
   obtain ⟨rows',q1,q2,q3⟩:=h s
   have e:=q1.rows.det h1.rows hp
   subst e
   exact ⟨q1,q3⟩
 refine ⟨rows,fun s=>(hall s).1,h2,fun i row r hi hr=>?_⟩
 obtain ⟨d1,d2,d3,rfl,_⟩:=h3 i row r hi hr
 refine ⟨d1,d2,d3,rfl,fun s=>?_,fun s=>?_,fun s=>?_⟩ <;>
 · obtain ⟨e1,e2,e3,he,q1,q2,q3⟩:=(hall s).2 i _ r hi hr
   injection he with _ he;injection he with _ he;injection he with a1 he;injection he with a2 he;injection he with a3 he
   subst a1 a2 a3
   assumption
end
end Go.Fw
namespace Go.Proofs.YtaklhjodjbgmgaaGreat
open Go.Fw Go.Proofs Go.RowKit
open Go.Proofs.Tryz (prog)
section
variable {σ:Store}
abbrev a_ys (p:Sg) :A:= .agg [iD p.Sec,iD p.End_]
theorem a_lf:Keys prog c_v a_ys:=by
 refine ⟨fun x=>?_,fun x y=>?_⟩
 · have:∀a b:Int,g_s prog c_v (.agg [iD a,iD b]) =true:=fun a b=>by kernel_rfl
   exact this _ _
 · cases x;cases y;simp[eqA,b_x,b_p,e_f]
theorem d_3 (n lo hi:Int) :Pure prog c_4 [iA n,iA lo,iA hi] σ (.a (bA (decide (lo<=n/\n<=hi)))):=by
 refine a_fz n lo hi σ _ (bcd (fun h=>⟨?_,rfl⟩) (fun h=>⟨?_,rfl⟩)) <;> simp[h]
section
variable {c0 c1 c2 c3 c4:D} {c:Cf} (h:∀s,CfAt s c0 c1 c2 c3 c4 c)
include h
theorem a_cp:Pure prog g_g [cfA c0 c1 c2 c3 c4 c] σ (.a (bA c.sigsOk)):=by
 have hl:=(h σ).sigs.size
 rw[zB] at hl
 refine .of (s_o _ _ _ _ _ _ _ _ _ σ _ ?_) (a_f8 _)
 refine a_f fun id σ1 hid _ he hs=>(h σ1).sigs.lenK ⟨fun n s=>∃seen f,MapAt prog c_v a_ys s id f/\(∀z,f z=if z ∈ seen then some (iA 1) else none)/\Ext σ s/\Rng c.Sigs (fun r=>m_a c.Jts r seen=m_a c.Jts c.Sigs []) n,
   fun n _=>c.Sigs.length - n.toNat,⟨[],_, .new hs,fun z=>by simp,he, .start rfl⟩,?_⟩
 rintro n s ⟨seen,f,hm,hf,hes,hr⟩
 refine bcd (fun hlt=>?_) (fun hge=>?_)
 · obtain ⟨j,x,rfl,hx,hj,hF,nx⟩:=hr.step (by simp) hl hlt
   refine (h s).sigs.load (a_g hx) d_b rfl ⟨x.Sec,x.End_,rfl,(e_0 x.Sec x.End_ (h s).jts).use (j_a _ ?_)⟩
   rw[m_a] at hF
   have key:∀k:Int,f x=(if x ∈ seen then some (iA 1) else none)->((f x).getD (iA 0) =iA (if x ∈ seen then 1 else 0)):=fun k e=>by
     rw[e];split <;> rfl
   refine hm.lookI a_lf x (key 0 (hf x)) (hm.bump a_lf x fun s' f' hm' hf' hfx hs' hne=>?_)
   have hes':Ext σ s':=fun i hi=>by
     rw[hs' i (fun e=>hi (by rw[e];exact hid))];exact hes i hi
   refine a_0 (fun hb=>?_) (fun hb=>?_)
   · rw[if_neg (by rw[hb];simp)] at hF
     exact ⟨by simp[Cf.sigsOk,<-hF],hes'⟩
   · refine hm'.lookI a_lf x (by rw[hfx];rfl) (bcd (fun h2=>?_) (fun h2=>?_))
     · have hin : x ∈ seen := by
         by_cases hin:x ∈ seen
         · exact hin
         · rw[if_neg hin] at h2;exact absurd h2 (by decide)
       rw[if_neg (by simp[hin])] at hF
       exact ⟨by simp[Cf.sigsOk,<-hF],hes'⟩
     · have hin:x ∉ seen:=fun hin=>h2 (by rw[if_pos hin];decide)
       rw[if_pos ⟨hb,hin⟩] at hF
       have hn:=nx (fun r=>m_a c.Jts r (x::seen) =m_a c.Jts c.Sigs []) hF
       refine ⟨⟨x::seen,f',hm',fun z=>?_,hes',hn.1⟩,hn.2⟩
       by_cases hz:z=x
       · subst hz;rw[hfx,if_neg hin];simp;rfl
       · rw[hf' z hz,hf];simp[hz]
 · have hF:=hr.done (by simp) hge
   rw[m_a] at hF
   refine (h s).sigs.lenK ⟨?_,hes⟩
   rw[Cf.sigsOk,<-hF,zB,Bool.true_and]
   congr 4;simp;omega
theorem x_f:Pure prog f_i [cfA c0 c1 c2 c3 c4 c] σ (.a (bA c.xsOk)):=by
 have hl:=(h σ).xs.size
 rw[zB] at hl
 refine .of (p_q _ _ _ _ _ _ _ _ _ σ _ ?_) (a_f8 _)
 refine a_f fun id σ1 hid _ he hs=>(h σ1).xs.lenK ⟨fun n s=>∃seen f,MapAt prog a_e iA s id f/\(∀z,f z=if z ∈ seen then some (iA 1) else none)/\Ext σ s/\Rng c.Xs (fun r=>xrun c.Secs r seen=xrun c.Secs c.Xs []) n,
   fun n _=>c.Xs.length - n.toNat,⟨[],_, .new hs,fun z=>by simp,he, .start rfl⟩,?_⟩
 rintro n s ⟨seen,f,hm,hf,hes,hr⟩
 refine bcd (fun hlt=>?_) (fun hge=>?_)
 · obtain ⟨j,x,rfl,hx,hj,hF,nx⟩:=hr.step (by simp) hl hlt
   refine (h s).xs.load (a_g hx) c_int rfl ⟨x,rfl,(f_e (h s) x).use (a_eq _ ?_)⟩
   rw[xrun] at hF
   have key:(f x).getD (iA 0) =iA (if x ∈ seen then 1 else 0):=by
     rw[hf];split <;> rfl
   refine hm.lookI h_j x key (hm.put h_j x fun s' f' hm' hf' hfx hs' hne=>?_)
   have hes':Ext σ s':=fun i hi=>by
     rw[hs' i (fun e=>hi (by rw[e];exact hid))];exact hes i hi
   refine a_0 (fun hb=>?_) (fun hb=>?_)
   · cases hg:a_n c.Secs x with
     | some y=>rw[hg] at hb;cases hb
     | none=>
       rw[hg] at hF
       exact ⟨by simp[Cf.xsOk,<-hF],hes'⟩
   · obtain ⟨y,hg⟩:=Option.isSome_iff_exists.1 hb
     rw[hg] at hF
     simp only[hg,Option.getD_some] at hF ⊢
     refine bcn (fun h3=>?_) (fun h3=>?_)
     · rw[if_neg (by simp[h3])] at hF
       exact ⟨by simp[Cf.xsOk,<-hF],hes'⟩
     refine hm'.lookI h_j x (by rw[hfx];rfl) (bcd (fun h2=>?_) (fun h2=>?_))
     · have hin : x ∈ seen := by
         by_cases hin:x ∈ seen
         · exact hin
         · rw[if_neg hin] at h2;exact absurd h2 (by decide)
       rw[if_neg (by simp[hin])] at hF
       exact ⟨by simp[Cf.xsOk,<-hF],hes'⟩
     · have hin:x ∉ seen:=fun hin=>h2 (by rw[if_pos hin];decide)
       rw[if_pos ⟨h3,hin⟩] at hF
       have hn:=nx (fun r=>xrun c.Secs r (x::seen) =xrun c.Secs c.Xs []) hF
       refine ⟨⟨x::seen,f',hm',fun z=>?_,hes',hn.1⟩,hn.2⟩
       by_cases hz:z=x
       · subst hz;rw[hfx,if_neg hin];simp;rfl
       · rw[hf' z hz,hf];simp[hz]
 · have hF:=hr.done (by simp) hge
   rw[xrun] at hF
   refine (h s).xs.lenK ⟨?_,hes⟩
   rw[Cf.xsOk,<-hF,zB,Bool.true_and]
   congr 4;simp;omega
end
end
section
variable {σ:Store}
def f_n (σ:Store)(t:TypeId)(rows:List (List D))(r:RV)(σ':Store) :Prop:=σ'=σ/\∃d,r= .a (.one d)/\∀s,At prog s t d rows
theorem g_0 {t:TypeId}{d:D}{rows:List (List D)}{s:Store}(h:Own prog σ s t d rows)(hf:∀row ∈ rows,∀x ∈ row,Flat x) :
   ∃r' σ',Ret prog σ s (.a (.one d)) σ' r'/\f_n σ t rows r' σ':=by
 obtain ⟨d',h1,h2⟩:=b_s h.at_ h.ext h.new hf
 exact ⟨.a (.one d'),σ, .pure h.ext h1,rfl,d',rfl,h2⟩
theorem a_ws (l:List Nd) :∀row ∈ l.map Nd.enc,∀x ∈ row,Flat x:=by
 intro row hrow x hx
 obtain ⟨w,_,rfl⟩:=List.mem_map.1 hrow
 simp[Nd.enc] at hx
 rcases hx with rfl | rfl <;> exact .int _ _
theorem g_c (l:List Int) :∀row ∈ l.map Go.Fw.encI,∀x ∈ row,Flat x:=by
 intro row hrow x hx
 obtain ⟨w,_,rfl⟩:=List.mem_map.1 hrow
 simp[Go.Fw.encI] at hx
 subst hx;exact .int _ _
theorem a_tp {s:Store}{id:Nat}{t:TypeId}{x y:D}{K:Store->Prop}(hs:s id= .live t [[x]])(hK:∀s',s' id= .live t [[y]]->(∀i,i≠id->s' i=s i)->K s') :a_k [y] s (.osl id 0 1) 0 0 K:=
 ⟨id,0,1,t,[[x]],[x],rfl,by omega,hs,rfl,by simp,hK _ (Store.set_same _ _ _) fun i hi=>Store.set_ne _ _ hi⟩
section
variable {c0 c1 c2 c3 c4:D} {c:Cf} (h:∀s,CfAt s c0 c1 c2 c3 c4 c)
include h
theorem a_g6 (a:Int){d:D}{path:List St}(hp:∀s,At prog s f_k d (path.map St.enc))(hpl:path.length<=2 ^ 20) :
   DCalls prog i_p [cfA c0 c1 c2 c3 c4 c,iA a, .one d] σ (f_n σ c_e ((c.flank a path).map Nd.enc)):=by
 have hl:=(hp σ).size
 rw[zB] at hl
 refine (y_w _ _ _ _ _ _ _ _ _ a d σ _ ?_).ret (Q:=fun r s=>∃r' σ',Ret prog σ s r σ' r'/\f_n σ c_e ((c.flank a path).map Nd.enc) r' σ') (fun r s h=>h)
 refine (hp σ).lenK ⟨fun d n s=>∃out:List Nd,Own prog σ s c_e d (out.map Nd.enc)/\out.length<=4 * n.toNat/\Rng path (fun r=>f_g c a path r out=c.flank a path) n,fun _ n _=>path.length - n.toNat,
   ⟨[], .nil _ (.refl _),by simp, .start rfl⟩,?_⟩
 rintro d1 n s ⟨out,ho,hol,hr⟩
 refine bcd (fun hlt=>?_) (fun hge=>?_)
 · obtain ⟨j,x,rfl,hx,hj,hF,nx⟩:=hr.step (by simp) hl hlt
   refine (hp s).load (a_g hx) q_g rfl ⟨x.Sec,x.In,x.Out,rfl,(f_e (h s) x.Sec).use (a_eq _ ?_)⟩
   rw[f_g] at hF
   refine a_0 (fun hb=>?_) (fun hb=>?_)
   · cases hg:a_n c.Secs x.Sec with
     | some y=>rw[hg] at hb;cases hb
     | none=>
       rw[hg] at hF
       have hn:=nx (fun r=>f_g c a path r out=c.flank a path) hF
       exact ⟨⟨out,ho,by rw[a_i (by omega)];omega,hn.1⟩,hn.2⟩
   · obtain ⟨y,hg⟩:=Option.isSome_iff_exists.1 hb
     rw[hg] at hF
     simp only[hg,Option.getD_some] at hF ⊢
     refine (o_j _).use ⟨_,rfl,?_⟩
     have hne:=a_ek y.Kind
     refine ⟨fun d m s'=>∃out':List Nd,Own prog σ s' c_e d (out'.map Nd.enc)/\0<=m/\m<=b_v y.Kind/\out'.length<=4 * j+m.toNat/\d_p c a path x (b_v y.Kind - m).toNat m out'=d_p c a path x (b_v y.Kind).toNat 0 out,
       fun _ m _=>(b_v y.Kind - m).toNat,⟨out,ho,by omega,hne.1,by simp at hol ⊢;omega,by rw[Int.sub_zero]⟩,?_⟩
     rintro d2 m s' ⟨out',ho',hm0,hm1,hol',hE⟩
     refine bcd (fun hlt'=>?_) (fun hge'=>?_)
     · have hw:w64 (m+1) =m+1:=a_r (by omega) (by omega)
       have hk:(b_v y.Kind - m).toNat=(b_v y.Kind - (m+1)).toNat+1:=by omega
       rw[hk,d_p] at hE
       have leaf : ∀ (out2 : List Nd) (d3 : D) (s2 : Store), c_o c a path x out' m = out2 -> Own prog σ s2 c_e d3 (out2.map Nd.enc) ->
           (∃out':List Nd,Own prog σ s2 c_e d3 (out'.map Nd.enc)/\0<=w64 (m+1)/\w64 (m+1)<=b_v y.Kind/\out'.length<=4 * j+ (w64 (m+1)).toNat/\d_p c a path x (b_v y.Kind - w64 (m+1)).toNat (w64 (m+1)) out'=d_p c a path x (b_v y.Kind).toNat 0 out)/\
           (b_v y.Kind - w64 (m+1)).toNat < (b_v y.Kind - m).toNat:=by
         intro out2 d3 s2 h1 h2
         have hlen:=(t_6 c a path x out' m).2
         rw[hw]
         refine ⟨⟨out2,h2,by omega,by omega,by rw[<-h1];omega,by rw[<-h1];exact hE⟩,by omega⟩
       intro R hR
       refine bce (fun h1=>⟨trivial,leaf out' d2 s' (by rw[c_o,if_pos (.inl h1)]) ho'⟩) (fun h1=>bce (fun h2=>⟨trivial,leaf out' d2 s' (by rw[c_o,if_pos (.inr h2)]) ho'⟩) (fun h2=>⟨trivial,hR s' ?_⟩))
       have hst:c_o c a path x out' m=match nxt c.Jts x.Sec m with
         | none=>out'
         | some (q,f)=>match a_n c.Secs q with
           | none=>out'
           | some y=>if y.Kind=1/\(1<=f/\f<=2)/\q≠a/\h_7 path q=false/\(out'.any fun n=>n.Sec == q) =false then out' ++ [⟨q,3 - f⟩] else out':=by
         rw[c_o,if_neg (by rintro (e | e);exact h1 e;exact h2 e)] <;> rfl
       refine (e_0 x.Sec m (h s').jts).use (j_a _ ?_)
       generalize nxt c.Jts x.Sec m=o at hst
       refine a_f fun id s2 hid _ he hs2=>a_tp hs2 fun s3 hs3 hs3'=>?_
       have he3:Ext s' s3:=fun i hi=>by
         rw[hs3' i (fun e=>hi (by rw[e];exact hid))];exact he i hi
       have ho3:=ho'.ext' he3
       refine ⟨_,a_d hs3,_,rfl,(f_e (h s3) _).use (a_eq _ ?_)⟩
       intro R1 hR1
       refine a_0 (fun hb1=>?_) (fun hb1=>?_)
       · cases o with
         | some p=>cases hb1
         | none=>exact ⟨trivial,leaf out' d2 s3 hst ho3⟩
       obtain ⟨⟨q,f⟩,rfl⟩:=Option.isSome_iff_exists.1 hb1
       simp only[Option.getD_some] at hst hR1 hs3 ⊢
       refine a_0 (fun hb2=>?_) (fun hb2=>?_)
       · cases hg2:a_n c.Secs q with
         | some p=>rw[hg2] at hb2;cases hb2
         | none=>rw[hg2] at hst;exact ⟨trivial,leaf out' d2 s3 hst ho3⟩
       obtain ⟨y2,hg2⟩:=Option.isSome_iff_exists.1 hb2
       rw[hg2] at hst
       simp only[hg2,Option.getD_some] at hst ⊢
       have no:¬(y2.Kind=1/\(1<=f/\f<=2)/\q≠a/\h_7 path q=false/\(out'.any fun n=>n.Sec == q) =false)->c_o c a path x out' m=out':=fun hn=>by rw[hst,if_neg hn]
       refine bcn (fun h3=>⟨trivial,leaf out' d2 s3 (no fun h=>h3 h.1) ho3⟩) (fun h3=>?_)
       refine bcd (fun h4=>⟨trivial,leaf out' d2 s3 (no fun h=>by omega) ho3⟩) (fun h4=>?_)
       refine bcd (fun h5=>⟨trivial,leaf out' d2 s3 (no fun h=>by omega) ho3⟩) (fun h5=>?_)
       refine ⟨_,a_d hs3,q,rfl,bce (fun h6=>⟨trivial,leaf out' d2 s3 (no fun h=>h.2.2.1 h6) ho3⟩) (fun h6=>?_)⟩
       refine ⟨_,a_d hs3,q,rfl,(a_cf q (hp s3)).use ⟨_,rfl,bc (fun h7=>⟨trivial,leaf out' d2 s3 (no fun h=>by rw[h.2.2.2.1] at h7;cases h7) ho3⟩) (fun h7=>?_)⟩⟩
       refine (a_rz ho3.at_ hs3).use ⟨_,rfl,bc (fun h8=>⟨trivial,leaf out' d2 s3 (no fun h=>by rw[h.2.2.2.2] at h8;cases h8) ho3⟩) (fun h8=>⟨trivial,hR1 s3 ?_⟩)⟩
       refine ⟨_,a_d hs3,q,rfl,a_f fun id1 s4 hid1 _ he4 hs4=>?_⟩
       have hw2:w64 (3 - f) =3 - f:=a_r (by omega) (by omega)
       have ho4:=ho3.ext' he4
       refine ho4.append (At.fresh hs4 (by simp) rfl) (by simp;omega) (by simp;omega) fun d4 s5 ho5 _ _=>⟨trivial,leaf (out' ++ [⟨q,3 - f⟩]) d4 s5 (by rw[hst,if_pos ⟨h3,⟨by omega,by omega⟩,h6,h7,h8⟩]) ?_⟩
       rw[hw2] at ho5
       rw[List.map_append]
       exact ho5
     · have hz:(b_v y.Kind - m).toNat=0:=by omega
       rw[hz,d_p] at hE
       rw[<-hE] at hF
       have hn:=nx (fun r=>f_g c a path r out'=c.flank a path) hF
       exact ⟨⟨out',ho',by rw[a_i (by omega)];omega,hn.1⟩,hn.2⟩
 · have hF:=hr.done (by simp) hge
   rw[f_g] at hF
   rw[<-hF]
   exact g_0 ho (a_ws _)
theorem a_cy (r:Rt){d1 d2 d3:D}(hp:∀s,At prog s f_k d1 (r.Path.map St.enc)) :
   DCalls prog g_l [cfA c0 c1 c2 c3 c4 c,rtA d1 d2 d3 r] σ (f_n σ a_e ((c.overlap r).map Go.Fw.encI)):=by
 refine (t_c _ _ _ _ _ _ _ _ _ _ _ d1 d2 d3 _ σ _ ?_).ret (Q:=fun r' s=>∃r'' σ',Ret prog σ s r' σ' r''/\f_n σ a_e ((c.overlap r).map Go.Fw.encI) r'' σ') (fun r s h=>h)
 refine (i_n (h σ) _).use (a_ww _ ?_)
 intro R hR
 have nil:c.overlap r=[]->∃r'' σ',Ret prog σ σ (.a (.one .nils)) σ' r''/\f_n σ a_e ((c.overlap r).map Go.Fw.encI) r'' σ':=fun e=>by
   rw[e];exact g_0 (.nil _ (.refl _)) (g_c _)
 refine bc (fun h1=>nil (by rw[Cf.overlap,if_pos h1])) (fun h1=>a_0 (fun h2=>nil ?_) (fun h2=>⟨rfl,hR σ ?_⟩))
 · rw[Cf.overlap,if_neg (by rw[h1];simp)]
   cases hg:a_n c.Sigs r.Exit with
   | none=>rfl
   | some x=>rw[hg] at h2;cases h2
 obtain ⟨x,hg⟩:=Option.isSome_iff_exists.1 h2
 simp only[hg,Option.getD_some] at hR ⊢
 have hov:c.overlap r=match nxt c.Jts x.Sec x.End_ with
   | none=> []
   | some (q,_)=>match a_n c.Secs q with
     | none=> []
     | some y=>if y.Line=0/\h_7 r.Path q=false/\q≠c.approach r then [q] else []:=by
   rw[Cf.overlap,if_neg (by rw[h1];simp),hg] <;> rfl
 refine (e_0 _ _ (h σ).jts).use (j_a _ ((f_e (h σ) _).use (a_eq _ ?_)))
 generalize nxt c.Jts x.Sec x.End_=o at hov
 refine a_0 (fun hb1=>nil ?_) (fun hb1=>?_)
 · cases o with
   | none=>exact hov
   | some p=>cases hb1
 obtain ⟨⟨q,f⟩,rfl⟩:=Option.isSome_iff_exists.1 hb1
 simp only[Option.getD_some] at hov ⊢
 refine a_0 (fun hb2=>nil ?_) (fun hb2=>?_)
 · cases hg2:a_n c.Secs q with
   | none=>rw[hg2] at hov;exact hov
   | some p=>rw[hg2] at hb2;cases hb2
 obtain ⟨y,hg2⟩:=Option.isSome_iff_exists.1 hb2
 simp only[hg2,Option.getD_some] at hov ⊢
 have no:¬(y.Line=0/\h_7 r.Path q=false/\q≠c.approach r)->c.overlap r=[]:=fun hn=>by rw[hov,if_neg hn]
 refine bcn (fun h3=>nil (no fun h=>h3 h.1)) (fun h3=>(a_cf q (hp σ)).use ⟨_,rfl,bc (fun h4=>nil (no fun h=>by rw[h.2.1] at h4;cases h4)) (fun h4=>(n_q (h σ) r d1 d2 d3).use ⟨_,rfl,bce (fun h5=>nil (no fun h=>h.2.2 h5)) (fun h5=>?_)⟩)⟩)
 refine a_f fun id s2 hid _ he hs2=>?_
 rw[hov,if_pos ⟨h3,h4,h5⟩]
 exact g_0 ⟨At.fresh hs2 (by simp) rfl,he,a_dg hid,fun h=>h,by intro e;cases e⟩ (g_c _)
end
end
section
variable {σ:Store}
section
variable {c0 c1 c2 c3 c4:D} {c:Cf} (h:∀s,CfAt s c0 c1 c2 c3 c4 c)
include h
theorem a_l5 (r:Rt){d1 d2 d3:D}(hp:∀s,At prog s f_k d1 (r.Path.map St.enc)) :
   Pure prog i_7 [cfA c0 c1 c2 c3 c4 c,rtA d1 d2 d3 r] σ (.a (bA (c.path r))):=by
 have hl:=(hp σ).size
 rw[zB] at hl
 refine .of (a_al _ _ _ _ _ _ _ _ _ _ _ d1 d2 d3 _ σ _ ?_) (a_f8 _)
 refine (i_n (h σ) _).use (a_ww _ ((i_n (h σ) _).use (a_ww _ ?_)))
 intro R hR
 refine a_0 (fun h1=>?_) (fun h1=>?_)
 · cases hg:a_n c.Sigs r.Entry with
   | some x=>rw[hg] at h1;cases h1
   | none=>exact ⟨by rw[Cf.path,hg], .refl _⟩
 obtain ⟨a,hg⟩:=Option.isSome_iff_exists.1 h1
 have hpath:c.path r=((decide (r.Exit= -1) || (a_n c.Sigs r.Exit).isSome) && decide (1<=r.Path.length/\r.Path.length<=8) && t_3 c r (a_n c.Sigs r.Exit) r.Path a [a.Sec]):=by rw[Cf.path,hg]
 rw[hg,Option.getD_some] at hR
 generalize hex:a_n c.Sigs r.Exit=ex at hpath hR
 have hlen:decide ((1:Int)<=((r.Path.map St.enc).length:Int)/\((r.Path.map St.enc).length:Int)<=8) =decide (1<=r.Path.length/\r.Path.length<=8):=by
   rw[zB];congr 1;apply propext;omega
 have hgo:decide (1<=r.Path.length/\r.Path.length<=8) =true->(decide (r.Exit= -1) || ex.isSome) =true->R σ:=by
   intro hlen2 hexok
   rw[hlen2,hexok] at hpath
   simp only[Bool.true_and] at hpath
   refine hR σ (a_f fun id s1 hid _ he1 hs1=>(MapAt.new hs1).put h_j a.Sec fun s2 f2 hm2 hf2 hfx2 hs2 hne2=>?_)
   have he2:Ext σ s2:=fun i hi=>by
     rw[hs2 i (fun e=>hi (by rw[e];exact hid))];exact he1 i hi
   refine (hp s2).lenK ⟨fun m e n s=>∃seen f,MapAt prog a_e iA s id f/\(∀z,f z=if z ∈ seen then some (iA 1) else none)/\Ext σ s/\Rng r.Path (fun q=>t_3 c r ex q ⟨m,e⟩ seen=c.path r) n,fun _ _ n _=>r.Path.length - n.toNat,
     ⟨[a.Sec],f2,hm2,fun z=>?_,he2, .start hpath.symm⟩,?_⟩
   · by_cases hz:z=a.Sec
     · subst hz;rw[hfx2];simp
     · rw[hf2 z hz];simp[hz]
   rintro m e n s ⟨seen,f,hm,hf,hes,hr⟩
   refine bcd (fun hlt=>?_) (fun hge=>?_)
   · obtain ⟨j,x,rfl,hx,hj,hF,nx⟩:=hr.step (by simp) hl hlt
     intro R1 hR1
     refine (hp s).load (a_g hx) q_g rfl ⟨x.Sec,x.In,x.Out,rfl,(e_0 m e (h s).jts).use (j_a _ ((f_e (h s) _).use (a_eq _ ((a_mv _ _ _).use (a_sd _ ?_)))))⟩
     rw[t_3] at hF
     have bad:a_cd c r ex ⟨m,e⟩ x (r.Path.drop (j+1)).isEmpty seen=false->∀s',Ext σ s'->(RV.a (.one (.bool false)) = .a (bA (c.path r))/\Ext σ s'):=fun hb s' he'=>by
       rw[hb] at hF
       exact ⟨by rw[<-hF];rfl,he'⟩
     have good:a_cd c r ex ⟨m,e⟩ x (r.Path.drop (j+1)).isEmpty seen=true->∀s' f',MapAt prog a_e iA s' id f'->(∀z,f' z=if z ∈ x.Sec::seen then some (iA 1) else none)->Ext σ s'->R1 x.Sec x.Out s':=fun hb s' f' hm' hf' he'=>by
       rw[hb,Bool.true_and] at hF
       have hn:=nx (fun q=>t_3 c r ex q ⟨x.Sec,x.Out⟩ (x.Sec::seen) =c.path r) hF
       exact hR1 _ _ _ ⟨rfl,⟨x.Sec::seen,f',hm',hf',he',hn.1⟩,hn.2⟩
     have hst:a_cd c r ex ⟨m,e⟩ x (r.Path.drop (j+1)).isEmpty seen=match nxt c.Jts m e with
       | none=>false
       | some (q,i)=>decide (q=x.Sec) && decide (i=x.In) && (m_w (d_5 ((a_n c.Secs q).getD ⟨0,0,0⟩).Kind) x.In x.Out).isSome && decide (q ∉ seen) &&
         (!(c.Sigs.any fun y=>decide (⟨x.Sec,x.Out⟩ =y)) || ((r.Path.drop (j+1)).isEmpty && decide (ex=some ⟨x.Sec,x.Out⟩))) && !(r.Shunt && decide (((a_n c.Secs q).getD ⟨0,0,0⟩).Line≠0)):=rfl
     generalize nxt c.Jts m e=o at hst
     have key:(f (o.getD (0,0)).1).getD (iA 0) =iA (if (o.getD (0,0)).1 ∈ seen then 1 else 0):=by
       rw[hf];split <;> rfl
     refine hm.lookI h_j _ key (hm.put h_j _ fun s' f' hm' hf' hfx hs' hne=>?_)
     have hes':Ext σ s':=fun i hi=>by
       rw[hs' i (fun e=>hi (by rw[e];exact hid))];exact hes i hi
     refine (w_q ⟨x.Sec,x.Out⟩ (h s').sigs).use ⟨_,rfl,?_⟩
     intro R2 hR2
     have main:R2 ((r.Path.drop (j+1)).isEmpty && decide (ex=some ⟨x.Sec,x.Out⟩)) s':=by
       refine hR2 _ _ (a_0 (fun k1=>bad ?_ s' hes') (fun k1=>?_))
       · cases o with
         | none=>exact hst
         | some p=>cases k1
       obtain ⟨⟨q,i⟩,rfl⟩:=Option.isSome_iff_exists.1 k1
       simp only[Option.getD_some] at hst key hfx hf' ⊢
       refine bcn (fun k2=>bad (by rw[hst];simp[k2]) s' hes') (fun k2=>?_)
       refine bcn (fun k3=>bad (by rw[hst];simp[k3]) s' hes') (fun k3=>?_)
       refine a_0 (fun k4=>bad (by rw[hst,k4];simp) s' hes') (fun k4=>?_)
       refine hm'.lookI h_j q (by rw[hfx];rfl) (bcd (fun k5=>?_) (fun k5=>?_))
       · have hin : q ∈ seen := by
           by_cases hin:q ∈ seen
           · exact hin
           · rw[if_neg hin] at k5;exact absurd k5 (by decide)
         exact bad (by rw[hst];simp[hin]) s' hes'
       have hin:q ∉ seen:=fun hin=>k5 (by rw[if_pos hin];decide)
       have hfin:a_cd c r ex ⟨m,e⟩ x (r.Path.drop (j+1)).isEmpty seen=true->R1 x.Sec x.Out s':=fun hb=>good hb s' f' hm' (fun z=>by
         by_cases hz:z=q
         · subst hz;rw[hfx,if_neg hin,k2];simp;rfl
         · rw[hf' z hz,hf];simp[k2 ▸ hz]) hes'
       have hpre:(decide (q=x.Sec) && decide (i=x.In) && (m_w (d_5 ((a_n c.Secs q).getD ⟨0,0,0⟩).Kind) x.In x.Out).isSome && decide (q ∉ seen)) =true:=by
         rw[k4];simp[k2,k3];rw[<-k2];exact hin
       rw[hpre,Bool.true_and] at hst
       refine bc (fun k6=>a_0 (fun k7=>bad ?_ s' hes') (fun k7=>?_)) (fun k6=>?_)
       · rw[hst,k6,k7];rfl
       · rw[k6,k7] at hst
         refine bc (fun k8=>bcn (fun k9=>bad ?_ s' hes') (fun k9=>⟨trivial,hfin ?_⟩)) (fun k8=>⟨trivial,hfin ?_⟩)
         · rw[hst,k8];simp[k9]
         · rw[hst];simp[k9]
         · rw[hst,k8];rfl
       · rw[k6] at hst
         refine bc (fun k8=>bcn (fun k9=>bad ?_ s' hes') (fun k9=>⟨trivial,hfin ?_⟩)) (fun k8=>⟨trivial,hfin ?_⟩)
         · rw[hst,k8];simp[k9]
         · rw[hst];simp[k9]
         · rw[hst,k8];rfl
     refine (hp s').lenK ?_
     have hw:w64 (((r.Path.map St.enc).length:Int) - 1) =(r.Path.length:Int) - 1:=by rw[zB,a_r (by omega) (by omega)]
     rw[hw]
     refine bce (fun q1=>bc (fun q2=>⟨rfl,?_⟩) (fun q2=>⟨rfl,?_⟩)) (fun q1=>⟨rfl,?_⟩)
     · have hemp:(r.Path.drop (j+1)).isEmpty=true:=by rw[e_c (by omega)];rfl
       obtain ⟨y,rfl⟩:=Option.isSome_iff_exists.1 q2
       rw[hemp,Bool.true_and] at main
       have hd:decide (some y=some (⟨x.Sec,x.Out⟩ :Sg)) =(x.Sec == y.Sec && x.Out == y.End_):=by
         cases y with
         | mk y1 y2=>
           rw[Bool.eq_iff_iff];simp
           exact ⟨fun ⟨a,b⟩=>⟨a.symm,b.symm⟩,fun ⟨a,b⟩=>⟨a.symm,b.symm⟩⟩
       rw[hd] at main
       exact main
     · have hd:ex=none:=by cases ex;rfl;cases q2
       rw[hd] at main
       simpa using main
     · have hemp : (r.Path.drop (j + 1)).isEmpty = false := by
         cases hd:r.Path.drop (j+1) with
         | nil=>rw[List.drop_eq_nil_iff] at hd;omega
         | cons y l=>rfl
       rw[hemp,Bool.false_and] at main
       exact main
   · have hF:(match (generalizing:=false) ex with | some x=>decide ((⟨m,e⟩ :Sg) =x) | none=> !(nxt c.Jts m e).isSome) =c.path r:=hr.done (by simp) hge
     refine bc (fun q2=>?_) (fun q2=>?_)
     · obtain ⟨y,rfl⟩:=Option.isSome_iff_exists.1 q2
       refine ⟨?_,hes⟩
       rw[<-hF]
       cases y with
       | mk y1 y2=>
         congr 4;rw[Bool.eq_iff_iff];simp
     · have hd:ex=none:=by cases ex;rfl;cases q2
       subst hd
       refine (e_0 m e (h s).jts).use (j_a _ ⟨?_,hes⟩)
       rw[<-hF]
 refine a_0 (fun h2=>bcn (fun h3=>⟨?_, .refl _⟩) (fun h3=>(hp σ).lenK ((d_3 _ _ _).use ⟨_,rfl,a_0 (fun h4=>⟨?_, .refl _⟩) (fun h4=>⟨rfl,hgo ?_ ?_⟩)⟩))) (fun h2=>(hp σ).lenK ((d_3 _ _ _).use ⟨_,rfl,a_0 (fun h4=>⟨?_, .refl _⟩) (fun h4=>⟨rfl,hgo ?_ ?_⟩)⟩))
 · rw[hpath,h2];simp[h3]
 · rw[hlen] at h4;rw[hpath,h4];simp
 · rw[<-hlen];exact h4
 · simp[h3]
 · rw[hlen] at h4;rw[hpath,h4];simp
 · rw[<-hlen];exact h4
 · simp[h2]
theorem a_hj (r:Rt){d1 d2 d3:D}(hp:∀s,At prog s f_k d1 (r.Path.map St.enc))(hf:∀s,At prog s c_e d2 (r.Flank.map Nd.enc))(ho:∀s,At prog s a_e d3 (r.Overlap.map Go.Fw.encI)) :
   Pure prog h_z [cfA c0 c1 c2 c3 c4 c,rtA d1 d2 d3 r] σ (.a (iA (c.route r))):=by
 refine x_e _ _ _ _ _ _ _ _ _ _ _ d1 d2 d3 _ σ _ ((a_l5 h r hp).use ⟨_,rfl,a_0 (fun h1=>⟨by rw[Cf.route,if_pos h1],rfl⟩) (fun h1=>?_)⟩)
 have hpl:r.Path.length<=8:=by
   unfold Cf.path at h1
   split at h1
   · cases h1
   · simp at h1;exact h1.1.2.2
 refine (n_q (h σ) r d1 d2 d3).use ⟨_,rfl,(a_g6 h _ hp (by omega)).mono ?_⟩
 rintro r1 s1 ⟨rfl,d,rfl,hd⟩
 refine ⟨d,rfl,(a_g2 (hf _) (hd _)).use ⟨_,rfl,a_0 (fun h2=>⟨?_,rfl⟩) (fun h2=>(a_cy h r hp).mono ?_)⟩⟩
 · rw[Cf.route,if_neg (by rw[h1];simp),if_pos (of_decide_eq_false h2)]
 rintro r2 s2 ⟨rfl,d',rfl,hd'⟩
 have e2:=zM h2
 refine ⟨d',rfl,(a_ln (ho _) (hd' _)).use ⟨_,rfl,a_0 (fun h3=>⟨?_,rfl⟩) (fun h3=>⟨?_,rfl⟩)⟩⟩
 · rw[Cf.route,if_neg (by rw[h1];simp),if_neg (fun hn=>hn e2),if_pos (of_decide_eq_false h3)]
 · rw[Cf.route,if_neg (by rw[h1];simp),if_neg (fun hn=>hn e2),if_neg (fun hn=>hn (zM h3))]
theorem a_hl:Pure prog o_m [cfA c0 c1 c2 c3 c4 c] σ (.a (iA c.check)):=by
 refine a_lu _ _ _ _ _ _ _ _ _ σ _ ((a_hr (fun s=>(h s).secs) (fun s=>(h s).jts)).use ⟨_,rfl,?_⟩)
 have e6:(if c_s c.Secs c.Jts=true then (0:Int) else 6)≠0↔c_s c.Secs c.Jts=false:=by
   cases c_s c.Secs c.Jts <;> simp
 refine bcn (fun k1=>⟨by rw[Cf.check,if_pos (e6.1 k1)],rfl⟩) (fun k1=>(a_cp h).use ⟨_,rfl,a_0 (fun k2=>⟨?_,rfl⟩) (fun k2=>(x_f h).use ⟨_,rfl,a_0 (fun k3=>⟨?_,rfl⟩) (fun k3=>?_)⟩)⟩)
 all_goals have k1':¬c_s c.Secs c.Jts=false:=fun e=>e6.2 e k1
 · rw[Cf.check,if_neg k1',if_pos k2]
 · rw[Cf.check,if_neg k1',if_neg (by rw[k2];simp),if_pos k3]
 have hck:c.check=if c.Rts.length > 12 then 9 else if c.routes c.Rts≠0 then c.routes c.Rts else if c.timing=true then 0 else 12:=by
   rw[Cf.check,if_neg k1',if_neg (by rw[k2];simp),if_neg (by rw[k3];simp)]
 obtain ⟨rows,hat,hlen,hrow⟩:=a_nw fun s=>(h s).rts
 have hl:=(hat σ).size
 refine (hat σ).lenK (bcd (fun k4=>⟨by rw[hck,if_pos (by omega)],rfl⟩) (fun k4=>(hat σ).lenK ?_))
 rw[if_neg (by omega)] at hck
 refine ⟨fun n s=>s=σ/\Rng c.Rts (fun l=>c.routes l=c.routes c.Rts) n,fun n _=>c.Rts.length - n.toNat,⟨rfl, .start rfl⟩,?_⟩
 rintro n τ ⟨rfl,hr⟩
 refine bcd (fun hlt=>?_) (fun hge=>?_)
 · obtain ⟨j,x,rfl,hx,hj,hF,nx⟩:=hr.step hlen (by omega) hlt
   obtain ⟨row,hrw⟩:=a_c (l:=rows) (j:=j) (by omega)
   obtain ⟨d1,d2,d3,rfl,q1,q2,q3⟩:=hrow j row x hrw hx
   refine (hat τ).load hrw s_d rfl ⟨_,_,d1,d2,d3,_,rfl,(a_hj h x q1 q2 q3).use ⟨_,rfl,?_⟩⟩
   rw[Cf.routes] at hF
   refine bcn (fun k5=>⟨?_,rfl⟩) (fun k5=>?_)
   · rw[if_pos k5] at hF
     rw[hck,<-hF,if_pos k5]
   · rw[if_neg (by simp[k5])] at hF
     exact ⟨rfl,i_r rfl (nx _ hF)⟩
 · have hF:0=c.routes c.Rts:=hr.done hlen hge
   rw[<-hF,if_neg (by simp)] at hck
   have hpos:c.timing=(decide (1<=c.Age/\c.Age<=8) && decide (0<=c.Brake/\c.Brake<=8) && decide (c.Age+c.Brake+1<=c.Hold/\c.Hold<=40) && decide (1<=c.Budget/\c.Budget<=1000000)):=rfl
   refine (d_3 _ _ _).use ⟨_,rfl,a_0 (fun k5=>⟨?_,rfl⟩) (fun k5=>(d_3 _ _ _).use ⟨_,rfl,a_0 (fun k6=>⟨?_,rfl⟩) (fun k6=>(d_3 _ _ _).use ⟨_,rfl,?_⟩)⟩)⟩
   · rw[hck,hpos,k5];simp
   · rw[hck,hpos,k6];simp
   have a5:=zM k5
   have a6:=zM k6
   rw[a_r (n:=c.Age+c.Brake) (by omega) (by omega),a_r (n:=c.Age+c.Brake+1) (by omega) (by omega)]
   refine a_0 (fun k7=>⟨?_,rfl⟩) (fun k7=>(d_3 _ _ _).use ⟨_,rfl,a_0 (fun k8=>⟨?_,rfl⟩) (fun k8=>⟨?_,rfl⟩)⟩)
   · rw[hck,hpos,k7];simp
   · rw[hck,hpos,k8];simp
   · rw[hck,hpos,k5,k6,k7,k8];rfl
end
end
end Go.Proofs.YtaklhjodjbgmgaaGreat
namespace Go.Fw
section
variable {P:Program} {σ:Store}
theorem a_bi {n:Int}(h1:0<=n)(h2:n<=18446744073709551615) :IntKind.wrap .u64 n=n:=by
 simp only[IntKind.wrap,IntKind.signed,IntKind.bits];simp;omega
theorem a_eb {x:Int}(h1:0<=x)(h2:x < 2 ^ 32) :((BitVec.toNat ((BitVec.ofInt 64 x) &&& (BitVec.ofInt 64 4294967295)) :Nat) :Int) =x:=by
 rw[BitVec.toNat_and,BitVec.toNat_ofInt,BitVec.toNat_ofInt]
 have e1:(x % ((2 ^ 64:Nat) :Int)).toNat=x.toNat:=by
   rw[Int.emod_eq_of_lt h1 (by omega)]
 have e2:((4294967295:Int) % ((2 ^ 64:Nat) :Int)).toNat=2 ^ 32 - 1:=by decide
 rw[e1,e2,Nat.and_two_pow_sub_one_eq_mod,Nat.mod_eq_of_lt (by omega)]
 omega
theorem o_q {x:Int}(h1:0<=x)(h2:x < 2 ^ 32) :Int.fdiv x (2 ^ 32) =0:=by
 rw[Int.fdiv_eq_ediv_of_nonneg _ (by omega)];omega
theorem set_set (i:Nat)(a b:SO) :(σ.set i a).set i b=σ.set i b:=by
 funext j
 by_cases h:j=i
 · subst h;rw[Store.set_same,Store.set_same]
 · rw[Store.set_ne _ _ h,Store.set_ne _ _ h,Store.set_ne _ _ h]
def a_k7 (t:TypeId)(n:Nat)(row:List D)(s:Store)(r:RV)(s':Store) :Prop:=
 ∃id,s id= .free/\r= .a (.one (.osl id 0 n))/\s'=s.set id (.live t (List.replicate n row))
theorem a_vq {row z:List D}{m k n:Nat}(h1:k<=m)(h2:m+k<=n) :
   (List.replicate m row ++ List.replicate (n - m) z).take m ++ (List.replicate m row).take k ++ (List.replicate m row ++ List.replicate (n - m) z).drop (m+k) =List.replicate (m+k) row ++ List.replicate (n - (m+k)) z:=by
 rw[List.take_left' (by simp),List.take_replicate,Nat.min_eq_left h1,List.replicate_append_replicate,List.drop_append,List.drop_eq_nil_iff.2 (by simp),List.nil_append,List.drop_replicate]
 congr 2;simp;omega
theorem a_vu {f:FuncId}{t:TypeId}{es bytes:Nat}{z row:List D}{x:D}{n:Nat}{Q:RV->Store->Prop}
   (hmul:∀s (a b:Int),0<=a->0<=b->a * b < 2 ^ 32->a < 2 ^ 32->b < 2 ^ 32->Pure P f [.one (.int .u64 a), .one (.int .u64 b)] s (.tup [.one (.int .u64 0), .one (.int .u64 (a * b))]))
   (hes:P.cellsOf t=es) (hx:At P σ t x [row]) (hn:n<=2 ^ 20) (hb:bytes<=2 ^ 20) (hQ:∀r s,a_k7 t n row σ r s->Q r s) :
   ∀R:Store->Prop,(∀σ':Store,(∃len:Nat,(Len x len)/\DCalls P f [.one (.int .u64 (IntKind.wrap .u64 (len:Int))), .one (.int .u64 (IntKind.wrap .u64 (n:Int)))] σ' (fun (r:RV)=>fun (σ'1:Store)=>∃n:Int,∃n1:Int,(r=(.tup [.one (.int .u64 n), .one (.int .u64 n1)]:RV))/\∀R1:Store->Prop,(∀σ'2:Store,(((0:Int)<=(w64 n1))/\((w64 n1)<=(w64 n1))/\(((bytes:Int) * (w64 n1))<=(2 ^ 48))/\Fw.newObj σ'2 (.live t (List.replicate (Int.toNat (w64 n1)) z)) (fun (id:Nat)=>fun (σ'3:Store)=>r_x P σ'3 t (.osl id 0 (Int.toNat (w64 n1))) x (fun (n2:Int)=>fun (σ'4:Store)=>∃I:Int->Store->Prop,∃μ:Int->Store->Nat,(I n2 σ'4)/\∀n3:Int,∀σ'5:Store,(I n3 σ'5)->∃len1:Nat,(Len (.osl id 0 (Int.toNat (w64 n1))) len1)/\a_b (decide (n3 < (len1:Int))) (∃len2:Nat,(IdxN P σ'5 (.osl id 0 (Int.toNat (w64 n1))) es len2)/\((0:Int)<=n3)/\(n3<=(len2:Int))/\∃len3:Nat,(IdxN P σ'5 (.osl id 0 (Int.toNat (w64 n1))) es len3)/\((0:Int)<=0)/\((0:Int)<=n3)/\(n3<=(len3:Int))/\r_x P σ'5 t (.osl id (0+ (Int.toNat n3)) (len2 - (Int.toNat n3))) (.osl id 0 ((Int.toNat n3) - 0)) (fun (n4:Int)=>fun (σ'6:Store)=>(I (w64 (n3+n4)) σ'6)/\((μ (w64 (n3+n4)) σ'6) < (μ n3 σ'5)))) (Q (.a (.one (.osl id 0 (Int.toNat (w64 n1))))) σ'5))))->R1 σ'2)->a_b (decide (n > 0)) False (a_b (decide (n1 > 9223372036854775807)) False (R1 σ'1))))->R σ')->a_b (decide ((n:Int) < 0)) False (R σ):=by
 intro R hR
 refine bcd (fun h=>absurd h (by omega)) (fun _=>hR σ (hx.lenK ?_))
 rw[a_bi (by simp) (by simp),a_bi (by omega) (by omega)]
 have hw:w64 (((1:Nat) :Int) * n) =n:=by rw[a_r (by omega) (by omega)];omega
 refine (hmul σ _ _ (by simp) (by omega) (by simp;omega) (by simp) (by omega)).use ⟨0,_,rfl,fun R1 hR1=>bcd (fun h=>absurd h (by decide)) (fun _=>bcd (fun h=>absurd h (by simp;omega)) (fun _=>hR1 σ ?_))⟩
 show 0<=w64 (((1:Nat) :Int) * n)/\_
 simp only[List.length_singleton,hw,zF]
 refine ⟨by omega,Int.le_refl _,?_,fun id hid=>?_⟩
 · have:bytes * n<=2 ^ 20 * 2 ^ 20:=Nat.mul_le_mul hb hn
   have h2:((bytes * n:Nat) :Int)<=2 ^ 48:=by omega
   rw[Int.natCast_mul] at h2;exact h2
 have hidx:∀(s:Store) (rows:List (List D)),s id= .live t rows->rows.length=n->IdxN P s (.osl id 0 n) es n:=fun s rows h1 h2=> .inl ⟨by omega,t,rows,h1,hes⟩
 have hxr:Rows P (σ.set id (.live t (List.replicate n z))) t x [row]:=(hx.ext (Ext.new hid _)).rows
 have hdr:∀(s:Store) (rows:List (List D)) (i len:Nat),s id= .live t rows->i+len<=rows.length->Rows P s t (.osl id i len) ((rows.drop i).take len):=fun s rows i len h1 h2=>⟨t,rows,h1,rfl,h2,rfl⟩
 refine ⟨_,_,hdr _ _ 0 n (Store.set_same _ _ _) (by simp),hxr,?_⟩
 have hmin:min [row].length ((List.replicate n z).drop 0 |>.take n).length=min 1 n:=by simp
 have hminI:min (([row].length:Nat) :Int) ((((List.replicate n z).drop 0 |>.take n).length:Nat) :Int) =((min 1 n:Nat) :Int):=by rw[<-hmin];omega
 rw[hmin,hminI]
 have hloop:∀(m:Nat) (s:Store),m<=n->(0 < n->0 < m)->s=σ.set id (.live t (List.replicate m row ++ List.replicate (n - m) z))->∃I:Int->Store->Prop,∃μ:Int->Store->Nat,(I m s)/\∀n3:Int,∀σ'5:Store,(I n3 σ'5)->∃len1:Nat,(Len (.osl id 0 n) len1)/\a_b (decide (n3 < (len1:Int))) (∃len2:Nat,(IdxN P σ'5 (.osl id 0 n) es len2)/\((0:Int)<=n3)/\(n3<=(len2:Int))/\∃len3:Nat,(IdxN P σ'5 (.osl id 0 n) es len3)/\((0:Int)<=0)/\((0:Int)<=n3)/\(n3<=(len3:Int))/\r_x P σ'5 t (.osl id (0+ (Int.toNat n3)) (len2 - (Int.toNat n3))) (.osl id 0 ((Int.toNat n3) - 0)) (fun (n4:Int)=>fun (σ'6:Store)=>(I (w64 (n3+n4)) σ'6)/\((μ (w64 (n3+n4)) σ'6) < (μ n3 σ'5)))) (Q (.a (.one (.osl id 0 n))) σ'5):=by
   intro m0 s0 hm0 hm0' hs0
   refine ⟨fun n3 s=>∃m:Nat,n3=m/\m<=n/\(0 < n->0 < m)/\s=σ.set id (.live t (List.replicate m row ++ List.replicate (n - m) z)),fun n3 _=>n - n3.toNat,⟨m0,rfl,hm0,hm0',hs0⟩,?_⟩
   rintro _ s ⟨m,rfl,hm,hm',rfl⟩
   refine ⟨n,rfl,bcd (fun hlt=>?_) (fun hge=>?_)⟩
   · have hl:(List.replicate m row ++ List.replicate (n - m) z).length=n:=by simp;omega
     refine ⟨n,hidx _ _ (Store.set_same _ _ _) hl,by omega,by omega,n,hidx _ _ (Store.set_same _ _ _) hl,by omega,by omega,by omega,?_⟩
     rw[zF,Nat.zero_add,Nat.sub_zero]
     refine ⟨_,_,hdr _ _ m (n - m) (Store.set_same _ _ _) (by rw[hl];omega),hdr _ _ 0 m (Store.set_same _ _ _) (by rw[hl];omega), .inr ⟨id,m,n - m,t,_,rfl,Store.set_same _ _ _,?_⟩⟩
     have e1:((List.replicate m row ++ List.replicate (n - m) z).drop 0).take m=List.replicate m row:=by
       rw[List.drop_zero,List.take_left' (by simp)]
     have e2:min (((List.replicate m row ++ List.replicate (n - m) z).drop 0).take m).length (((List.replicate m row ++ List.replicate (n - m) z).drop m).take (n - m)).length=min m (n - m):=by
       rw[e1,zR,List.length_drop,hl];simp
     have e3:min (((((List.replicate m row ++ List.replicate (n - m) z).drop 0).take m).length:Nat) :Int) (((((List.replicate m row ++ List.replicate (n - m) z).drop m).take (n - m)).length:Nat) :Int) =((min m (n - m) :Nat) :Int):=by
       rw[<-e2];omega
     rw[e3,e2,e1,a_vq (by omega) (by omega),set_set]
     have hk:0 < min m (n - m):=by have:=hm' (by omega);omega
     have hw2:w64 ((m:Int) + ((min m (n - m) :Nat) :Int)) =((m+min m (n - m) :Nat) :Int):=by rw[a_r (by omega) (by omega)];omega
     show (∃m':Nat,w64 ((m:Int) + ((min m (n - m) :Nat) :Int)) =m'/\_)/\_
     rw[hw2]
     refine ⟨⟨m+min m (n - m),rfl,by omega,fun _=>by omega,rfl⟩,?_⟩
     show n - ((m+min m (n - m) :Nat) :Int).toNat < n - ((m:Nat) :Int).toNat
     omega
   · have e:m=n:=by omega
     subst e
     refine hQ _ _ ⟨id,hid,rfl,?_⟩
     rw[Nat.sub_self,List.replicate_zero,zS]
 by_cases h0:n=0
 · subst h0
   exact .inl ⟨rfl,hloop 0 _ (by omega) (by omega) rfl⟩
 · refine .inr ⟨id,0,n,t,_,rfl,Store.set_same _ _ _,?_⟩
   have e1:min 1 n=1:=by omega
   rw[e1,set_set]
   refine hloop 1 _ (by omega) (by omega) ?_
   congr 2
   rw[List.drop_replicate];simp
end
end Go.Fw
namespace Go.Proofs.YtaklhjodjbgmgaaGreat
open Go.Fw Go.Proofs Go.RowKit
open Go.Proofs.Tryz (prog)
section
variable {σ:Store}
theorem a_wm (x y:Int)(hx0:0<=x)(hy0:0<=y)(hxy:x * y < 2 ^ 32)(hx:x < 2 ^ 32)(hy:y < 2 ^ 32) :Pure prog i_i [.one (.int .u64 x), .one (.int .u64 y)] σ (.tup [.one (.int .u64 0), .one (.int .u64 (x * y))]):=by
 have h0:0<=x * y:=Int.mul_nonneg hx0 hy0
 refine x_j x y σ _ ?_
 unfold l_7
 have z0:IntKind.wrap .u64 0=0:=a_bi (by omega) (by omega)
 have m0:=a_eb (x:=0) (by omega) (by omega)
 have f0:=o_q (x:=0) (by omega) (by omega)
 rw[a_eb hx0 hx,a_eb hy0 hy,o_q hx0 hx,o_q hy0 hy,a_bi (n:=x) hx0 (by omega),a_bi (n:=y) hy0 (by omega),a_bi (n:=x * y) h0 (by omega),o_q h0 hxy]
 simp only[Int.zero_mul,Int.mul_zero,Int.add_zero,Int.zero_add,z0,m0,f0]
 exact ⟨trivial,trivial⟩
theorem a_wd (s:Store)(x y:Int)(hx0:0<=x)(hy0:0<=y)(hxy:x * y < 2 ^ 32)(hx:x < 2 ^ 32)(hy:y < 2 ^ 32) :Pure prog g_1 [.one (.int .u64 x), .one (.int .u64 y)] s (.tup [.one (.int .u64 0), .one (.int .u64 (x * y))]):=
 a_dc x y s _ ((a_wm x y hx0 hy0 hxy hx hy).use ⟨_,_,rfl,rfl,rfl⟩)
end
end Go.Proofs.YtaklhjodjbgmgaaGreat
namespace Go.Fw
section
structure Rs where
 State:Int
 Since:Int
 Next:Int
 Mark:Int
 deriving DecidableEq
structure Mv where
 Cmd:Int
 Other:Int
 deriving DecidableEq
structure Ls where
 Ask:Int
 Done:Int
 Grant:Int
 Told:Int
 PAsk:Int
 PDone:Int
 PGrant:Int
 Since:Int
 deriving DecidableEq
structure Co where
 Own:List Int
 Routes:List Rs
 Points:List Mv
 Xs:List Mv
 Lines:List Ls
 Resets:List Int
 Dirty:Bool
 deriving DecidableEq
def Rs.enc (r:Rs) :List D:= [iD r.State,iD r.Since,iD r.Next,iD r.Mark]
def Mv.enc (r:Mv) :List D:= [iD r.Cmd,iD r.Other]
def Ls.enc (r:Ls) :List D:= [iD r.Ask,iD r.Done,iD r.Grant,iD r.Told,iD r.PAsk,iD r.PDone,iD r.PGrant,iD r.Since]
def tm (b n:Int) :Bool:=decide (0<=n/\n<=4294967295+b)
def Rs.fits (p:Rs × Rt) :Bool:=decide (0<=p.1.State/\p.1.State<=5) && decide (0<=p.1.Next/\p.1.Next<=p.2.Path.length) && (tm 0 p.1.Since && tm 0 p.1.Mark)
def Mv.fits (m:Mv) :Bool:=decide (0<=m.Cmd/\m.Cmd<=2) && decide (-1<=m.Other/\m.Other<=4294967295)
def Ls.fits (l:Ls) :Bool:=(tm 0 l.Ask && (tm 0 l.Done && (tm 0 l.Grant && (tm 0 l.Told && (tm 0 l.PAsk && (tm 0 l.PDone && tm 0 l.PGrant)))))) && tm 1 l.Since
def Co.lens (c:Cf)(k:Co) :Bool:=decide (k.Own.length=c.Secs.length/\k.Points.length=c.Secs.length/\k.Resets.length=c.Secs.length/\k.Routes.length=c.Rts.length/\k.Xs.length=c.Xs.length/\k.Lines.length=4)
def Co.parts (c:Cf)(k:Co) :Bool:=
 (k.Own.all fun o=>decide (-2<=o/\o<=c.Rts.length)) && ((k.Routes.zip c.Rts).all Rs.fits && ((k.Points ++ k.Xs).all Mv.fits && (k.Lines.all Ls.fits && k.Resets.all (tm 1))))
def Co.fits (c:Cf)(k:Co) :Bool:=decide (c.check=0) && (k.lens c && k.parts c)
end
end Go.Fw
namespace Go.Proofs.YtaklhjodjbgmgaaGreat
open Go.Fw Go.Proofs Go.RowKit
open Go.Proofs.Tryz (prog)
section
variable {σ:Store}
theorem x_w {t:TypeId}{bytes:Nat}{d:D}{rows:List (List D)}{Q:RV->Store->Prop}(h:At prog σ t d rows)(hz:d≠ .zsl)(hb:bytes * rows.length<=140737488355328)
   (hQ:∀d' s,Own prog σ s t d' rows->Q (.a (.one d')) s) :
   ∃b:Bool,(h_s .sl d b)/\a_b (b != false) (Q (.a (.one .nils)) σ) (Fw.newObj σ (.live t []) (fun (id:Nat)=>fun (σ':Store)=>a_j prog σ' t bytes (.osl id 0 0) d (fun (d:D)=>fun (σ'1:Store)=>Q (.a (.one d)) σ'1))):=by
 have new:∀b:Bool,b=false->a_b (b != false) (Q (.a (.one .nils)) σ) (Fw.newObj σ (.live t []) (fun (id:Nat)=>fun (σ':Store)=>a_j prog σ' t bytes (.osl id 0 0) d (fun (d:D)=>fun (σ'1:Store)=>Q (.a (.one d)) σ'1))):=by
   rintro b rfl
   rw[show (false != false) =false from by decide]
   refine (a_f (K:=fun id σ'=>a_j prog σ' t bytes (.osl id 0 0) d fun d σ'1=>Q (.a (.one d)) σ'1) ?_:Fw.newObj σ (.live t []) _)
   refine fun id s hid _ he hs=>?_
   have ho:Own prog σ s t (.osl id 0 0) []:=⟨At.fresh hs (by simp) rfl,he,a_dg hid,fun h=>h,by intro e;cases e⟩
   exact ho.append (h.ext he) (by simpa using hb) (by have:=h.size;simpa using this) fun d' s' ho' _ _=>hQ _ _ (by simpa using ho')
 have hr:=h.rows
 cases d <;> simp only[Go.Fw.Rows] at hr <;> try exact hr.elim
 · subst hr;exact ⟨true,rfl,hQ _ _ (.nil _ (.refl _))⟩
 · exact absurd rfl hz
 · exact ⟨false,rfl,new _ rfl⟩
 · exact ⟨false,rfl,new _ rfl⟩
theorem x_h {d:D}{rows:List (List D)}(h:At prog σ a_e d rows)(hz:d≠ .zsl)(hb:8 * rows.length<=140737488355328) :DCalls prog b_l [.one d] σ fun r s=>∃d',r= .a (.one d')/\Own prog σ s a_e d' rows:=
 l_h d σ _ (x_w (Q:=fun r s=>∃d',r= .a (.one d')/\Own prog σ s _ d' rows) h hz hb fun d' s ho=>⟨d',rfl,ho⟩)
end
end Go.Proofs.YtaklhjodjbgmgaaGreat
namespace Go.Fw
section
variable {P:Program} {σ:Store}
theorem Fin.set' {s:Store}(h:Fin s)(id:Nat)(so:SO) :Fin (s.set id so):=by
 obtain ⟨N,hN⟩:=h
 refine ⟨max N (id+1),fun i hi=>?_⟩
 rw[Store.set_ne _ _ (by omega)];exact hN i (by omega)
def h_c:D->Option Nat
 | .osl id _ _=>some id
 | _=>none
def Apart (a b:D) :Prop:=∀id,h_c a=some id->h_c b≠some id
theorem Apart.symm {a b:D}(h:Apart a b) :Apart b a:=fun id h1 h2=>h id h2 h1
theorem Own.at_new {σ0:Store}{el:TypeId}{id n:Nat}{rs:List (List D)}(hid:σ0 id= .free)(he:Ext σ0 σ)(h:σ id= .live el rs)(hsz:rs.length < 2 ^ 60)(hn:n=rs.length) :Own P σ0 σ el (.osl id 0 n) rs:=
 ⟨At.fresh h hsz hn,he,a_dg hid,fun h=>h,by intro e;cases e⟩
theorem Own.from {σ0 σ1:Store}{el:TypeId}{d:D}{rs:List (List D)}(he:Ext σ0 σ1)(h:Own P σ1 σ el d rs) :Own P σ0 σ el d rs:=
 ⟨h.at_,he.trans h.ext,fun id i len e=>by
   have h1:=h.new id i len e
   by_cases hf:σ0 id= .free
   · exact hf
   · have:=he id hf;rw[h1] at this;exact this.symm,h.nsl,h.nz⟩
end
section
variable {P:Program} {σ:Store}
theorem b_h {s:Store}{id:Nat}{t:TypeId}{row xs:List D}{off:Nat}{K:Store->Prop}(hs:s id= .live t [row])(ho:off+xs.length<=row.length)
   (hK:∀s',s' id= .live t [patch row off xs]->(∀i,i≠id->s' i=s i)->K s') :a_k xs s (.osl id 0 1) 0 off K:=
 ⟨id,0,1,t,[row],row,rfl,by omega,hs,rfl,ho,hK _ (Store.set_same _ _ _) fun i hi=>Store.set_ne _ _ hi⟩
def Cf.lineSec (c:Cf)(line:Int) :Int:=if line < 1 then -1 else d_h (fun s:Sec=>s.Line == line) c.Secs 0
theorem w_i {α:Type}(p:α->Bool) :∀(l:List α) (j:Nat),d_h p l j= -1\/((j:Int)<=d_h p l j/\d_h p l j < j+l.length)
 | [],j=> .inl rfl
 | x::r,j=>by
   rw[d_h]
   split
   · right;simp;omega
   · rcases w_i p r (j+1) with h | h
     · exact .inl h
     · right;simp only[List.length_cons];omega
structure Lk where
 Value:Int
 Stamp:Int
 Valid:Bool
def Lk.enc (l:Lk) :List D:= [iD l.Value,iD l.Stamp, .bool l.Valid]
end
section
structure Vw where
 Occ:List Lk
 Pos:List Lk
 Shut:List Lk
 Lamp:List Lk
def Vw.fits (c:Cf)(v:Vw) :Bool:=decide (v.Occ.length=c.Secs.length/\v.Pos.length=c.Secs.length/\v.Shut.length=c.Xs.length/\v.Lamp.length=c.Sigs.length)
end
end Go.Fw
section
namespace Go.Fw
variable {P:Program}
inductive Cs
 | int (k:IntKind)
 | bool
 | str
 | sl (e:TypeId)
def q_l (g:TypeId->Option (List Cs)) :List Field->Option (List Cs)
 | []=>some []
 | f::fs=>match g f.type,q_l g fs with
   | some a,some b=>some (a ++ b)
   | _,_=>none
def j_9 (P:Program) :Nat->TypeId->Option (List Cs)
 | 0,_=>none
 | m+1,t=>match P.underlying t with
   | some .bool=>some [.bool]
   | some (.int k)=>some [.int k]
   | some .string=>some [.str]
   | some (.slice e)=>some [.sl e]
   | some (.struct fs)=>q_l (j_9 P m) fs.toList
   | some (.array k e)=>(j_9 P m e).map fun l=>(List.replicate k l).flatten
   | _=>none
def CsOk (P:Program) :Cs->D->Prop
 | .int k,d=>∃m,d= .int k m/\(Lit.int k m).wf=true
 | .bool,d=>∃b,d= .bool b
 | .str,d=>∃s,d= .str s/\s.size<=140737488351232
 | .sl e,d=>d= .nils\/∃rows,d= .sl (P.cellsOf e) rows/\rows.length * P.bytesOf e<=140737488351232/\∀row ∈ rows,∃n,tyD P n e row
def CsL (P:Program) :List Cs->List D->Prop
 | [],ds=>ds=[]
 | s::ss,ds=>∃d r,ds=d::r/\CsOk P s d/\CsL P ss r
theorem CsL.append {a b:List Cs}{x y:List D}(h1:CsL P a x)(h2:CsL P b y) :CsL P (a ++ b) (x ++ y):=by
 induction a generalizing x with
 | nil=>simp only[CsL] at h1;subst h1;exact h2
 | cons s a ih=>
   obtain ⟨d,r,rfl,q1,q2⟩:=h1
   exact ⟨d,r ++ y,rfl,q1,ih q2⟩
theorem a_jr {g:TypeId->Option (List Cs)}{ty:TypeId->List D->Prop}(ih:∀t ds shs,ty t ds->g t=some shs->CsL P shs ds) :∀(fs:List Field) (ds:List D) (shs:List Cs),tyF P ty fs ds->q_l g fs=some shs->CsL P shs ds
 | [],ds,shs,h1,h2=>by
   simp only[tyF] at h1;simp only[q_l] at h2
   cases h2;subst h1;rfl
 | f::fs,ds,shs,h1,h2=>by
   obtain ⟨a,b,rfl,_,q1,q2⟩:=h1
   rw[q_l] at h2
   split at h2
   · rename_i x y e1 e2
     cases h2
     exact (ih _ _ _ q1 e1).append (a_jr ih fs b y q2 e2)
   · cases h2
theorem a_uq {ty:TypeId->List D->Prop}{e:TypeId}{l:List Cs}(ih:∀ds,ty e ds->CsL P l ds) :∀(k:Nat) (ds:List D),tyR P ty e k ds->CsL P (List.replicate k l).flatten ds
 | 0,ds,h=>by simp only[tyR] at h;subst h;rfl
 | k+1,ds,h=>by
   obtain ⟨a,b,rfl,_,q1,q2⟩:=h
   rw[List.replicate_succ,List.flatten_cons]
   exact (ih a q1).append (a_uq ih k b q2)
theorem r_w:∀(n m:Nat) (t:TypeId) (ds:List D) (shs:List Cs),tyD P n t ds->j_9 P m t=some shs->CsL P shs ds
 | 0,_,_,_,_,h,_=>h.elim
 | _+1,0,_,_,_,_,h=>by cases h
 | n+1,m+1,t,ds,shs,h1,h2=>by
   unfold tyD at h1
   unfold j_9 at h2
   split at h1
   · rename_i hu
     rw[hu] at h2;cases h2
     obtain ⟨b,rfl⟩:=h1
     exact ⟨_,_,rfl,⟨b,rfl⟩,rfl⟩
   · rename_i k hu
     rw[hu] at h2;cases h2
     obtain ⟨b,rfl,hw⟩:=h1
     exact ⟨_,_,rfl,⟨b,rfl,hw⟩,rfl⟩
   · rename_i hu
     rw[hu] at h2;cases h2
     obtain ⟨b,rfl,hw⟩:=h1
     exact ⟨_,_,rfl,⟨b,rfl,hw⟩,rfl⟩
   · rename_i e hu
     rw[hu] at h2;cases h2
     rcases h1 with rfl | ⟨rows,rfl,q1,q2⟩
     · exact ⟨_,_,rfl, .inl rfl,rfl⟩
     · exact ⟨_,_,rfl, .inr ⟨rows,rfl,q1,fun row hr=>⟨n,q2 row hr⟩⟩,rfl⟩
   · rename_i fs hu
     rw[hu] at h2
     exact a_jr (fun t ds shs a b=>r_w n m t ds shs a b) fs.toList ds shs h1 h2
   · rename_i k e hu
     rw[hu] at h2
     simp only[Option.map_eq_some_iff] at h2
     obtain ⟨l,e1,rfl⟩:=h2
     exact a_uq (fun ds a=>r_w n m e ds l a e1) k ds h1
   · exact h1.elim
def I64 (n:Int) :Prop:= -9223372036854775808<=n/\n<=9223372036854775807
theorem g_i {n:Int}(h:(Lit.int .i64 n).wf=true) :I64 n:=by
 simp only[Lit.wf,IntKind.min,IntKind.max,IntKind.signed,IntKind.bits,zO,decide_eq_true_eq,if_true] at h
 unfold I64
 omega
theorem a_u6 {α:Type}{e:TypeId}{d:D}{bytes:Nat}(R:List D->α->Prop)(hf:∀row n,tyD P n e row->∃a,R row a)(hb:P.bytesOf e=bytes)(hb0:0 < bytes)(h:CsOk P (.sl e) d) :
   ∃(rows:List (List D)) (l:List α),(∀s,At P s e d rows)/\rows.length=l.length/\(∀(i:Nat) row a,rows[i]? =some row->l[i]? =some a->R row a)/\d≠ .zsl/\bytes * l.length<=140737488351232:=by
 rcases h with rfl | ⟨rows,rfl,q1,q2⟩
 · exact ⟨[],[],fun s=> .nil,rfl,fun i row a h=>by simp at h,(by intro e;cases e),by simp⟩
 · have key : ∀ rows : List (List D), (∀ row ∈ rows, ∃ n, tyD P n e row) -> ∃ l : List α, rows.length = l.length /\ ∀ (i : Nat) row a, rows[i]? = some row -> l[i]? = some a -> R row a := by
     intro rows
     induction rows with
     | nil=>intro _;exact ⟨[],rfl,fun i row a h=>by simp at h⟩
     | cons r rs ih=>
       intro hr
       obtain ⟨l,e1,e2⟩:=ih fun row h=>hr row (by simp[h])
       obtain ⟨n,hn⟩:=hr r (by simp)
       obtain ⟨a,ha⟩:=hf r n hn
       refine ⟨a::l,by simp[e1],fun i row b h1 h2=>?_⟩
       cases i with
       | zero=>simp at h1 h2;subst h1 h2;exact ha
       | succ i=>exact e2 i row b (by simpa using h1) (by simpa using h2)
   obtain ⟨l,hl,hR⟩:=key rows q2
   rw[hb,hl] at q1
   have q3:bytes * l.length<=140737488351232:=by rw[Nat.mul_comm];exact q1
   have h1:1 * l.length<=bytes * l.length:=Nat.mul_le_mul_right _ hb0
   refine ⟨rows,l,fun s=>⟨⟨rfl, .inr rfl⟩,by omega,fun es rows e=>?_⟩,hl,hR,(by intro e;cases e),q3⟩
   injection e with e1 e2
   exact e1.symm
theorem k_h {α:Type}{e:TypeId}{d:D}{bytes:Nat}(f:α->List D)(Q:α->Prop)(hf:∀row n,tyD P n e row->∃a,row=f a/\Q a)(hb:P.bytesOf e=bytes)(hb0:0 < bytes)(h:CsOk P (.sl e) d) :
   ∃l:List α,(∀s,At P s e d (l.map f))/\(∀a ∈ l,Q a)/\d≠ .zsl/\bytes * l.length<=140737488351232:=by
 rcases h with rfl | ⟨rows,rfl,q1,q2⟩
 · exact ⟨[],fun s=> .nil,fun a ha=>by simp at ha,(by intro e;cases e),by simp⟩
 · have key : ∀ rows : List (List D), (∀ row ∈ rows, ∃ n, tyD P n e row) -> ∃ l : List α, l.map f = rows /\ ∀ a ∈ l, Q a := by
     intro rows
     induction rows with
     | nil=>intro _;exact ⟨[],rfl,fun a ha=>by simp at ha⟩
     | cons r rs ih=>
       intro hr
       obtain ⟨l,e1,e2⟩:=ih fun row h=>hr row (by simp[h])
       obtain ⟨n,hn⟩:=hr r (by simp)
       obtain ⟨a,rfl,ha⟩:=hf r n hn
       refine ⟨a::l,by simp[e1],fun b hb=>?_⟩
       simp only[List.mem_cons] at hb
       rcases hb with rfl | hb
       · exact ha
       · exact e2 b hb
   obtain ⟨l,rfl,hl⟩:=key rows q2
   rw[hb,zB] at q1
   have q3:bytes * l.length<=140737488351232:=by rw[Nat.mul_comm];exact q1
   have h1:1 * l.length<=bytes * l.length:=Nat.mul_le_mul_right _ hb0
   refine ⟨l,fun s=>⟨⟨rfl, .inr rfl⟩,by rw[zB];omega,fun es rows e=>?_⟩,hl,(by intro e;cases e),q3⟩
   injection e with e1 e2
   exact e1.symm
theorem a_x1 {t:TypeId}{x:A}(h:TyA P t x)(hg:b_2 P t=some false) :∃d n,x= .one d/\tyD P n t [d]:=by
 cases x with
 | one d=>exact ⟨d,30,rfl,h.2⟩
 | agg cs=>have:=h.1;rw[hg] at this;cases this
theorem a_yg {t:TypeId}{x:A}(h:TyA P t x)(hg:b_2 P t=some true) :∃cs n,x= .agg cs/\tyD P n t cs:=by
 cases x with
 | one d=>have:=h.1;rw[hg] at this;cases this
 | agg cs=>exact ⟨cs,30,rfl,h.2⟩
theorem a_oh {t:TypeId}{ts:List TypeId}{as0:List A}(h:TyAs P (t::ts) as0) :∃a r,as0=a::r/\TyA P t a/\TyAs P ts r:=h
theorem a_xi {as0:List A}(h:TyAs P [] as0) :as0=[]:=h
def a_wz:Cs->Value
 | .int k=> .int k 0
 | .bool=> .bool false
 | .str=> .string .empty
 | .sl _=> .slice none 0 0
def zeroArg (P:Program)(t:TypeId) :Value:=match b_2 P t,j_9 P 9 t with
 | some true,some l=> .agg (l.map a_wz).toArray
 | _,some [c]=>a_wz c
 | _,_=> .int .i64 0
end Go.Fw
namespace Go.Fw
theorem law_fn2 {H:Type}{s:List (DataW H)->Left H}{ds:List (DataW H)}(h:ds.length=2)(hs:∀a b,s [a,b]= { results:= [.lit (.bool true)],args:= [a,b] } :=by intros;rfl) :s ds= { results:= [.lit (.bool true)],args:=ds } :=by
 match ds,h with
 | [a,b],_=>exact hs a b
end Go.Fw
namespace Go.Fw
def EqR {α:Type}(la lb:List α)(n:Int) :Prop:=∃j:Nat,n=j/\j<=la.length/\la.take j=lb.take j
theorem EqR.start {α:Type}(la lb:List α) :EqR la lb 0:=⟨0,rfl,by omega,by simp⟩
theorem EqR.step {α:Type}{la lb:List α}{n:Int}{m:Nat}(h:EqR la lb n)(hl:la.length=lb.length)(hm:m=la.length)(hs:la.length < 2 ^ 60)(hlt:n < (m:Int)) :
   ∃(j:Nat) (x y:α),n=j/\la[j]? =some x/\lb[j]? =some y/\(x≠y->la≠lb)/\(x=y->EqR la lb (w64 (n+1))/\la.length - (w64 (n+1)).toNat < la.length - n.toNat):=by
 obtain ⟨j,rfl,hj,hF⟩:=h
 have hj':j < la.length:=by omega
 obtain ⟨x,hx⟩:=a_c hj'
 obtain ⟨y,hy⟩:=a_c (l:=lb) (j:=j) (by omega)
 refine ⟨j,x,y,rfl,hx,hy,fun hne e=>?_,fun e=>?_⟩
 · subst e;rw[hx] at hy;cases hy;exact hne rfl
 · rw[a_i (by omega)]
   refine ⟨⟨j+1,rfl,by omega,?_⟩,by omega⟩
   rw[zQ,zQ,hF,hx,hy,e]
theorem EqR.done {α:Type}{la lb:List α}{n:Int}{m:Nat}(h:EqR la lb n)(hl:la.length=lb.length)(hm:m=la.length)(hge:¬n < (m:Int)) :la=lb:=by
 obtain ⟨j,rfl,hj,hF⟩:=h
 have:j=la.length:=by omega
 rw[List.take_of_length_le (by omega),List.take_of_length_le (by omega)] at hF
 exact hF
end Go.Fw
namespace Go.Fw
theorem a_wk {P:Program}{t:TypeId}{x:A}{c:Cs}(h:TyA P t x)(hg:b_2 P t=some false)(hs:j_9 P 5 t=some [c]) :∃d,x= .one d/\CsOk P c d:=by
 obtain ⟨d,n,rfl,h1⟩:=a_x1 h hg
 obtain ⟨d',r,e,h2,h3⟩:=r_w n 5 t _ _ h1 hs
 have:d=d':=by injection e
 exact ⟨d,rfl,this ▸ h2⟩
end Go.Fw
end
namespace Go.Proofs.YtaklhjodjbgmgaaGreat
open Go.Fw Go.Proofs Go.RowKit
open Go.Proofs.Tryz (prog)
section
theorem ty_i {row:List D}{n:Nat}(h:tyD prog n a_e row) :∃m,row=Go.Fw.encI m/\I64 m:=by
 obtain ⟨_,_,rfl,⟨m,rfl,hm⟩,rfl⟩:=r_w n 2 _ _ [.int .i64] h (by kernel_rfl)
 exact ⟨m,rfl,g_i hm⟩
theorem a_yu {t:TypeId}{row:List D}{n:Nat}(h:tyD prog n t row)(hs:j_9 prog 5 t=some [.int .i64, .int .i64]) :∃a b,row=[iD a,iD b]/\I64 a/\I64 b:=by
 obtain ⟨_,_,rfl,⟨a,rfl,ha⟩,_,_,rfl,⟨b,rfl,hb⟩,rfl⟩:=r_w n 5 _ _ _ h hs
 exact ⟨a,b,rfl,g_i ha,g_i hb⟩
theorem a_y2 {t:TypeId}{row:List D}{n:Nat}(h:tyD prog n t row)(hs:j_9 prog 5 t=some [.int .i64, .int .i64, .int .i64]) :∃a b c,row=[iD a,iD b,iD c]/\I64 a/\I64 b/\I64 c:=by
 obtain ⟨_,_,rfl,⟨a,rfl,ha⟩,_,_,rfl,⟨b,rfl,hb⟩,_,_,rfl,⟨c,rfl,hc⟩,rfl⟩:=r_w n 5 _ _ _ h hs
 exact ⟨a,b,c,rfl,g_i ha,g_i hb,g_i hc⟩
theorem a_0b {t:TypeId}{row:List D}{n:Nat}(h:tyD prog n t row)(hs:j_9 prog 5 t=some [.int .i64, .int .i64, .int .i64, .int .i64]) :∃a b c d,row=[iD a,iD b,iD c,iD d]/\I64 a/\I64 b/\I64 c/\I64 d:=by
 obtain ⟨_,_,rfl,⟨a,rfl,ha⟩,_,_,rfl,⟨b,rfl,hb⟩,_,_,rfl,⟨c,rfl,hc⟩,_,_,rfl,⟨d,rfl,hd⟩,rfl⟩:=r_w n 5 _ _ _ h hs
 exact ⟨a,b,c,d,rfl,g_i ha,g_i hb,g_i hc,g_i hd⟩
theorem a_ru {row:List D}{n:Nat}(h:tyD prog n d_n row) :∃s:Sec,row=s.enc/\I64 s.Kind/\I64 s.OC/\I64 s.Line:=by
 obtain ⟨a,b,c,rfl,q⟩:=a_y2 h (by kernel_rfl)
 exact ⟨⟨a,b,c⟩,rfl,q⟩
theorem a_uv {row:List D}{n:Nat}(h:tyD prog n e_8 row) :∃s:Jt,row=s.enc/\I64 s.A/\I64 s.AEnd/\I64 s.B/\I64 s.BEnd:=by
 obtain ⟨a,b,c,d,rfl,q⟩:=a_0b h (by kernel_rfl)
 exact ⟨⟨a,b,c,d⟩,rfl,q⟩
theorem a_tm {row:List D}{n:Nat}(h:tyD prog n c_v row) :∃s:Sg,row=s.enc/\I64 s.Sec/\I64 s.End_:=by
 obtain ⟨a,b,rfl,q⟩:=a_yu h (by kernel_rfl)
 exact ⟨⟨a,b⟩,rfl,q⟩
theorem a_yk {row:List D}{n:Nat}(h:tyD prog n f_k row) :∃s:St,row=s.enc/\I64 s.Sec/\I64 s.In/\I64 s.Out:=by
 obtain ⟨a,b,c,rfl,q⟩:=a_y2 h (by kernel_rfl)
 exact ⟨⟨a,b,c⟩,rfl,q⟩
theorem a_xj {row:List D}{n:Nat}(h:tyD prog n c_e row) :∃s:Nd,row=s.enc/\I64 s.Sec/\I64 s.Pos:=by
 obtain ⟨a,b,rfl,q⟩:=a_yu h (by kernel_rfl)
 exact ⟨⟨a,b⟩,rfl,q⟩
structure RtI (r:Rt) :Prop where
 entry:I64 r.Entry
 exit:I64 r.Exit
 path:∀s ∈ r.Path,I64 s.Sec/\I64 s.In/\I64 s.Out
 flank:∀s ∈ r.Flank,I64 s.Sec/\I64 s.Pos
 over:∀o ∈ r.Overlap,I64 o
 np:24 * r.Path.length<=140737488351232
 nf:16 * r.Flank.length<=140737488351232
 no:8 * r.Overlap.length<=140737488351232
theorem a_vi {row:List D}{n:Nat}(h:tyD prog n s_b row) :∃r:Rt,(∀s,RtAt prog f_k c_e a_e s row r)/\RtI r:=by
 obtain ⟨_,_,rfl,⟨a,rfl,ha⟩,_,_,rfl,⟨b,rfl,hb⟩,d1,_,rfl,h1,d2,_,rfl,h2,d3,_,rfl,h3,_,_,rfl,⟨sh,rfl⟩,rfl⟩:=r_w n 5 _ _ [.int .i64, .int .i64, .sl f_k, .sl c_e, .sl a_e, .bool] h (by kernel_rfl)
 obtain ⟨l1,a1,b1,_,e1⟩:=k_h (bytes:=24) St.enc _ (fun row n h=>a_yk h) (by kernel_rfl) (by omega) h1
 obtain ⟨l2,a2,b2,_,e2⟩:=k_h (bytes:=16) Nd.enc _ (fun row n h=>a_xj h) (by kernel_rfl) (by omega) h2
 obtain ⟨l3,a3,b3,_,e3⟩:=k_h (bytes:=8) Go.Fw.encI _ (fun row n h=>ty_i h) (by kernel_rfl) (by omega) h3
 exact ⟨⟨a,b,l1,l2,l3,sh⟩,fun s=>⟨d1,d2,d3,rfl,a1 s,a2 s,a3 s⟩,g_i ha,g_i hb,b1,b2,b3,e1,e2,e3⟩
structure CfI (c:Cf) :Prop where
 secs:∀s ∈ c.Secs,I64 s.Kind/\I64 s.OC/\I64 s.Line
 jts:∀s ∈ c.Jts,I64 s.A/\I64 s.AEnd/\I64 s.B/\I64 s.BEnd
 sigs:∀s ∈ c.Sigs,I64 s.Sec/\I64 s.End_
 xs:∀s ∈ c.Xs,I64 s
 rts:∀r ∈ c.Rts,RtI r
 age:I64 c.Age
 brake:I64 c.Brake
 hold:I64 c.Hold
 budget:I64 c.Budget
 nsecs:24 * c.Secs.length<=140737488351232
 njts:32 * c.Jts.length<=140737488351232
 nsigs:16 * c.Sigs.length<=140737488351232
 nxs:8 * c.Xs.length<=140737488351232
 nrts:96 * c.Rts.length<=140737488351232
structure LsI (l:Ls) :Prop where
 ask:I64 l.Ask
 done:I64 l.Done
 grant:I64 l.Grant
 told:I64 l.Told
 pask:I64 l.PAsk
 pdone:I64 l.PDone
 pgrant:I64 l.PGrant
 since:I64 l.Since
structure CoI (k:Co) :Prop where
 own:∀o ∈ k.Own,I64 o
 routes:∀s ∈ k.Routes,I64 s.State/\I64 s.Since/\I64 s.Next/\I64 s.Mark
 points:∀s ∈ k.Points,I64 s.Cmd/\I64 s.Other
 xs:∀s ∈ k.Xs,I64 s.Cmd/\I64 s.Other
 lines:∀s ∈ k.Lines,LsI s
 resets:∀o ∈ k.Resets,I64 o
structure VwI (v:Vw) :Prop where
 occ:∀l ∈ v.Occ,I64 l.Value/\I64 l.Stamp
 pos:∀l ∈ v.Pos,I64 l.Value/\I64 l.Stamp
 shut:∀l ∈ v.Shut,I64 l.Value/\I64 l.Stamp
 lamp:∀l ∈ v.Lamp,I64 l.Value/\I64 l.Stamp
end
end Go.Proofs.YtaklhjodjbgmgaaGreat
section
namespace Go.Fw
variable {P:Program} {σ σ':Store}
theorem Own.stay {σ0:Store}{el:TypeId}{e d:D}{qs:List (List D)}(g:Own P σ0 σ el e qs)(hs:∀i,σ i≠ .free->h_c d≠some i->σ' i=σ i)(ha:Apart e d)(he:Ext σ0 σ') :Own P σ0 σ' el e qs:=
 ⟨g.at_.same fun i a n h=>hs i (by
   have:=g.at_.rows;subst h
   obtain ⟨t,rows,h1,_⟩:=this
   rw[h1];intro e;cases e) (ha i (by subst h;rfl)),he,g.new,g.nsl,g.nz⟩
theorem Own.append2 {σ0:Store}{el el':TypeId}{d e x:D}{rs qs ns:List (List D)}{bytes:Nat}{K:D->Store->Prop}(h:Own P σ0 σ el d rs)(g:Own P σ0 σ el' e qs)(ha:Apart e d)(hx:At P σ el x ns)
   (hb:bytes * (rs.length+ns.length)<=140737488355328) (hsz:rs.length+ns.length < 2 ^ 60) (hk:∀d' σ',Own P σ0 σ' el d' (rs ++ ns)->Own P σ0 σ' el' e qs->Apart e d'->K d' σ') :a_j P σ el bytes d x K:=
 h.append hx hb hsz fun d' s' ho h1 h2=>hk d' s' ho (g.stay (d:=d) (fun i hi hd=>h1 i hi fun a b hab=>hd (by rw[hab];rfl)) ha ho.ext) fun i hi hd=>by
   have hn:=g.at_.rows
   cases e with
   | osl i' a n=>
     have e1:i'=i:=by simpa[h_c] using hi
     subst e1
     obtain ⟨t,rows,h3,_⟩:=hn
     cases d' with
     | osl j a' n'=>
       have e2:j=i':=by simpa[h_c] using hd
       subst e2
       rcases h2 j a' n' rfl with q | ⟨a2,b2,q⟩
       · rw[h3] at q;cases q
       · exact ha j rfl (by rw[q];rfl)
     | _=>simp[h_c] at hd
   | _=>simp[h_c] at hi
theorem Apart.nil (d:D) :Apart .nils d:=fun i h=>by cases h
end Go.Fw
namespace Go.Fw
variable {P:Program} {σ σ':Store}
theorem r_t {s:Store}{el:TypeId}{es:Nat}{rows:List (List D)}(hes:P.cellsOf el=es)(hsz:rows.length < 2 ^ 60) :At P s el (.sl es rows) rows:=
 ⟨⟨rfl, .inr hes.symm⟩,hsz,fun es rows e=>by injection e with e1 e2;rw[<-e1,hes]⟩
end Go.Fw
namespace Go.Fw
variable {P:Program} {σ σ':Store}
end Go.Fw
namespace Go.Fw
variable {P:Program} {σ σ':Store}
end Go.Fw
namespace Go.Fw
variable {P:Program} {σ σ':Store}
end Go.Fw
end
section
namespace Go.Fw
theorem a_v {j n:Nat}(h:j < n) :n - ((j+1:Nat) :Int).toNat < n - ((j:Nat) :Int).toNat:=by omega
def inL (l:List Int)(n:Int) :Bool:=decide (n ∈ l)
def a_f4 (c:Cf)(s:Int) :Int:=((a_n c.Secs s).map Sec.Kind).getD (-1)
def atB (sec e but:Int) :List Sg->Nat->Bool
 | [],_=>false
 | x::r,j=>(decide (x.Sec=sec) && decide (x.End_=e) && decide ((j:Int)≠but)) || atB sec e but r (j+1)
theorem a_di (sec e but:Int) :∀(l:List Sg) (j:Nat),atB sec e but l j=true↔∃(i:Nat) (x:Sg),l[i]? =some x/\x=⟨sec,e⟩/\((j+i:Nat) :Int)≠but
 | [],j=>by simp[atB]
 | x::r,j=>by
   simp only[atB,Bool.or_eq_true,zO,decide_eq_true_eq,a_di sec e but r (j+1)]
   constructor
   · rintro (⟨⟨h1,h2⟩,h3⟩ | ⟨i,y,h1,h2,h3⟩)
     · exact ⟨0,x,rfl,by cases x;simp at h1 h2;simp[h1,h2],h3⟩
     · exact ⟨i+1,y,by simpa using h1,h2,by rw[show j+ (i+1) =j+1+i by omega];exact h3⟩
   · rintro ⟨i,y,h1,h2,h3⟩
     cases i with
     | zero=>
       simp at h1;subst h1 h2
       exact .inl ⟨⟨rfl,rfl⟩,h3⟩
     | succ i=>exact .inr ⟨i,y,by simpa using h1,h2,by rw[show j+1+i=j+ (i+1) by omega];exact h3⟩
theorem a_w5 {l:List Sg}(hn:l.Nodup){i:Nat}{x:Sg}(hi:l[i]? =some x) :atB x.Sec x.End_ i l 0=false:=by
 cases hb:atB x.Sec x.End_ i l 0 with
 | false=>rfl
 | true=>
   obtain ⟨j,y,h1,h2,h3⟩:=(a_di _ _ _ l 0).1 hb
   have e:y=x:=by cases x;exact h2
   subst e
   exfalso;apply h3
   obtain ⟨q1,q2⟩:=zA.1 hi
   obtain ⟨p1,p2⟩:=zA.1 h1
   have:=(List.getElem_inj (h₀:=q1) (h₁:=p1) hn).1 (by rw[q2,p2])
   omega
theorem r_z (js:List Jt) :∀(l seen:List Sg),m_a js l seen=true↔(∀x ∈ l,(nxt js x.Sec x.End_).isSome=true)/\l.Nodup/\∀x ∈ l,x ∉ seen
 | [],seen=>by simp[m_a]
 | x::r,seen=>by
   rw[m_a]
   by_cases h:(nxt js x.Sec x.End_).isSome=true/\x ∉ seen
   · rw[if_pos h,r_z js r (x::seen)]
     constructor
     · rintro ⟨h1,h2,h3⟩
       refine ⟨fun y hy=>?_,?_,fun y hy=>?_⟩
       · rcases List.mem_cons.1 hy with rfl | hy
         · exact h.1
         · exact h1 y hy
       · exact List.nodup_cons.2 ⟨fun hx=>h3 x hx (by simp),h2⟩
       · rcases List.mem_cons.1 hy with rfl | hy
         · exact h.2
         · exact fun hs=>h3 y hy (by simp[hs])
     · rintro ⟨h1,h2,h3⟩
       obtain ⟨h4,h5⟩:=List.nodup_cons.1 h2
       refine ⟨fun y hy=>h1 y (by simp[hy]),h5,fun y hy hs=>?_⟩
       rcases List.mem_cons.1 hs with rfl | hs
       · exact h4 hy
       · exact h3 y (by simp[hy]) hs
   · rw[if_neg h]
     refine ⟨fun e=>by simp at e,fun ⟨h1,h2,h3⟩=>absurd ⟨h1 x (by simp),h3 x (by simp)⟩ h⟩
theorem a_oq (c:Cf) :(∀(i:Nat) (x:Sg),c.Sigs[i]? =some x->(nxt c.Jts x.Sec x.End_).isSome=true/\atB x.Sec x.End_ i c.Sigs 0=false)↔m_a c.Jts c.Sigs []=true:=by
 rw[r_z]
 constructor
 · intro h
   refine ⟨fun x hx=>?_,?_,fun x _ hx=>by simp at hx⟩
   · obtain ⟨i,hi⟩:=List.mem_iff_getElem?.1 hx
     exact (h i x hi).1
   · rw[List.nodup_iff_pairwise_ne,List.pairwise_iff_getElem]
     intro i j hi hj hij e
     have h2:=(h i _ (zH hi)).2
     have:atB c.Sigs[i].Sec c.Sigs[i].End_ i c.Sigs 0=true:=(a_di _ _ _ _ _).2 ⟨j,c.Sigs[j],zH hj,by rw[<-e],by omega⟩
     rw[h2] at this;cases this
 · rintro ⟨h1,h2,_⟩ i x hi
   exact ⟨h1 x (zC hi),a_w5 h2 hi⟩
theorem a_ej (secs:List Sec) :∀(l seen:List Int),xrun secs l seen=true↔(∀x ∈ l,∃s,a_n secs x=some s/\s.Line=0)/\l.Nodup/\∀x ∈ l,x ∉ seen
 | [],seen=>by simp[xrun]
 | x::r,seen=>by
   rw[xrun]
   cases hg:a_n secs x with
   | none=>
     refine ⟨fun e=>by simp at e,fun ⟨h1,_⟩=>?_⟩
     obtain ⟨s,h,_⟩:=h1 x (by simp)
     rw[hg] at h;cases h
   | some s=>
     simp only
     by_cases h:s.Line=0/\x ∉ seen
     · rw[if_pos h,a_ej secs r (x::seen)]
       constructor
       · rintro ⟨h1,h2,h3⟩
         refine ⟨fun y hy=>?_,?_,fun y hy=>?_⟩
         · rcases List.mem_cons.1 hy with rfl | hy
           · exact ⟨s,hg,h.1⟩
           · exact h1 y hy
         · exact List.nodup_cons.2 ⟨fun hx=>h3 x hx (by simp),h2⟩
         · rcases List.mem_cons.1 hy with rfl | hy
           · exact h.2
           · exact fun hs=>h3 y hy (by simp[hs])
       · rintro ⟨h1,h2,h3⟩
         obtain ⟨h4,h5⟩:=List.nodup_cons.1 h2
         refine ⟨fun y hy=>h1 y (by simp[hy]),h5,fun y hy hs=>?_⟩
         rcases List.mem_cons.1 hs with rfl | hs
         · exact h4 hy
         · exact h3 y (by simp[hy]) hs
     · rw[if_neg h]
       refine ⟨fun e=>by simp at e,fun ⟨h1,h2,h3⟩=>?_⟩
       obtain ⟨s',q1,q2⟩:=h1 x (by simp)
       rw[hg] at q1;cases q1
       exact absurd ⟨q2,h3 x (by simp)⟩ h
theorem a_x7 {js:List Jt}{s e:Int}{p:Int × Int}(h:nxt js s e=some p) :∃j ∈ js,(j.B=p.1/\j.BEnd=p.2)\/(j.A=p.1/\j.AEnd=p.2):=by
 induction js with
 | nil=>cases h
 | cons j r ih=>
   rw[nxt] at h
   split at h
   · cases h;exact ⟨j,by simp, .inl ⟨rfl,rfl⟩⟩
   split at h
   · cases h;exact ⟨j,by simp, .inr ⟨rfl,rfl⟩⟩
   · obtain ⟨k,h1,h2⟩:=ih h
     exact ⟨k,by simp[h1],h2⟩
theorem a_do {c:Cf}(ht:c_s c.Secs c.Jts=true){s e q f:Int}(h:nxt c.Jts s e=some (q,f)) :∃y,a_n c.Secs q=some y:=by
 obtain ⟨j,hj,h1⟩:=a_x7 h
 obtain ⟨_,_,h3⟩:=(l_t _ _).1 ht
 obtain ⟨a,b,_⟩:=h3 j hj
 have:0<=q/\q < c.Secs.length:=by rcases h1 with ⟨e1,_⟩ | ⟨e1,_⟩ <;> simp only at e1 <;> omega
 obtain ⟨y,hy⟩:=a_c (l:=c.Secs) (j:=q.toNat) (by omega)
 exact ⟨y,by unfold a_n;rw[if_neg (by omega),hy]⟩
theorem i_4 {c:Cf}{s:Int}{y:Sec}(h:a_n c.Secs s=some y) :a_f4 c s=y.Kind:=by unfold a_f4;rw[h];rfl
theorem l_z {c:Cf}{s:Int}(h:a_n c.Secs s=none) :a_f4 c s= -1:=by unfold a_f4;rw[h];rfl
theorem a_jc (path:List St)(q:Int) :inL (path.map St.Sec) q=h_7 path q:=by
 unfold inL h_7
 induction path with
 | nil=>rfl
 | cons x r ih=>
   rw[List.any_cons,<-ih,List.map_cons]
   by_cases h:x.Sec=q
   · simp[h]
   · simp[h,Ne.symm h]
theorem a_ye {c:Cf}(ht:c_s c.Secs c.Jts=true){x:Int}{y:Sec}(h:a_n c.Secs x=some y) :0<=y.Kind/\y.Kind<=2:=by
 obtain ⟨_,h2,_⟩:=(l_t _ _).1 ht
 have:=(h2 _ _ (b_w h).2.2).1
 unfold b_v at this
 split at this
 · omega
 split at this
 · omega
 split at this
 · omega
 · exact absurd rfl this
theorem a_t7 {c:Cf}(h:c.sigsOk=true) :c.Sigs.Nodup:=by
 rw[Cf.sigsOk,zO,r_z] at h
 exact h.1.2.1
theorem a_za {c:Cf}(h:c.sigsOk=true)(sec e but:Int) :atB sec e but c.Sigs 0=((c.Sigs.any fun x=>decide (⟨sec,e⟩ =x)) && !decide (a_n c.Sigs but=some ⟨sec,e⟩)):=by
 have hn:=a_t7 h
 rw[Bool.eq_iff_iff,a_di]
 simp only[zO,List.any_eq_true,decide_eq_true_eq,Bool.not_eq_true',decide_eq_false_iff_not,Nat.zero_add]
 constructor
 · rintro ⟨i,x,h1,rfl,h3⟩
   refine ⟨⟨_,zC h1,rfl⟩,fun hg=>h3 ?_⟩
   have hg:=b_w hg
   obtain ⟨q1,q2⟩:=zA.1 h1
   obtain ⟨p1,p2⟩:=zA.1 hg.2.2
   have:=(List.getElem_inj (h₀:=q1) (h₁:=p1) hn).1 (by rw[q2,p2])
   omega
 · rintro ⟨⟨x,hx,rfl⟩,h2⟩
   obtain ⟨i,hi⟩:=List.mem_iff_getElem?.1 hx
   refine ⟨i,_,hi,rfl,fun e=>h2 ?_⟩
   unfold a_n
   rw[if_neg (by omega),<-e,zF];exact hi
theorem i_9 {α:Type}{l:List α}{i:Int}(h0:¬i < 0)(h1:¬i>=(l.length:Int)) :∃x,a_n l i=some x:=by
 obtain ⟨x,hx⟩:=a_c (l:=l) (j:=i.toNat) (by omega)
 exact ⟨x,by unfold a_n;rw[if_neg h0];exact hx⟩
end Go.Fw
namespace Go.Fw
theorem a_y9 (out:List Nd)(q:Int) :inL (out.map Nd.Sec) q=out.any fun n=>n.Sec == q:=by
 unfold inL
 induction out with
 | nil=>rfl
 | cons x r ih=>
   rw[List.any_cons,<-ih,List.map_cons]
   by_cases h:x.Sec=q
   · simp[h]
   · simp[h,Ne.symm h]
end Go.Fw
end
namespace Go.Fw
section
section
variable {occ:List Lk} {now:Int} {was may:Bool} {x:Ls} {o:Int} {s:Nat} {lk:Lk}
end
structure SameBut (k k':Co) (l s:Nat) :Prop where
 routes:k'.Routes=k.Routes
 lines:∀m,m≠l->k'.Lines[m]? =k.Lines[m]?
 own:∀t,t≠s->k'.Own[t]? =k.Own[t]?
end
section
def a_yq (c:Cf)(l:List Int) :List Rs->Nat->Bool
 | [],_=>false
 | r::rs,j=>(decide (r.State≠0) && inL l (c.Approach j)) || a_yq c l rs (j+1)
end
end Go.Fw
section
namespace Go.Fw
structure StOk (c:Cf) (r:Rt) (s:St) :Prop where
 sec:∃y,a_n c.Secs s.Sec=some y/\(m_w (d_5 y.Kind) s.In s.Out).isSome=true/\(r.Shunt=true->y.Line=0)
structure RtOk (c:Cf) (r:Rt) :Prop where
 entry:∃a,a_n c.Sigs r.Entry=some a
 exit_:r.Exit= -1\/∃x,a_n c.Sigs r.Exit=some x
 len:1<=r.Path.length/\r.Path.length<=8
 step:∀s ∈ r.Path,StOk c r s/\s.Sec≠c.approach r
 dup:(r.Path.map St.Sec).Nodup
 flank:r.Flank=c.flank (c.approach r) r.Path
 over:r.Overlap=c.overlap r
theorem h_m {c:Cf}(h:c.check=0) :c_s c.Secs c.Jts=true/\c.sigsOk=true/\c.xsOk=true/\c.Rts.length<=12/\c.routes c.Rts=0/\c.timing=true:=by
 unfold Cf.check at h
 split at h
 · cases h
 split at h
 · cases h
 split at h
 · cases h
 split at h
 · cases h
 split at h
 · rename_i hne;exact absurd h hne
 split at h
 · rename_i h1 h2 h3 h4 h5 h6
   exact ⟨by simpa using h1,by simpa using h2,by simpa using h3,by omega,by simpa using h5,h6⟩
 · cases h
structure NdOk (c:Cf) (a:Int) (path:List St) (n:Nd) :Prop where
 sec:∃y,a_n c.Secs n.Sec=some y/\y.Kind=1
 pos:1<=n.Pos/\n.Pos<=2
 app:n.Sec≠a
 path:h_7 path n.Sec=false
def FlOk (c:Cf)(a:Int)(path:List St)(out:List Nd) :Prop:=(∀n ∈ out,NdOk c a path n)/\(out.map Nd.Sec).Nodup
theorem a_1 {α:Type}{l:List α}{j:Nat} :a_n l (j:Int) =l[j]? :=by unfold a_n;rw[if_neg (by omega),zF]
end Go.Fw
namespace Go.Fw
theorem a_zg {js:List Jt}{s e:Int}(h:(nxt js s e).isSome=true) :∃j ∈ js,j.A=s\/j.B=s:=by
 induction js with
 | nil=>cases h
 | cons j r ih=>
   rw[nxt] at h
   split at h
   · rename_i h1;exact ⟨j,by simp, .inl h1.1⟩
   split at h
   · rename_i h1;exact ⟨j,by simp, .inr h1.1⟩
   · obtain ⟨j',h1,h2⟩:=ih h
     exact ⟨j',by simp[h1],h2⟩
theorem a_sr {c:Cf}(h:c.check=0){x:Sg}(hx:x ∈ c.Sigs) :∃y,a_n c.Secs x.Sec=some y:=by
 obtain ⟨ht,hs,_⟩:=h_m h
 rw[Cf.sigsOk,zO,r_z] at hs
 obtain ⟨j,hj,hA⟩:=a_zg (hs.1.1 x hx)
 obtain ⟨a,b,_⟩:=((l_t _ _).1 ht).2.2 j hj
 exact i_9 (by omega) (by omega)
end Go.Fw
end
namespace Go.Fw
section
def zRt:Rt:=⟨0,0,[],[],[],false⟩
def Cf.rt (c:Cf)(i:Int) :Rt:=(a_n c.Rts i).getD zRt
end
end Go.Fw
namespace Go.Fw
open Go.Shelf Go.Sort Go.Proofs
section
variable {P:Program} {ρ:Ren} {σ:Store}
def j_y (z:Int) :List D:= [.int .i64 z]
theorem a_jk {k:Nat->Prop}{β:Bk}{W:World}(hS:SRel P k β W σ){id i0:Nat}{t:TypeId}{rows:List (List D)}{zs:List Int}{bi:BI}(ht:P.cellsOf t=1)(hl:σ id= .live t rows)(hb:β id=some bi)
   (hrows:(rows.drop i0).take zs.length=zs.map j_y) :Holds (Value.int .i64) W bi.blk (i0 * bi.es) zs.toArray:=by
 obtain ⟨arr,g1,g2,g3,g4,g5,g6,g7⟩:=hS.obj id bi t rows hb hl
 have hes:bi.es=1:=by rw[<-g3,ht]
 have hget:∀j,j < zs.length->arr[i0+j]? =some (Value.int .i64 (zs.getD j 0)):=by
   intro j hj
   have h1:((rows.drop i0).take zs.length)[j]? =some (j_y (zs.getD j 0)):=by rw[hrows];simp[hj]
   rw[List.getElem?_take_of_lt hj,List.getElem?_drop] at h1
   obtain ⟨u,hu,hVu⟩:=g7 _ _ 0 (.int .i64 (zs.getD j 0)) h1 rfl
   rw[hes,Nat.mul_one,Nat.add_zero] at hu
   rw[hu];cases hVu;rfl
 intro j hj
 have hj:j < zs.length:=by simpa using hj
 refine ⟨?_,by simp[World.frozen?,g1]⟩
 have:=hget j hj
 simp only[World.cell?,g1,hes,Nat.mul_one,Option.isSome_none,Bool.false_eq_true,if_false]
 rw[this]
 simp[hj]
end
end Go.Fw
namespace Go.Fw
section
def Co.inh (c:Cf)(k:Co)(r s:Int) :Bool:=
 let o:=(a_n k.Own s).getD 0 - 1
 decide (0<=o/\o≠r) && (decide ((c.rt o).Exit=(c.rt r).Entry) && inL (c.rt o).Overlap s)
def Co.blocked (c:Cf)(k:Co)(r:Int)(l:List Int) :Bool:=l.any fun s=>decide ((a_n k.Own s).getD 0≠0) && !k.inh c r s
def Co.may (c:Cf)(k:Co)(r:Int)(l:List Int) :Int:=
 if a_yq c l k.Routes 0=true then 23 else if k.blocked c r l=true then 22 else 0
def Co.done (k:Co)(e:Int)(y:Co) :Co × Int:=(if e=0 then y else k,e)
end
section
structure FitIs (c:Cf) (k:Co) :Prop where
 chk:c.check=0
 lOwn:k.Own.length=c.Secs.length
 lPts:k.Points.length=c.Secs.length
 lRes:k.Resets.length=c.Secs.length
 lRts:k.Routes.length=c.Rts.length
 lXs:k.Xs.length=c.Xs.length
 lLn:k.Lines.length=4
 own:∀o ∈ k.Own,-2<=o/\o<=c.Rts.length
 rts:∀(i:Nat) x r,k.Routes[i]? =some x->c.Rts[i]? =some r->Rs.fits (x,r) =true
 pts:∀m ∈ k.Points,Mv.fits m=true
 xs:∀m ∈ k.Xs,Mv.fits m=true
 lns:∀l ∈ k.Lines,Ls.fits l=true
 res:∀z ∈ k.Resets,tm 1 z=true
end
section
def ofL (l:List UInt8) :ByteArray:=⟨l.toArray⟩
def r_e (b:UInt8) :List D:= [.int .u8 b.toNat]
theorem o_u (l:List UInt8) :c_3 (ofL l) =l.map r_e:=rfl
theorem a_s2 (s:ByteArray) :ofL s.data.toList=s:=by cases s;rfl
theorem a_9 (l:List UInt8) :(ofL l).size=l.length:=by
 show l.toArray.size=_
 simp
theorem r_n (l:List UInt8) :(ofL l).data.toList=l:=rfl
theorem d_7 (l:List UInt8)(a b:Nat) :(ofL l).extract a b=ofL ((l.take b).drop a):=by
 apply ByteArray.ext
 simp[ofL,List.drop_take]
theorem a_np (bs:ByteArray) :∀(m i:Nat) (r:List UInt8),bs.size - i=m->ByteArray.toList.loop bs i r=r.reverse ++ bs.data.toList.drop i:=by
 intro m
 induction m with
 | zero=>
   intro i r h
   have h':¬i < bs.size:=by omega
   rw[ByteArray.toList.loop,if_neg h',List.drop_eq_nil_of_le (by show bs.size<=i;omega),zS]
 | succ m ih=>
   intro i r h
   have h':i < bs.size:=by omega
   have h'':i < bs.data.toList.length:=h'
   rw[ByteArray.toList.loop,if_pos h',ih (i+1) _ (by omega),List.drop_eq_getElem_cons h'']
   have e:bs.get! i=bs.data.toList[i]:=by
     show bs.data[i]! =_
     rw[getElem!_pos bs.data i h']
     rfl
   rw[e];simp
theorem h_k (bs:ByteArray) :bs.toList=bs.data.toList:=by
 rw[ByteArray.toList,a_np bs _ 0 [] rfl];simp
def e_u (n:Int)(s:Nat) :UInt8:=UInt8.ofNat ((n.fdiv (2 ^ s)) % 256).toNat
theorem a_re (n:Int)(s:Nat) :r_e (e_u n s) =[.int .u8 (IntKind.wrap .u8 (n.fdiv (2 ^ s)))]:=by
 have e:IntKind.wrap .u8 (n.fdiv (2 ^ s)) =(n.fdiv (2 ^ s)) % 256:=rfl
 rw[e]
 unfold r_e e_u
 generalize n.fdiv (2 ^ s) =x
 have h1:0<=x % 256:=Int.emod_nonneg _ (by omega)
 have h2:x % 256 < 256:=Int.emod_lt_of_pos _ (by omega)
 obtain ⟨m,hm⟩:=zI h1
 rw[hm] at h2 ⊢
 rw[zF,UInt8.toNat_ofNat',Nat.mod_eq_of_lt (by show m < 256;omega)]
def be:Nat->Int->List UInt8
 | 0,_=> []
 | k+1,n=>e_u n (8 * k) ::be k n
theorem c_f (k:Nat)(n:Int) :(be k n).length=k:=by
 induction k with
 | zero=>rfl
 | succ k ih=>rw[be,List.length_cons,ih]
def rdL (l:List UInt8)(x:Int) :Int:=l.foldl (fun x c=>x * 256+ (c.toNat:Int)) x
def rd (l:List UInt8) :Int:=rdL l 0
theorem a_en {n:Nat}{s:Nat} :((e_u (n:Int) s).toNat:Int) =((n / 2 ^ s % 256:Nat) :Int):=by
 unfold e_u
 have e:(n:Int).fdiv (2 ^ s) =((n / 2 ^ s:Nat) :Int):=by
   rw[Int.fdiv_eq_ediv_of_nonneg _ (by exact Int.pow_nonneg (by omega))]
   simp
 rw[e]
 have h2:n / 2 ^ s % 256 < 256:=Nat.mod_lt _ (by omega)
 have e2:(((n / 2 ^ s:Nat) :Int) % 256).toNat=n / 2 ^ s % 256:=by omega
 rw[e2,UInt8.toNat_ofNat',Nat.mod_eq_of_lt (by show _ < 256;exact h2)]
theorem a_y6:∀(k:Nat) (n:Nat) (x:Int),rdL (be k (n:Int)) x=x * 256 ^ k+ ((n % 256 ^ k:Nat) :Int):=by
 intro k
 induction k with
 | zero=>intro n x;simp[be,rdL,Nat.mod_one]
 | succ k ih=>
   intro n x
   rw[be,rdL,List.foldl_cons]
   have:=ih n (x * 256+ ((e_u (n:Int) (8 * k)).toNat:Int))
   rw[rdL] at this
   rw[this,a_en]
   have e:(2:Nat) ^ (8 * k) =256 ^ k:=by rw[Nat.pow_mul]
   rw[e]
   have e2:n % 256 ^ (k+1) =n % 256 ^ k+256 ^ k * (n / 256 ^ k % 256):=by rw[Nat.pow_succ,Nat.mod_mul]
   rw[e2,Int.pow_succ,Int.add_mul]
   simp only[Int.natCast_add,Int.natCast_mul,Int.natCast_pow]
   have e3:x * 256 * 256 ^ k=x * (256 ^ k * 256):=by rw[Int.mul_assoc,Int.mul_comm 256]
   have e4:((n / 256 ^ k % 256:Nat) :Int) * 256 ^ k=256 ^ k * ((n / 256 ^ k % 256:Nat) :Int):=Int.mul_comm _ _
   rw[e3,e4]
   simp only[Int.add_assoc]
   have:∀a b c:Int,a+ (b+c) =a+ (c+b):=fun a b c=>by omega
   exact this _ _ _
theorem a_fc {k:Nat}{n:Int}(h0:0<=n)(h1:n < 256 ^ k) :rd (be k n) =n:=by
 obtain ⟨m,rfl⟩:=zI h0
 rw[rd,a_y6,Int.zero_mul,Int.zero_add]
 have:m < 256 ^ k:=by
   have e:((256 ^ k:Nat) :Int) =(256:Int) ^ k:=by simp
   omega
 rw[Nat.mod_eq_of_lt this]
theorem q_t:∀(l:List UInt8) (x:Int),0<=x->0<=rdL l x/\rdL l x < (x+1) * 256 ^ l.length:=by
 intro l
 induction l with
 | nil=>intro x h;simp[rdL];omega
 | cons c l ih=>
   intro x h
   have hc:(c.toNat:Int) < 256:=by have:=c.toNat_lt;omega
   have:=ih (x * 256+c.toNat) (by omega)
   rw[rdL] at this ⊢
   rw[List.foldl_cons]
   refine ⟨this.1,Int.lt_of_lt_of_le this.2 ?_⟩
   rw[List.length_cons,Int.pow_succ]
   have e:(x+1) * (256 ^ l.length * 256) =((x+1) * 256) * 256 ^ l.length:=by rw[Int.mul_assoc,Int.mul_comm (256 ^ l.length)]
   rw[e]
   exact Int.mul_le_mul_of_nonneg_right (by omega) (Int.pow_nonneg (by omega))
theorem a_e9 (a b:List UInt8)(x:Int) :rdL (a ++ b) x=rdL b (rdL a x):=by unfold rdL;rw[List.foldl_append]
theorem a_xk {x c:Int}(hx0:0<=x)(hx:x < 2 ^ 48)(hc0:0<=c)(hc:c < 256) :w64 (BitVec.toNat ((BitVec.ofInt 64 (w64 (x * (2 ^ 8)))) ||| (BitVec.ofInt 64 (w64 c))) :Int) =x * 256+c:=by
 obtain ⟨m,rfl⟩:=zI hx0
 obtain ⟨b,rfl⟩:=zI hc0
 rw[a_r (n:=(m:Int) * 2 ^ 8) (by omega) (by omega),a_r (n:=(b:Int)) (by omega) (by omega)]
 have e:(m:Int) * 2 ^ 8=((m * 256:Nat) :Int):=by simp
 rw[e,BitVec.ofInt_natCast,BitVec.ofInt_natCast,BitVec.toNat_or,BitVec.toNat_ofNat,BitVec.toNat_ofNat,Nat.mod_eq_of_lt (by omega),Nat.mod_eq_of_lt (by omega)]
 have:=Nat.shiftLeft_add_eq_or_of_lt (a:=m) (b:=b) (i:=8) (by omega)
 rw[Nat.shiftLeft_eq] at this
 have h256:(2:Nat) ^ 8=256:=rfl
 rw[h256] at this
 rw[<-this,a_r (by omega) (by omega)]
 simp
structure Wr where
 e:Int
 out:List UInt8
 lim:Int
def Wr.note (w:Wr)(x:Int) :Wr:=if w.e=0 then { w with e:=x } else w
def Wr.put (w:Wr)(b:List UInt8) :Wr:=
 let v:=if (b.length:Int) > w.lim - w.out.length then w.note 2 else w
 if v.e=0 then { v with out:=v.out ++ b } else v
def Wr.num (w:Wr)(k:Nat)(n:Int) :Wr:=(if n < 0\/n.fdiv (2 ^ (8 * k))≠0 then w.note 32 else w).put (be k n)
theorem Wr.note_out (w:Wr)(x:Int) :(w.note x).out=w.out/\(w.note x).lim=w.lim:=by unfold Wr.note;split <;> exact ⟨rfl,rfl⟩
structure Rd where
 e:Int
 l:List UInt8
def Rd.short (r:Rd)(n:Nat) :Rd:=if r.l.length < n then (if r.e=0 then { r with e:=1 } else r) else r
def Rd.num (r:Rd)(n:Nat) :Int × Rd:=if (r.short n).e=0 then (rd ((r.short n).l.take n),⟨0,(r.short n).l.drop n⟩) else (0,r.short n)
theorem Rd.short_l (r:Rd)(n:Nat) :(r.short n).l=r.l:=by unfold Rd.short;split <;> (try split) <;> rfl
end
section
def k_3 (r:Nat) :Nat:=if 2147483648<=r then (2 * r - 4294967296) ^^^ 79764919 else 2 * r
def p_8:Nat->Nat->Nat
 | 0,r=>r
 | n+1,r=>p_8 n (k_3 r)
def crcU (r:Nat)(b:UInt8) :Nat:=p_8 8 (r ^^^ (b.toNat * 16777216))
def m_m (r:Nat)(l:List UInt8) :Nat:=l.foldl crcU r
def crc (l:List UInt8) :Nat:=m_m 4294967295 l
theorem n_j {a b:Nat}(ha:a < 4294967296)(hb:b < 4294967296) :a ^^^ b < 4294967296:=Nat.xor_lt_two_pow (n:=32) ha hb
theorem a_a5 {r:Nat}(h:r < 4294967296) :k_3 r < 4294967296:=by
 unfold k_3
 split
 · exact n_j (by omega) (by decide)
 · omega
theorem a_i2 (n r:Nat) :p_8 (n+1) r=p_8 n (k_3 r):=rfl
theorem a_tg (r:Nat) :p_8 0 r=r:=by unfold p_8;rfl
theorem a_lz (n:Nat) :∀{r:Nat},r < 4294967296->p_8 n r < 4294967296:=by
 induction n with
 | zero=>intro r h;exact h
 | succ n ih=>intro r h;rw[a_i2];exact ih (a_a5 h)
theorem a_x9 {r:Nat}(h:r < 4294967296)(b:UInt8) :crcU r b < 4294967296:=a_lz 8 (n_j h (by have:=b.toNat_lt;omega))
theorem a_ir (r:Nat)(b:UInt8)(l:List UInt8) :m_m r (b::l) =m_m (crcU r b) l:=by unfold m_m;rw[List.foldl_cons]
theorem a_ur (r:Nat) :m_m r []=r:=by unfold m_m;rw[List.foldl_nil]
theorem x_u (l:List UInt8) :∀{r:Nat},r < 4294967296->m_m r l < 4294967296:=by
 induction l with
 | nil=>intro r h;exact h
 | cons b l ih=>intro r h;rw[a_ir];exact ih (a_x9 h b)
theorem a_qh (l:List UInt8) :crc l < 4294967296:=x_u l (by omega)
theorem a_by (r:Nat)(a b:List UInt8) :m_m r (a ++ b) =m_m (m_m r a) b:=by unfold m_m;rw[List.foldl_append]
theorem a_v8 (m n r:Nat) :p_8 (m+n) r=p_8 n (p_8 m r):=by
 induction m generalizing r with
 | zero=>simp[p_8]
 | succ m ih=>rw[Nat.succ_add];exact ih (k_3 r)
def g_f (b:List UInt8) :List UInt8:=be 2 b.length ++ b ++ be 4 (crc (be 2 b.length ++ b))
def e_j (t:List UInt8) :Int × Int:=
 if t.length < 6 then (0,1) else
 if rd (t.take 2) > 1024 then (0,2) else
 if (t.length:Int) < rd (t.take 2) +6 then (0,1) else (rd (t.take 2) +6,0)
def d_k (t:List UInt8) :List UInt8 × Int × Int:=
 if (e_j t).2≠0 then ([],0,(e_j t).2) else
 if rd ((t.take (e_j t).1.toNat).drop ((e_j t).1.toNat - 4))≠crc (t.take ((e_j t).1.toNat - 4)) then ([],0,4) else
 ((t.take ((e_j t).1.toNat - 4)).drop 2,(e_j t).1,0)
def e_w (t:List UInt8) :List UInt8 × Int:=
 if (e_j t).2≠0 then ([],(e_j t).2) else
 if (e_j t).1 < t.length then ([],3) else ((d_k t).1,(d_k t).2.2)
theorem y_t (b:List UInt8) :(g_f b).length=b.length+6:=by simp[g_f,c_f];omega
theorem a_wy {b:List UInt8}(h:b.length<=1024) :e_j (g_f b) =((b.length:Int) +6,0):=by
 have e:(g_f b).take 2=be 2 b.length:=by
   unfold g_f
   rw[zK,List.take_left' (c_f 2 _)]
 unfold e_j
 rw[e,a_fc (by omega) (by omega),y_t,if_neg (by omega),if_neg (by omega),if_neg (by omega)]
theorem a_tj {b:List UInt8}(h:b.length<=1024) :e_w (g_f b) =(b,0):=by
 have hc:=a_wy h
 have hl:(be 2 (b.length:Int) ++ b).length=b.length+2:=by simp[c_f];omega
 have e1:((b.length:Int) +6).toNat=b.length+6:=by omega
 have e2:(g_f b).take (b.length+6) =g_f b:=List.take_of_length_le (by rw[y_t];exact Nat.le_refl _)
 have e3:(g_f b).take (b.length+6 - 4) =be 2 b.length ++ b:=by
   unfold g_f
   rw[List.take_left' (by rw[hl];omega)]
 have e4:(g_f b).drop (b.length+6 - 4) =be 4 (crc (be 2 b.length ++ b)):=by
   unfold g_f
   rw[List.drop_left' (by rw[hl];omega)]
 have e5:d_k (g_f b) =(b,(b.length:Int) +6,0):=by
   unfold d_k
   rw[hc]
   simp only[ne_eq,not_true_eq_false,if_false,e1,e2,e3,e4]
   have hlt:=a_qh (be 2 (b.length:Int) ++ b)
   rw[a_fc (by omega) (by omega)]
   rw[if_neg (by simp),List.drop_left' (c_f 2 _)]
 unfold e_w
 rw[e5,hc]
 simp only[ne_eq,not_true_eq_false,if_false]
 rw[y_t,if_neg (by omega)]
def i_q (p n s:Int) :List UInt8:=be 1 p ++ be 2 n ++ be 4 s
theorem y_y (p n s:Int) :(i_q p n s).length=7:=by simp[i_q,c_f]
structure Said where
 p:Int
 n:Int
 s:Int
 b:List UInt8
 e:Int
def a_2 (t:List UInt8) :Said:=
 if (e_w t).2≠0 then ⟨0,0,0,[],(e_w t).2⟩ else
 if (e_w t).1.length < 7 then ⟨0,0,0,[],3⟩ else
 if 1007 < (e_w t).1.length then ⟨0,0,0,[],2⟩ else
 ⟨rd ((e_w t).1.take 1),rd (((e_w t).1.drop 1).take 2),rd (((e_w t).1.drop 3).take 4),(e_w t).1.drop 7,0⟩
theorem a_tq {p n s:Int}{b:List UInt8}(hp:0<=p/\p < 256)(hn:0<=n/\n < 65536)(hs:0<=s/\s < 4294967296)(hb:b.length<=1000) :
   a_2 (g_f (i_q p n s ++ b)) =⟨p,n,s,b,0⟩:=by
 have hl:(i_q p n s ++ b).length=b.length+7:=by rw[zP,y_y];omega
 have ho:=a_tj (b:=i_q p n s ++ b) (by rw[hl];omega)
 unfold a_2
 rw[ho]
 simp only[ne_eq,not_true_eq_false,if_false]
 rw[hl,if_neg (by omega),if_neg (by omega)]
 have e1:(i_q p n s ++ b).take 1=be 1 p:=by
   unfold i_q
   rw[zK,zK,List.take_left' (c_f 1 _)]
 have e2:(i_q p n s ++ b).drop 1=be 2 n ++ (be 4 s ++ b):=by
   unfold i_q
   rw[zK,zK,List.drop_left' (c_f 1 _)]
 have e3:(i_q p n s ++ b).drop 3=be 4 s ++ b:=by
   have:(i_q p n s ++ b).drop 3=((i_q p n s ++ b).drop 1).drop 2:=by rw[List.drop_drop]
   rw[this,e2,List.drop_left' (c_f 2 _)]
 have e4:(i_q p n s ++ b).drop 7=b:=List.drop_left' (y_y p n s)
 rw[e1,e2,e3,e4,List.take_left' (c_f 2 _),List.take_left' (c_f 4 _),a_fc (by omega) (by omega),a_fc (by omega) (by omega),a_fc (by omega) (by omega)]
end
section
structure Th where
 At:Int
 To:Int
 Left:Int
def Th.enc (x:Th) :List D:= [iD x.At,iD x.To,iD x.Left]
def Th.tick (x:Th)(stuck:Bool) :Th:=
 if x.Left > 0/\stuck=false then (if x.Left - 1 > 0 then { x with Left:=x.Left - 1 } else ⟨x.To,x.To,x.Left - 1⟩) else x
def Th.order (x:Th)(to:Int) :Th:=if to≠x.To then ⟨x.At,to,2⟩ else x
structure Lp where
 Asp:Int
 Last:Int
def Lp.enc (x:Lp) :List D:= [iD x.Asp,iD x.Last]
structure Rc where
 Last:Int
 Peer:Int
 Age:Int
def Rc.take (r:Rc)(now:Int)(t:List UInt8) :Rc × List UInt8 × Int:=
 if (a_2 t).e≠0 then (r,[],(a_2 t).e) else
 if (a_2 t).p≠r.Peer then (r,[],16) else
 if (a_2 t).s > now then (r,[],19) else
 if now - (a_2 t).s > r.Age then (r,[],17) else
 if (a_2 t).s<=r.Last then (r,[],18) else ({ r with Last:=(a_2 t).s },(a_2 t).b,0)
structure Shp where
 Secs:List Int
 Pts:List Int
 Xs:List Int
 Sgs:List Int
def Cf.mine (c:Cf)(oc s:Int) :Bool:=((a_n c.Secs s).map fun x=>decide (x.OC=oc)).getD false
def e_3 (oc:Int) :List Sec->Int->List Int
 | [],_=> []
 | s::r,i=>if s.OC=oc then i::e_3 oc r (i+1) else e_3 oc r (i+1)
def g_v (oc:Int) :List Sec->Int->List Int
 | [],_=> []
 | s::r,i=>if s.OC=oc/\s.Kind=1 then i::g_v oc r (i+1) else g_v oc r (i+1)
def o_w (c:Cf)(oc:Int) :List Int->Int->List Int
 | [],_=> []
 | s::r,i=>if c.mine oc s=true then i::o_w c oc r (i+1) else o_w c oc r (i+1)
def j_i (c:Cf)(oc:Int) :List Sg->Int->List Int
 | [],_=> []
 | x::r,i=>if c.mine oc x.Sec=true then i::j_i c oc r (i+1) else j_i c oc r (i+1)
def Cf.shape (c:Cf)(oc:Int) :Shp:=⟨e_3 oc c.Secs 0,g_v oc c.Secs 0,o_w c oc c.Xs 0,j_i c oc c.Sigs 0⟩
structure Pst where
 R:Rc
 H:Shp
 Stamp:Int
structure Tr where
 Secs:List Int
 Out:Int
structure Yd where
 C:Cf
 Pts:List Th
 Gts:List Th
 Lps:List Lp
 Psts:List Pst
 Trs:List Tr
 Now:Int
 Flt:Int × Int->Bool
def d_i (l:List Tr)(s:Int) :Nat:=(l.map fun t=>t.Secs.count s).sum
def Yd.there (y:Yd)(s:Int) :Int:=(d_i y.Trs s:Nat)
def Cf.sigAt (c:Cf)(s e:Int) :Int:=d_h (fun x=>decide ((⟨s,e⟩ :Sg) =x)) c.Sigs 0
def Cf.stands (c:Cf)(s e:Int) :Bool:=(nxt c.Jts s e).isNone || decide (0<=c.sigAt s e)
def Cf.trFits (c:Cf)(l:List Tr)(t:Tr) :Bool:=
 match t.Secs with
 | [s]=>match a_n c.Secs s with
   | some x=>decide (x.Kind=0) && decide (t.Out=0\/t.Out=1) && decide (d_i l s=0) && c.stands s t.Out
   | none=>false
 | _=>false
def g_5 (c:Cf) :List Tr->List Tr->Option (List Tr)
 | [],l=>some l
 | t::r,l=>if c.trFits l t=true then g_5 c r (l ++ [t]) else none
def Yd.fresh (c:Cf)(l:List Tr) :Yd:=
 ⟨c,List.replicate c.Secs.length ⟨1,1,0⟩,List.replicate c.Xs.length ⟨1,1,0⟩,List.replicate c.Sigs.length ⟨0,-1⟩,
   [0,1,2,3].map fun oc=>⟨⟨-1,oc+50,c.Age⟩,c.shape oc,-1⟩,l,0,fun _=>false⟩
def d_9 (c:Cf)(l:List Tr) :Int × Yd:=
 if c.check≠0 then (c.check, .fresh c []) else
 if l.length > 4 then (5, .fresh c []) else
 match g_5 c l [] with
 | none=>(30, .fresh c [])
 | some l=>(0, .fresh c l)
def h_l (f:Int->Bool) :List Th->Int->List Th
 | [],_=> []
 | x::r,i=>x.tick (f i) ::h_l f r (i+1)
def Yd.tick (y:Yd)(now:Int) :Yd:=
 if now<=y.Now then y else { y with Now:=now,Pts:=h_l (fun i=>y.Flt (3,i)) y.Pts 0,Gts:=h_l (fun i=>y.Flt (6,i)) y.Gts 0 }
structure Od where
 Pos:List Int
 Asp:List Int
 Shut:List Int
def e_g (l:List UInt8) :List Int:=l.map fun b=>(b.toNat:Int)
def Od.right (o:Od)(h:Shp) :Bool:=
 decide (o.Pos.length=h.Pts.length/\o.Asp.length=h.Sgs.length/\o.Shut.length=h.Xs.length) &&
   (o.Pos.all fun x=>decide (0<=x/\x<=2)) && (o.Asp.all fun x=>decide (0<=x/\x<=2)) && (o.Shut.all fun x=>decide (0<=x/\x<=1))
def Od.bytes (o:Od) :List UInt8:=(2:: (o.Pos ++ o.Asp ++ o.Shut)).map fun x=>e_u x 0
def Od.of (h:Shp)(t:List UInt8) :Od:=
 ⟨e_g ((t.drop 1).take h.Pts.length),e_g ((t.drop (1+h.Pts.length)).take h.Sgs.length),e_g ((t.drop (1+h.Pts.length+h.Sgs.length)).take h.Xs.length)⟩
def g_d (h:Shp)(t:List UInt8) :Option Od:=
 if t.head? =some 2/\t.length=1+h.Pts.length+h.Sgs.length+h.Xs.length/\(Od.of h t).right h=true then some (Od.of h t) else none
def e_9:List Int->List Int->List Th->List Th
 | i::is,o::os,l=>e_9 is os (l.modify i.toNat fun x=>x.order o)
 | _,_,l=>l
def f_c:List Int->List Int->List Th->List Th
 | i::is,o::os,l=>f_c is os (if o≠0 then l.modify i.toNat fun x=>x.order o else l)
 | _,_,l=>l
def q_6:List Int->List Int->List Lp->List Lp
 | i::is,o::os,l=>q_6 is os (l.modify i.toNat fun x=> { x with Asp:=o })
 | _,_,l=>l
def Yd.take (y:Yd)(oc:Int)(t:List UInt8) :Yd × Int:=
 match a_n y.Psts oc with
 | none=>(y,20)
 | some p=>
   if (p.R.take y.Now t).2.2≠0 then (y,(p.R.take y.Now t).2.2) else
   match g_d p.H (p.R.take y.Now t).2.1 with
   | none=>({ y with Psts:=y.Psts.set oc.toNat { p with R:=(p.R.take y.Now t).1 } },3)
   | some o=>({ y with Psts:=y.Psts.set oc.toNat ⟨(p.R.take y.Now t).1,p.H,(p.R.take y.Now t).1.Last⟩,Pts:=f_c p.H.Pts o.Pos y.Pts,Gts:=e_9 p.H.Xs o.Shut y.Gts,Lps:=q_6 p.H.Sgs o.Asp y.Lps },0)
def Yd.shows (y:Yd)(x:Int) :Int:=
 match a_n y.Lps x,a_n y.C.Sigs x with
 | some l,some g=>match a_n y.C.Secs g.Sec with
   | some s=>match a_n y.Psts s.OC with
     | some p=>if p.Stamp < 0\/y.Now - p.Stamp > y.C.Age then 0 else l.Asp
     | none=>0
   | none=>0
 | _,_=>0
def o_9 (f:Int->Int)(now:Int) :List Lp->Int->List Lp
 | [],_=> []
 | x::r,i=>(if f i≠0 then { x with Last:=now } else x) ::o_9 f now r (i+1)
def Yd.look (y:Yd) :Yd:= { y with Lps:=o_9 y.shows y.Now y.Lps 0 }
def q_5:List (Int × Int × Int)->Int->Int->Option Int
 | [],_,_=>none
 | w::r,i,p=>match (if i=w.1 then some w.2.1 else if i=w.2.1 then some w.1 else none:Option Int) with
   | some o=>if w.2.2=0\/w.2.2=p then some o else q_5 r i p
   | none=>q_5 r i p
def e_e (k i p:Int) :Option Int:=q_5 (d_5 k) i p
def Yd.pos (y:Yd)(s:Int) :Int:=((a_n y.Pts s).map fun x=>if x.Left > 0 then 0 else x.At).getD 0
def Yd.way (y:Yd)(s i:Int) :Int:=(e_e (((a_n y.C.Secs s).map Sec.Kind).getD 0) i (y.pos s)).getD (-1)
def Yd.shut (y:Yd)(i:Int) :Bool:=((a_n y.Gts i).map fun x=>decide (¬x.Left > 0) && decide (x.At=1)).getD false
def Tr.hd (t:Tr) :Int:=t.Secs.head?.getD 0
def Yd.move (y:Yd)(i:Int) :Yd × Int:=
 match a_n y.Trs i with
 | none=>(y,30)
 | some t=>match nxt y.C.Jts t.hd t.Out with
   | none=>(y,29)
   | some (s,e)=>
     if t.Out < 0 then (y,29) else
     if (match a_n y.Lps (y.C.sigAt t.hd t.Out) with
       | some l=>decide (l.Last < 0\/y.Now - l.Last > y.C.Brake)
       | none=>false) =true then (y,29) else
     ({ y with Trs:=y.Trs.set i.toNat ⟨s::t.Secs,y.way s e⟩ },0)
def Yd.tail (y:Yd)(i:Int) :Yd × Int:=
 match a_n y.Trs i with
 | none=>(y,30)
 | some t=>if t.Secs.length=1 then (y,29) else ({ y with Trs:=y.Trs.set i.toNat ⟨t.Secs.take (t.Secs.length - 1),t.Out⟩ },0)
def Yd.turn (y:Yd)(i:Int) :Yd × Int:=
 match a_n y.Trs i with
 | none=>(y,30)
 | some t=>
   if t.Secs.length≠1\/t.Out < 0 then (y,29) else
   if y.way t.hd t.Out < 0\/y.C.stands t.hd (y.way t.hd t.Out) =false then (y,29) else
   ({ y with Trs:=y.Trs.set i.toNat ⟨t.Secs,y.way t.hd t.Out⟩ },0)
def Yd.leave (y:Yd)(i:Int) :Yd × Int:=
 match a_n y.Trs i with
 | none=>(y,30)
 | some t=>
   if t.Secs.length≠1\/((a_n y.C.Secs t.hd).map Sec.Line).getD 0=0\/t.Out≠1 then (y,29) else
   ({ y with Trs:=y.Trs.take i.toNat ++ y.Trs.drop (i.toNat+1) },0)
def Yd.enter (y:Yd)(line:Int) :Yd × Int:=
 let s:=d_h (fun x=>x.Line == line) y.C.Secs 0
 if line < 1\/s < 0 then (y,20) else
 if y.Trs.length>=4 then (y,5) else
 if y.C.sigAt s 0 < 0 then (y,29) else ({ y with Trs:=y.Trs ++ [⟨[s],0⟩] },0)
def Yd.fault (y:Yd)(kind n:Int)(on:Bool) :Yd × Int:=
 if kind < 1\/kind > 6 then (y,27) else
 if n < 0\/n>=(if kind=4 then y.C.Sigs.length else if kind=5\/kind=6 then y.C.Xs.length else y.C.Secs.length:Nat) then (y,20) else
 if (kind=2\/kind=3)/\((a_n y.C.Secs n).map Sec.Kind).getD 0≠1 then (y,20) else
 ({ y with Flt:=fun p=>if p=(kind,n) then on else y.Flt p },0)
structure Ht where
 Kind:Int
 Sec:Int
def Ht.enc (h:Ht) :List D:= [iD h.Kind,iD h.Sec]
def j_7 (y:Yd) :List Sec->Int->List Ht
 | [],_=> []
 | _::r,i=>(if y.there i > 1 then [⟨1,i⟩] else []) ++ j_7 y r (i+1)
def j_8 (y:Yd) :List Sec->Int->List Ht
 | [],_=> []
 | x::r,i=>(if x.Kind=1/\y.there i > 0/\(((a_n y.Pts i).map Th.Left).getD 0) > 0 then [⟨2,i⟩] else []) ++ j_8 y r (i+1)
def m_h (y:Yd) :List Int->Int->List Ht
 | [],_=> []
 | s::r,i=>(if y.there s > 0/\y.shut i=false then [⟨3,s⟩] else []) ++ m_h y r (i+1)
def p_0:List Tr->List Ht
 | []=> []
 | t::r=>(if t.Out < 0 then [⟨4,t.hd⟩] else []) ++ p_0 r
def Yd.hits (y:Yd) :List Ht:=j_7 y y.C.Secs 0 ++ j_8 y y.C.Secs 0 ++ m_h y y.C.Xs 0 ++ p_0 y.Trs
end
end Go.Fw
namespace Go.Proofs.YtaklhjodjbgmgaaGreat
open Go.Fw Go.Proofs Go.RowKit
open Go.Proofs.Tryz (prog)
section
variable {σ σ0:Store}
theorem r_1 {σ0 s s':Store}{el:TypeId}{d:D}{rs:List (List D)}{id:Nat}(h:Own prog σ0 s el d rs)(hid:σ0 id= .free)(hd:h_c d≠some id)(hs:∀i,i≠id->s' i=s i) :Own prog σ0 s' el d rs:=
 ⟨h.at_.same fun i a n e=>hs i fun e2=>hd (by subst e;rw[<-e2];rfl),fun i hi=>by
   have hne:i≠id:=fun e=>hi (by rw[e];exact hid)
   rw[hs i hne];exact h.ext i hi,h.new,h.nsl,h.nz⟩
theorem a_iv {s s':Store}{i:Nat}(he:Ext σ0 s)(hf:σ0 i= .free)(hs:∀j,j≠i->s' j=s j) :Ext σ0 s':=fun j hj=>by
 have hne:j≠i:=fun e=>hj (by rw[e];exact hf)
 rw[hs j hne];exact he j hj
theorem e_t {s s':Store}{id:Nat}{t:TypeId}{rows:List (List D)}(h:s id= .live t rows)(he:Ext s s') :s' id= .live t rows:=(he id (by rw[h];intro e;cases e)).trans h
theorem a_0d {P:Program}{s:Store}{el:TypeId}{rows:List (List D)}(hsz:rows.length < 2 ^ 60) :At P s el (.sl (P.cellsOf el) rows) rows:=⟨⟨rfl, .inr rfl⟩,hsz,fun es rows e=>by injection e with e1 e2;rw[<-e1]⟩
theorem a_kw {t:TypeId}{bytes:Nat}{d:D}{rows:List (List D)}{K:D->Store->Prop}(h:At prog σ t d rows)(hb:bytes * rows.length<=140737488355328)
   (hK:∀d' s,Own prog σ s t d' rows->K d' s) :Fw.newObj σ (.live t []) fun id σ'=>a_j prog σ' t bytes (.osl id 0 0) d K:=by
 refine a_f fun id s hid _ he hs=>?_
 have ho:Own prog σ s t (.osl id 0 0) []:= .at_new hid he hs (by simp) rfl
 exact ho.append (h.ext he) (by simpa using hb) (by have:=h.size;simpa using this) fun d' s' ho' _ _=>hK _ _ (by simpa using ho')
theorem a_te {f:FuncId}(F:List A->Option RV)(h:∀az r s,F az=some r->Pure prog f az s r) :
   b_7 prog f (fun az _=>∃r,F az=some r) (fun az s r s'=>F az=some r/\s'=s):=by
 refine ⟨?_,?_,?_,?_,?_⟩
 · rintro az s ⟨r,hr⟩
   exact (h az r s hr).mono fun r' s' ⟨e1,e2⟩=>⟨by rw[e1];exact hr,e2⟩
 · rintro az s ⟨r,hr⟩ hf
   exact ⟨r,s,⟨hr,rfl⟩,hf⟩
 · rintro az s r s' ⟨_,rfl⟩ hf;exact hf
 · rintro az s id so h0 hso ⟨r,hr⟩
   refine ⟨⟨r,hr⟩,?_⟩
   rintro r' s' ⟨h1,rfl⟩
   exact ⟨s,⟨h1,rfl⟩,h0,rfl⟩
 · rintro az s r s' _ ⟨_,rfl⟩ i hi
   rfl
end
section
variable {σ σ0:Store}
abbrev pO (id:Nat) :D:= .el (.osl id 0 1) 0 0
theorem a_cx {s:Store}{id:Nat}{t:TypeId}{e:Int}{rest:List D}(h:s id= .live t [iD e::rest])(x:Int) :
   DCalls prog g_k [.one (pO id),iA x] s fun r s'=>r= .tup []/\s' id= .live t [iD (if e=0 then x else e) ::rest]/\∀i,i≠id->s' i=s i:=by
 refine s_3 (pO id) x s _ ⟨trivial,_,_,_,rfl,_,a_d h,e,rfl,bce (fun e0=>⟨trivial,_,_,_,rfl,b_h h (by simp) fun s' hs ho=>⟨rfl,?_,ho⟩⟩) (fun e0=>⟨rfl,by rw[if_neg e0];exact h,fun _ _=>rfl⟩)⟩
 rw[hs,if_pos e0];rfl
theorem p_e {s:Store}{id:Nat}{t:TypeId}{e:Int}{rest:List D}(h:s id= .live t [iD e::rest]) :
   Pure prog c_p [.one (pO id)] s (.a (bA (e == 0))):=
 t_b (pO id) s _ ⟨trivial,_,_,_,rfl,_,a_d h,e,rfl,rfl,rfl⟩
def l_w (s:Store)(id:Nat)(r:Rd) :Prop:=s id= .live c_1 [[iD r.e, .str (ofL r.l)]]
theorem k_d (l:List UInt8) :DCalls prog e_v [.one (.str (ofL l))] σ fun r s=>∃id,r= .a (.one (pO id))/\σ id= .free/\l_w s id ⟨0,l⟩/\Ext σ s/\∀i,i≠id->s i=σ i:=
 a_bn _ σ _ (a_f fun id s hid hset he hs=>⟨id,rfl,hid,hs,he,fun i hi=>by rw[hset,Store.set_ne _ _ hi]⟩)
theorem a_et {s:Store}{id:Nat}{r:Rd}(h:l_w s id r){n:Nat}(hn:n<=2 ^ 20)(hl:r.l.length<=2 ^ 60) :
   DCalls prog h_f [.one (pO id),iA 0,iA n] s fun rr s'=>rr= .a (.one (.str (ofL (if (r.short n).e=0 then r.l.take n else []))))/\
     l_w s' id (if (r.short n).e=0 then ⟨0,r.l.drop n⟩ else r.short n)/\∀i,i≠id->s' i=s i:=by
 have rest : ∀ (s1 : Store) (q : Rd), l_w s1 id q -> (∀ i, i ≠ id -> s1 i = s i) -> q = r.short n -> (q.e = 0 -> n <= q.l.length) ->
     DCalls prog c_p [.one (pO id)] s1 fun r1 s2=>∃b,r1= .a (bA b)/\a_b (!b) (RV.a (.one (.str (ByteArray.mk (List.toArray [])))) = .a (.one (.str (ofL (if (r.short n).e=0 then r.l.take n else []))))/\
       l_w s2 id (if (r.short n).e=0 then ⟨0,r.l.drop n⟩ else r.short n)/\∀i,i≠id->s2 i=s i)
       ((a_u (pO id))/\∃(s3:D) (i2 off2:Nat),(pO id=(.el s3 i2 off2:D))/\∃row1:List D,Row s2 s3 i2 row1/\∃s4:ByteArray,((List.drop (off2+1) row1).take 1=[.str s4])/\((0:Int)<=0)/\((0:Int)<=(w64 (0+ (n:Int))))/\((w64 (0+ (n:Int)))<=(ByteArray.size s4:Int))/\
         (a_u (pO id))/\∃(s5:D) (i3 off3:Nat),(pO id=(.el s5 i3 off3:D))/\∃row2:List D,Row s2 s5 i3 row2/\∃s6:ByteArray,((List.drop (off3+1) row2).take 1=[.str s6])/\((0:Int)<=(w64 (0+ (n:Int))))/\((w64 (0+ (n:Int)))<=(ByteArray.size s6:Int))/\
         (a_u (pO id))/\∃(s7:D) (i4 off4:Nat),(pO id=(.el s7 i4 off4:D))/\a_k [.str (ByteArray.extract s6 (Int.toNat (w64 (0+ (n:Int)))) (ByteArray.size s6))] s2 s7 i4 (off4+1) fun s'=>
           (RV.a (.one (.str (ByteArray.extract s4 (Int.toNat 0) (Int.toNat (w64 (0+ (n:Int))))))) = .a (.one (.str (ofL (if (r.short n).e=0 then r.l.take n else []))))/\
           l_w s' id (if (r.short n).e=0 then ⟨0,r.l.drop n⟩ else r.short n)/\∀i,i≠id->s' i=s i)):=by
   intro s1 q hq ho hqe hql
   refine (p_e hq).use ⟨_,rfl,a_0 (fun e=>?_) (fun e=>?_)⟩
   · have hne:(r.short n).e≠0:=by rw[<-hqe];simpa using e
     rw[if_neg hne,if_neg hne,<-hqe]
     exact ⟨rfl,hq,ho⟩
   · have he:q.e=0:=by simpa using e
     have hlq:=hql he
     have hqr:q.l=r.l:=by rw[hqe,Rd.short_l]
     have hw:w64 (0+ (n:Int)) =n:=by rw[a_r (by omega) (by omega)];omega
     rw[hw,if_pos (by rw[<-hqe];exact he),if_pos (by rw[<-hqe];exact he)]
     refine ⟨trivial,_,_,_,rfl,_,a_d hq,ofL q.l,rfl,by omega,by omega,by rw[a_9];omega,trivial,_,_,_,rfl,_,a_d hq,ofL q.l,rfl,by omega,by rw[a_9];omega,trivial,_,_,_,rfl,b_h hq (by simp) fun s' hs' ho'=>⟨?_,?_,fun i hi=>(ho' i hi).trans (ho i hi)⟩⟩
     · rw[zF,d_7,hqr];rfl
     · unfold l_w
       rw[hs',zF,a_9,d_7,zT,hqr,he]
       rfl
 refine v_j (pO id) 0 n s _ ⟨trivial,_,_,_,rfl,_,a_d h,ofL r.l,rfl,?_⟩
 rw[a_9,a_r (by omega) (by omega)]
 refine bcd (fun hg=>?_) (fun hg=>?_)
 · simp only[gt_iff_lt] at hg
   have hsh:r.short n=⟨if r.e=0 then 1 else r.e,r.l⟩:=by
     unfold Rd.short
     rw[if_pos (by omega)]
     split <;> rfl
   refine ⟨trivial,_,_,_,rfl,(a_cx (e:=r.e) (rest:= [.str (ofL r.l)]) h 1).mono ?_⟩
   rintro r1 s1 ⟨rfl,hs1,ho1⟩
   refine ⟨rfl,trivial,_,_,_,rfl,rest s1 ⟨if r.e=0 then 1 else r.e,r.l⟩ hs1 ho1 hsh.symm fun e=>?_⟩
   simp only at e
   split at e
   · cases e
   · rename_i hc;exact absurd e hc
 · simp only[gt_iff_lt] at hg
   have hsh:r.short n=r:=by unfold Rd.short;rw[if_neg (by omega)]
   exact ⟨trivial,_,_,_,rfl,rest s r h (fun _ _=>rfl) hsh.symm fun _=>by omega⟩
theorem j_z {s:Store}{id:Nat}{r:Rd}(h:l_w s id r){n:Nat}(hn:n<=4)(hl:r.l.length<=2 ^ 60) :
   DCalls prog d_d [.one (pO id),iA n] s fun rr s'=>rr= .a (iA (r.num n).1)/\l_w s' id (r.num n).2/\∀i,i≠id->s' i=s i:=by
 refine s_2 (pO id) n s _ ((a_et h (by omega) hl).mono ?_)
 rintro rr s1 ⟨rfl,h1,ho1⟩
 have hnum:r.num n=(rd (if (r.short n).e=0 then r.l.take n else []),if (r.short n).e=0 then ⟨0,r.l.drop n⟩ else r.short n):=by
   unfold Rd.num
   split
   · rw[Rd.short_l]
   · rfl
 rw[hnum]
 have hll:(if (r.short n).e=0 then r.l.take n else []).length<=4:=by
   split
   · rw[zR];omega
   · simp
 generalize (if (r.short n).e=0 then r.l.take n else []) =l at *
 refine ⟨_,rfl,?_⟩
 rw[o_u]
 have hat:∀s,At prog s c_t (.sl 1 (l.map r_e)) (l.map r_e):=fun s=>⟨⟨rfl, .inr c_uint8.symm⟩,by rw[zB];omega,fun es rows e=>by injection e with e1 e2;rw[<-e1];exact c_uint8.symm⟩
 refine (hat s1).lenK ⟨fun x n2 s2=>s2=s1/\∃j:Nat,n2=j/\j<=l.length/\x=rd (l.take j),fun _ n2 _=>l.length - n2.toNat,⟨rfl,0,rfl,by omega,rfl⟩,?_⟩
 rintro _ _ s2 ⟨rfl,j,rfl,hj,rfl⟩
 rw[zB]
 refine bcd (fun hlt=>?_) (fun hge=>?_)
 · have hlt:j < l.length:=by omega
   obtain ⟨c,hc⟩:=a_c (l:=l) (j:=j) hlt
   refine (hat s2).load (a_g hc) c_uint8 rfl ⟨(c.toNat:Int),rfl,?_⟩
   have hx:=q_t (l.take j) 0 (by omega)
   have h256:(256:Int) ^ (l.take j).length<=256 ^ 4:=by
     have e:∀m:Nat,(256:Int) ^ m=((256 ^ m:Nat) :Int):=fun m=>by simp
     rw[e,e]
     exact Int.ofNat_le.2 (Nat.pow_le_pow_right (by omega) (by rw[zR];omega))
   have hb:rd (l.take j) < 2 ^ 48:=by
     unfold rd
     have:=hx.2
     have h4:(256:Int) ^ 4=4294967296:=by decide
     rw[h4] at h256
     omega
   have hor:=a_xk (x:=rd (l.take j)) (c:=(c.toNat:Int)) hx.1 hb (by omega) (by have:=c.toNat_lt;omega)
   rw[a_i (by omega)]
   refine ⟨⟨rfl,j+1,rfl,hlt,?_⟩,a_v hlt⟩
   rw[hor,zQ,hc,Option.toList_some,rd,rd,a_e9];rfl
 · have e:j=l.length:=by omega
   subst e
   rw[zT]
   exact ⟨rfl,h1,ho1⟩
theorem h_6 {s:Store}{id:Nat}{r:Rd}(h:l_w s id r)(hl:r.l.length<=2 ^ 60) :DCalls prog c_w [.one (pO id)] s fun rr s'=>rr= .a (iA (r.num 1).1)/\l_w s' id (r.num 1).2/\∀i,i≠id->s' i=s i:=
 w_g _ s _ ((j_z h (n:=1) (by omega) hl).mono fun rr s' ⟨h1,h2⟩=>⟨_,h1,rfl,h2⟩)
theorem p_7 {s:Store}{id:Nat}{r:Rd}(h:l_w s id r)(hl:r.l.length<=2 ^ 60) :DCalls prog e_5 [.one (pO id)] s fun rr s'=>rr= .a (iA (r.num 2).1)/\l_w s' id (r.num 2).2/\∀i,i≠id->s' i=s i:=
 v_6 _ s _ ((j_z h (n:=2) (by omega) hl).mono fun rr s' ⟨h1,h2⟩=>⟨_,h1,rfl,h2⟩)
theorem l_l {s:Store}{id:Nat}{r:Rd}(h:l_w s id r)(hl:r.l.length<=2 ^ 60) :DCalls prog d_u [.one (pO id)] s fun rr s'=>rr= .a (iA (r.num 4).1)/\l_w s' id (r.num 4).2/\∀i,i≠id->s' i=s i:=
 w_t _ s _ ((j_z h (n:=4) (by omega) hl).mono fun rr s' ⟨h1,h2⟩=>⟨_,h1,rfl,h2⟩)
theorem a_h9 {s:Store}{id:Nat}{r:Rd}(h:l_w s id r) :Pure prog i_k [.one (pO id)] s (.a (iA (if r.e=0/\r.l≠[] then 3 else r.e))):=by
 refine x_4 (pO id) s _ ⟨trivial,_,_,_,rfl,(p_e (e:=r.e) (rest:= [.str (ofL r.l)]) h).use ⟨_,rfl,bce (fun e=>?_) (fun e=>?_)⟩⟩
 · refine ⟨trivial,_,_,_,rfl,_,a_d h,ofL r.l,rfl,a_0 (fun hs=>?_) (fun hs=>?_)⟩
   · have hne : r.l ≠ [] := fun hl => by
       rw[h_k,h_k,hl] at hs
       cases hs
     rw[if_pos ⟨e,hne⟩]
     exact ⟨rfl,rfl⟩
   · have hl : r.l = [] := by
       have:=eq_of_beq hs
       rw[h_k,h_k] at this
       exact this
     refine ⟨trivial,_,_,_,rfl,_,a_d h,r.e,rfl,?_⟩
     rw[if_neg (fun g=>g.2 hl)];exact ⟨rfl,rfl⟩
 · refine ⟨trivial,_,_,_,rfl,_,a_d h,r.e,rfl,?_⟩
   rw[if_neg (fun g=>e g.1)];exact ⟨rfl,rfl⟩
end
section
variable {σ σ0:Store}
theorem wu32 {n:Int}(h0:0<=n)(h1:n < 4294967296) :IntKind.wrap .u32 n=n:=by
 show n % 4294967296=n
 omega
theorem a_va {r:Nat}(h:r < 4294967296) :
   IntKind.wrap .u32 (BitVec.toNat ((BitVec.ofInt 32 (IntKind.wrap .u32 ((r:Int) * (2 ^ 1)))) ^^^ (BitVec.ofInt 32 (IntKind.wrap .u32 (BitVec.toNat ((BitVec.ofInt 32 79764919) &&& (BitVec.ofInt 32 (IntKind.wrap .u32 (0 - (Int.fdiv r (2 ^ 31)))))) :Int)))) :Int) =(k_3 r:Nat):=by
 have hfd:Int.fdiv (r:Int) (2 ^ 31) =((r / 2147483648:Nat) :Int):=by
   rw[Int.fdiv_eq_ediv_of_nonneg _ (by decide)]
   simp
 have hlt:=a_a5 h
 rw[hfd]
 unfold k_3 at hlt ⊢
 by_cases hb:2147483648<=r
 · rw[if_pos hb] at hlt ⊢
   have e1:r / 2147483648=1:=by omega
   have e2:IntKind.wrap .u32 ((r:Int) * 2 ^ 1) =((2 * r - 4294967296:Nat) :Int):=by
     show ((r:Int) * 2 ^ 1) % 4294967296=_
     omega
   have e3:IntKind.wrap .u32 (0 - ((1:Nat) :Int)) =((4294967295:Nat) :Int):=by decide
   rw[e1,e2,e3]
   have e4:((BitVec.ofInt 32 79764919) &&& (BitVec.ofInt 32 ((4294967295:Nat) :Int))).toNat=79764919:=by decide
   rw[e4]
   have e5:IntKind.wrap .u32 ((79764919:Nat) :Int) =((79764919:Nat) :Int):=by decide
   rw[e5,BitVec.ofInt_natCast,BitVec.ofInt_natCast,BitVec.toNat_xor,BitVec.toNat_ofNat,BitVec.toNat_ofNat,Nat.mod_eq_of_lt (by omega),Nat.mod_eq_of_lt (by omega)]
   exact wu32 (by omega) (by omega)
 · rw[if_neg hb] at hlt ⊢
   have e1:r / 2147483648=0:=by omega
   have e2:IntKind.wrap .u32 ((r:Int) * 2 ^ 1) =((2 * r:Nat) :Int):=by
     show ((r:Int) * 2 ^ 1) % 4294967296=_
     omega
   have e3:IntKind.wrap .u32 (0 - ((0:Nat) :Int)) =((0:Nat) :Int):=by decide
   rw[e1,e2,e3]
   have e4:((BitVec.ofInt 32 79764919) &&& (BitVec.ofInt 32 ((0:Nat) :Int))).toNat=0:=by decide
   rw[e4]
   have e5:IntKind.wrap .u32 ((0:Nat) :Int) =((0:Nat) :Int):=by decide
   rw[e5,BitVec.ofInt_natCast,BitVec.ofInt_natCast,BitVec.toNat_xor,BitVec.toNat_ofNat,BitVec.toNat_ofNat,Nat.mod_eq_of_lt (by omega),Nat.mod_eq_of_lt (by omega),Nat.xor_zero]
   exact wu32 (by omega) (by omega)
theorem a_ti {r:Nat}(h:r < 4294967296)(b:UInt8) :
   IntKind.wrap .u32 (BitVec.toNat ((BitVec.ofInt 32 (r:Int)) ^^^ (BitVec.ofInt 32 (IntKind.wrap .u32 ((IntKind.wrap .u32 (b.toNat:Int)) * (2 ^ 24))))) :Int) =((r ^^^ (b.toNat * 16777216) :Nat) :Int):=by
 have hb:=b.toNat_lt
 have hx:=n_j h (show b.toNat * 16777216 < 4294967296 by omega)
 have e1:IntKind.wrap .u32 ((IntKind.wrap .u32 (b.toNat:Int)) * (2 ^ 24)) =((b.toNat * 16777216:Nat) :Int):=by
   rw[wu32 (n:=(b.toNat:Int)) (by omega) (by omega)]
   rw[wu32 (by omega) (by omega)]
   omega
 rw[e1,BitVec.ofInt_natCast,BitVec.ofInt_natCast,BitVec.toNat_xor,BitVec.toNat_ofNat,BitVec.toNat_ofNat,Nat.mod_eq_of_lt (by omega),Nat.mod_eq_of_lt (by omega)]
 exact wu32 (by omega) (by omega)
def encS (b:List UInt8) :List D:= [.str (ofL b)]
theorem a_jo {r:Nat}{l:List UInt8}{m:Nat}{b:UInt8}(h:l[m]? =some b) :m_m r (l.take (m+1)) =crcU (m_m r (l.take m)) b:=by
 rw[zQ,h,Option.toList_some,a_by,a_ir,a_ur]
theorem a_ua {l:List (List UInt8)}{m:Nat}{b:List UInt8}(h:l[m]? =some b) :(l.take (m+1)).flatten=(l.take m).flatten ++ b:=by
 rw[zQ,h,Option.toList_some,List.flatten_append];simp
theorem a_af (r q:Nat) :p_8 (q+1) r=k_3 (p_8 q r):=by rw[a_v8 q 1,a_i2,a_tg]
theorem a_n1 {d:D}{l:List (List UInt8)}(h:At prog σ q_v d (l.map encS))(hl:∀b ∈ l,b.length < 2 ^ 60) :Pure prog l_m [.one d] σ (.a (iA (crc l.flatten))):=by
 have hls:=h.size
 rw[zB] at hls
 refine a_q5 d σ _ (h.lenK ⟨fun n n1 s=>s=σ/\∃j:Nat,n1=j/\j<=l.length/\n=(m_m 4294967295 (l.take j).flatten:Nat),fun _ n1 _=>l.length - n1.toNat,⟨rfl,0,rfl,by omega,rfl⟩,?_⟩)
 rintro _ _ s ⟨rfl,j,rfl,hj,rfl⟩
 rw[zB]
 refine bcd (fun hlt=>?_) (fun hge=>?_)
 rotate_left
 · have e:j=l.length:=by omega
   subst e
   rw[zT]
   have:=x_u l.flatten (r:=4294967295) (by omega)
   rw[a_r (by omega) (by omega)]
   exact ⟨rfl,rfl⟩
 have hlt:j < l.length:=by omega
 obtain ⟨b,hb⟩:=a_c (l:=l) (j:=j) hlt
 have hbl:=hl b (zC hb)
 refine h.load (a_g hb) a_u1 rfl ⟨ofL b,rfl,?_⟩
 rw[a_9]
 generalize hr0:m_m 4294967295 (l.take j).flatten=r0
 have hr0l:r0 < 4294967296:=by rw[<-hr0];exact x_u _ (by omega)
 refine ⟨fun n2 n3 s'=>s'=s/\∃m:Nat,n3=m/\m<=b.length/\n2=(m_m r0 (b.take m) :Nat),fun _ n3 _=>b.length - n3.toNat,⟨rfl,0,rfl,by omega,rfl⟩,?_⟩
 rintro _ _ s' ⟨rfl,m,rfl,hm,rfl⟩
 refine bcd (fun hlt2=>?_) (fun hge=>?_)
 rotate_left
 · have e:m=b.length:=by omega
   subst e
   rw[zT,a_i (by omega)]
   refine ⟨⟨rfl,j+1,rfl,by omega,?_⟩,a_v hlt⟩
   rw[a_ua hb,a_by,hr0]
 have hlt2:m < b.length:=by omega
 obtain ⟨c,hc⟩:=a_c (l:=b) (j:=m) hlt2
 refine ⟨c.toNat,⟨by omega,c,by rw[zF];exact hc,rfl⟩,?_⟩
 have hr1:=x_u (b.take m) hr0l
 rw[a_ti hr1]
 have hx:=n_j hr1 (show c.toNat * 16777216 < 4294967296 by have:=c.toNat_lt;omega)
 refine ⟨fun n5 n6 s=>s=s'/\∃q:Nat,n6=q/\q<=8/\n5=(p_8 q (m_m r0 (b.take m) ^^^ (c.toNat * 16777216)) :Nat),fun _ n6 _=>8 - n6.toNat,⟨rfl,0,rfl,by omega,rfl⟩,?_⟩
 rintro _ _ s ⟨rfl,q,rfl,hq,rfl⟩
 refine bcd (fun hlt3=>?_) (fun hge=>?_)
 · have hlt3:q < 8:=by omega
   rw[a_i (by omega)]
   have hN:=a_lz q hx
   refine ⟨⟨rfl,q+1,rfl,by omega,?_⟩,by show 8 - ((q+1:Nat) :Int).toNat < 8 - ((q:Nat) :Int).toNat;omega⟩
   rw[a_va hN,a_af]
 · have e:q=8:=by omega
   subst e
   rw[a_i (by omega)]
   refine ⟨⟨rfl,m+1,rfl,by omega,?_⟩,a_v hlt2⟩
   rw[a_jo hc,crcU]
theorem a_ui (l:List UInt8) :Flat (.str (ofL l)):= .str _
theorem fl_i (n:Int) :Flat (iD n):= .int _ _
theorem j_b {r:List UInt8}{n:Nat}(h:n<=r.length) :(⟨0,r⟩ :Rd).num n=(rd (r.take n),⟨0,r.drop n⟩):=by
 have hs:(⟨0,r⟩ :Rd).short n=⟨0,r⟩:=by unfold Rd.short;rw[if_neg (by show ¬r.length < n;omega)]
 unfold Rd.num
 rw[hs];rfl
theorem a_bv {t:List UInt8}(ht:t.length<=2 ^ 60) :Pure prog o_g [.one (.str (ofL t))] σ (.tup [iA (e_j t).1,iA (e_j t).2]):=by
 refine Pure.of (a_r5 (ofL t) σ _ ?_) (.tup [iD (e_j t).1,iD (e_j t).2] (by simp[fl_i]))
 unfold a_fk e_j
 rw[a_9]
 refine bcd (fun h1=>?_) (fun h1=>?_)
 · rw[if_pos (by omega)];exact ⟨rfl, .refl _⟩
 rw[if_neg (by omega)]
 refine (k_d t).mono ?_
 rintro r s ⟨id,rfl,hid,hr,he,ho⟩
 refine ⟨_,rfl,(p_7 hr ht).mono ?_⟩
 rintro r s1 ⟨rfl,hr1,ho1⟩
 rw[j_b (by omega)]
 have he1:Ext σ s1:=fun i hi=>by
   have hne:i≠id:=fun e=>hi (by rw[e];exact hid)
   rw[ho1 i hne];exact he i hi
 have hb:=q_t (t.take 2) 0 (by omega)
 have hbb:rd (t.take 2) < 65536:=by
   have e:(t.take 2).length=2:=by rw[zR];omega
   have:=hb.2
   rw[e] at this
   unfold rd
   omega
 have hb0:0<=rd (t.take 2):=hb.1
 refine ⟨_,rfl,?_⟩
 have hw:w64 (rd (t.take 2) +6) =rd (t.take 2) +6:=a_r (by omega) (by omega)
 rw[hw]
 refine bcd (fun h2=>?_) (fun h2=>bcd (fun h3=>?_) (fun h3=>?_))
 · rw[if_pos h2];exact ⟨rfl,he1⟩
 · rw[if_neg h2,if_pos h3];exact ⟨rfl,he1⟩
 · rw[if_neg h2,if_neg h3];exact ⟨rfl,he1⟩
theorem a_s0 {t:List UInt8}(h:(e_j t).2=0) :6<=(e_j t).1/\(e_j t).1<=1030/\(e_j t).1<=t.length:=by
 have hb:=q_t (t.take 2) 0 (by omega)
 have hb0:0<=rd (t.take 2):=hb.1
 unfold e_j at h ⊢
 split at h
 · cases h
 split at h
 · cases h
 split at h
 · cases h
 rename_i h1 h2 h3
 rw[if_neg h1,if_neg h2,if_neg h3]
 refine ⟨by show 6<=rd (t.take 2) +6;omega,by show rd (t.take 2) +6<=1030;omega,by show rd (t.take 2) +6<=t.length;omega⟩
def a_yv (az:List A)(s:Store) :Prop:=∃l,az=[.one (.str (ofL l))]
def a_u3 (az:List A)(s:Store)(r:RV)(s':Store) :Prop:=∃l id,az=[.one (.str (ofL l))]/\s id= .free/\r= .a (.one (pO id))/\s'=s.set id (.live c_1 [[iD 0, .str (ofL l)]])
theorem a_sb {a b:List UInt8}(h:ofL a=ofL b) :a=b:=by
 have:=congrArg (fun x:ByteArray=>x.data.toList) h
 exact this
theorem a_tk:b_7 prog e_v a_yv a_u3:=by
 refine ⟨?_,?_,?_,?_,?_⟩
 · rintro az s ⟨l,rfl⟩
   refine a_bn _ s _ (a_f fun id s' hid hset he hs=>⟨l,id,rfl,hid,rfl,hset⟩)
 · rintro az s ⟨l,rfl⟩ ⟨N,hN⟩
   exact ⟨_,_,⟨l,N,rfl,hN N (Nat.le_refl _),rfl,rfl⟩,Fin.set' ⟨N,hN⟩ _ _⟩
 · rintro az s r s' ⟨l,id,rfl,h3,rfl,rfl⟩ hf
   exact hf.set' _ _
 · rintro az s id so hid hso ⟨l,rfl⟩
   refine ⟨⟨l,rfl⟩,?_⟩
   rintro r s' ⟨l',id',e1,g3,rfl,rfl⟩
   have hne:id'≠id:=fun e=>by subst e;rw[Store.set_same] at g3;exact hso g3
   rw[Store.set_ne _ _ hne] at g3
   injection e1 with e1 _
   injection e1 with e1
   injection e1 with e1
   have:=a_sb e1
   subst this
   refine ⟨_,⟨l,id',rfl,g3,rfl,rfl⟩,?_,a_mz (Ne.symm hne) _ _⟩
   rw[Store.set_ne _ _ (Ne.symm hne)];exact hid
 · rintro az s r s' _ ⟨l,id,rfl,h3,rfl,rfl⟩ i hi
   exact Store.set_ne _ _ (fun e=>hi (e ▸ h3))
theorem a_ks {t:List UInt8}(ht:t.length<=2 ^ 59) :Pure prog q_9 [.one (.str (ofL t)),iA 0] σ (.tup [.one (.str (ofL (d_k t).1)),iA (d_k t).2.1,iA (d_k t).2.2]):=by
 refine Pure.of (a_oj (ofL t) 0 σ _ ?_) (.tup [.str (ofL (d_k t).1),iD (d_k t).2.1,iD (d_k t).2.2] (by simp[fl_i,a_ui]))
 intro R hR
 have go:R σ:=by
   refine hR _ ?_
   rw[a_9]
   refine ⟨by omega,by omega,?_⟩
   have e0:(ofL t).extract (Int.toNat 0) t.length=ofL t:=by rw[d_7,zT];rfl
   rw[e0]
   refine (a_bv (by omega)).use ⟨_,_,rfl,?_⟩
   unfold d_k
   refine bcn (fun h1=>?_) (fun h1=>?_)
   · rw[if_pos h1];exact ⟨rfl, .refl _⟩
   have hn:=a_s0 h1
   rw[if_neg (by rw[h1];simp)]
   obtain ⟨k,hk⟩ :∃k:Nat,(e_j t).1=((k+6:Nat) :Int):=⟨(e_j t).1.toNat - 6,by omega⟩
   rw[hk] at hn ⊢
   have hw0:w64 (0+ ((k+6:Nat) :Int)) =((k+6:Nat) :Int):=by rw[a_r (by omega) (by omega)];omega
   have hw1:w64 (((k+6:Nat) :Int) - 4) =((k+2:Nat) :Int):=by rw[a_r (by omega) (by omega)];omega
   rw[hw0,hw1]
   simp only[zF,Int.toNat_zero,d_7,a_9,List.drop_zero]
   have l1:(t.take (k+6)).length=k+6:=by rw[zR];omega
   have e1:k+6 - 4=k+2:=by omega
   have e2:((t.take (k+6)).take (k+2)) =t.take (k+2):=by rw[List.take_take];congr 1;omega
   have e3:((t.take (k+6)).take (k+6)).drop (k+2) =(t.take (k+6)).drop (k+2):=by rw[List.take_take];congr 2;omega
   rw[l1,e1,e2,e3]
   have l2:((t.take (k+6)).drop (k+2)).length=4:=by rw[List.length_drop,l1];omega
   refine ⟨by omega,by omega,by omega,?_⟩
   intro R1 hR1
   have fin:∀s,Ext σ s->R1 (rd ((t.take (k+6)).drop (k+2)) !=(crc (t.take (k+2)) :Int)) s:=fun s he=>by
     refine hR1 _ _ (bcn (fun h2=>?_) (fun h2=>⟨by omega,by omega,by omega,?_⟩))
     · rw[if_pos h2];exact ⟨rfl,he⟩
     · rw[if_neg (by simpa using h2)];exact ⟨rfl,he⟩
   have hsum:∀{s:Store} {id:Nat},s id= .live q_v [[.str (ofL (t.take (k+2)))]]->Pure prog l_m [.one (.osl id 0 1)] s (.a (iA (crc (t.take (k+2))))):=fun {s id} hs=>by
     have h:=a_n1 (σ:=s) (d:= .osl id 0 1) (l:= [t.take (k+2)]) (At.fresh hs (by simp) rfl) (by intro b hb;simp at hb;rw[hb,zR];omega)
     simpa using h
   have hnum:(⟨0,(t.take (k+6)).drop (k+2)⟩ :Rd).num 4=(rd ((t.take (k+6)).drop (k+2)),⟨0,((t.take (k+6)).drop (k+2)).drop 4⟩):=by
     rw[j_b (by omega),List.take_of_length_le (by omega)]
   refine ⟨⟨by omega,by omega,by omega,by omega,by omega,?_⟩,a_yv,a_u3,a_tk,by omega,by omega,by omega,by omega,by omega,⟨_,rfl⟩,?_⟩
   · refine (k_d _).mono ?_
     rintro r s ⟨id,rfl,hid,hr,he,ho⟩
     refine ⟨_,rfl,(l_l hr (by rw[l2];omega)).mono ?_⟩
     rintro r s1 ⟨rfl,hr1,ho1⟩
     rw[hnum]
     have he1:Ext σ s1:=fun i hi=>by
       have hne:i≠id:=fun e=>hi (by rw[e];exact hid)
       rw[ho1 i hne];exact he i hi
     exact ⟨_,rfl,a_f fun id2 s2 _ _ he2 hs2=>(hsum hs2).use ⟨_,rfl,fin s2 (he1.trans he2)⟩⟩
   · rintro r s ⟨l',id,e,hid,rfl,rfl⟩
     injection e with e _
     injection e with e
     injection e with e
     have:=a_sb e
     subst this
     have hr:l_w (σ.set id (.live c_1 [[iD 0, .str (ofL ((t.take (k+6)).drop (k+2)))]])) id ⟨0,(t.take (k+6)).drop (k+2)⟩:=Store.set_same _ _ _
     have he:Ext σ (σ.set id (.live c_1 [[iD 0, .str (ofL ((t.take (k+6)).drop (k+2)))]])):=Ext.new hid _
     refine ⟨_,rfl,a_f fun id2 s2 hid2 _ he2 hs2=>?_⟩
     have hne:id≠id2:=fun e=>by rw[<-e,hr] at hid2;cases hid2
     have hr2:l_w s2 id ⟨0,(t.take (k+6)).drop (k+2)⟩:=by unfold l_w;rw[he2 id (by rw[hr];intro e;cases e)];exact hr
     refine (l_l hr2 (by rw[l2];omega)).mono ?_
     rintro r s3 ⟨rfl,hr3,ho3⟩
     rw[hnum]
     have he3:Ext σ s3:=fun i hi=>by
       have hne:i≠id:=fun e=>hi (by rw[e];exact hid)
       rw[ho3 i hne];exact (he.trans he2) i hi
     exact ⟨_,rfl,(hsum (by rw[ho3 id2 (Ne.symm hne)];exact hs2)).use ⟨_,rfl,fin s3 he3⟩⟩
 refine bcd (fun h=>absurd h (by omega)) (fun _=>bcd (fun h=>?_) (fun _=>go))
 rw[a_9] at h;omega
theorem a_mm {t:List UInt8}(ht:t.length<=2 ^ 59) :Pure prog q_h [.one (.str (ofL t))] σ (.tup [.one (.str (ofL (e_w t).1)),iA (e_w t).2]):=by
 refine a_ok (ofL t) σ _ ((a_bv (by omega)).use ⟨_,_,rfl,?_⟩)
 unfold e_w
 rw[a_9]
 refine bcn (fun h1=>?_) (fun h1=>bcd (fun h2=>?_) (fun h2=>?_))
 · rw[if_pos h1];exact ⟨rfl,rfl⟩
 · rw[if_neg (by rw[h1];simp),if_pos h2];exact ⟨rfl,rfl⟩
 · rw[if_neg (by rw[h1];simp),if_neg h2]
   exact (a_ks ht).use ⟨_,_,_,rfl,rfl,rfl⟩
theorem a_ve (t:List UInt8) :(d_k t).1.length<=t.length:=by
 unfold d_k
 split
 · simp
 split
 · simp
 · simp;omega
theorem a_p7 (t:List UInt8) :(e_w t).1.length<=t.length:=by
 unfold e_w
 split
 · simp
 split
 · simp
 · exact a_ve t
theorem a_lt {t:List UInt8}(ht:t.length<=2 ^ 59) :Pure prog r_c [.one (.str (ofL t))] σ (.tup [iA (a_2 t).p,iA (a_2 t).n,iA (a_2 t).s, .one (.str (ofL (a_2 t).b)),iA (a_2 t).e]):=by
 refine Pure.of (a_m9 (ofL t) σ _ ((a_mm ht).use ⟨_,_,rfl,?_⟩)) (.tup [iD (a_2 t).p,iD (a_2 t).n,iD (a_2 t).s, .str (ofL (a_2 t).b),iD (a_2 t).e] (by simp[fl_i,a_ui]))
 have hol:=a_p7 t
 unfold a_2
 rw[a_9]
 refine bcn (fun h1=>?_) (fun h1=>bcd (fun h2=>?_) (fun h2=>bcd (fun h3=>?_) (fun h3=>?_)))
 · rw[if_pos h1];exact ⟨rfl, .refl _⟩
 · rw[if_neg (by rw[h1];simp),if_pos (by omega)];exact ⟨rfl, .refl _⟩
 · rw[if_neg (by rw[h1];simp),if_neg (by omega),if_pos (by omega)];exact ⟨rfl, .refl _⟩
 rw[if_neg (by rw[h1];simp),if_neg (by omega),if_neg (by omega)]
 generalize (e_w t).1=b at *
 refine (k_d b).mono ?_
 rintro r s ⟨id,rfl,hid,hr,he,ho⟩
 have ex:∀{s s':Store},Ext σ s->(∀i,i≠id->s' i=s i)->Ext σ s':=fun {s s'} he ho i hi=>by
   have hne:i≠id:=fun e=>hi (by rw[e];exact hid)
   rw[ho i hne];exact he i hi
 refine ⟨_,rfl,by omega,by omega,(h_6 hr (by show b.length<=2 ^ 60;omega)).mono ?_⟩
 rintro r s1 ⟨rfl,hr1,ho1⟩
 have n1:(⟨0,b⟩ :Rd).num 1=(rd (b.take 1),⟨0,b.drop 1⟩):=j_b (by omega)
 rw[n1] at hr1 ⊢
 refine ⟨_,rfl,(p_7 hr1 (by show (b.drop 1).length<=2 ^ 60;simp;omega)).mono ?_⟩
 rintro r s2 ⟨rfl,hr2,ho2⟩
 have n2:(⟨0,b.drop 1⟩ :Rd).num 2=(rd ((b.drop 1).take 2),⟨0,(b.drop 1).drop 2⟩):=j_b (by simp;omega)
 rw[n2] at hr2 ⊢
 refine ⟨_,rfl,(l_l hr2 (by show ((b.drop 1).drop 2).length<=2 ^ 60;simp;omega)).mono ?_⟩
 rintro r s3 ⟨rfl,hr3,ho3⟩
 have n3:(⟨0,(b.drop 1).drop 2⟩ :Rd).num 4=(rd (((b.drop 1).drop 2).take 4),⟨0,((b.drop 1).drop 2).drop 4⟩):=j_b (by simp;omega)
 rw[n3]
 refine ⟨_,rfl,?_,ex (ex (ex he ho1) ho2) ho3⟩
 rw[d_7,zT,List.drop_drop]
/-! ### numbers of telegrams -/
end
section
variable {σ σ0:Store}
def gapI (a b:Int) :Int:=w64 (IntKind.wrap .i16 (IntKind.wrap .u16 (IntKind.wrap .u16 b - IntKind.wrap .u16 a)))
theorem a_jd (a b:Int) :Pure prog n_u [iA a,iA b] σ (.a (iA (gapI a b))):=a_th a b σ _ ⟨rfl,rfl⟩
theorem z_i (a b:Int) :Pure prog m_f [iA a,iA b] σ (.a (bA (decide (gapI a b > 0)))):=a_ns a b σ _ ((a_jd a b).use ⟨_,rfl,rfl,rfl⟩)
def gapF (az:List A) :Option RV:=
 match az with
 | [.one (.int .i64 a), .one (.int .i64 b)]=>some (.a (iA (gapI a b)))
 | _=>none
theorem a_vp:b_7 prog n_u (fun az _=>∃r,gapF az=some r) (fun az s r s'=>gapF az=some r/\s'=s):=a_te gapF fun az r s h=>by
 unfold gapF at h
 split at h
 · injection h with h;subst h;exact a_jd _ _
 · cases h
def Keep (id:Nat)(s s':Store) :Prop:=∀i,i≠id->s i≠ .free->s' i=s i
theorem Keep.refl (id:Nat)(s:Store) :Keep id s s:=fun _ _ _=>rfl
theorem Keep.of {id:Nat}{s s':Store}(h:∀i,i≠id->s' i=s i) :Keep id s s':=fun i hi _=>h i hi
theorem Keep.trans {id:Nat}{s s' s'':Store}(h:Keep id s s')(h':Keep id s' s'') :Keep id s s'':=fun i hi hf=>by
 have e:=h i hi hf
 rw[h' i hi (by rw[e];exact hf),e]
theorem Keep.ext {id:Nat}{s s':Store}(h:Ext s s') :Keep id s s':=fun i _ hf=>h i hf
theorem a_cr {s:Store}{id:Nat}{a b:Int}(h:s id= .live n_f [[iD a,iD b]])(n:Int) :
   DCalls prog k_2 [.one (pO id),iA n] s fun r s'=>r= .tup []/\(∃a' b',s' id= .live n_f [[iD a',iD b']])/\∀i,i≠id->s' i=s i:=by
 refine a_gj (pO id) n s _ ⟨trivial,_,_,_,rfl,_,a_d h,a,rfl,(z_i a n).use ⟨_,rfl,bc (fun _=>?_) (fun _=>⟨rfl,⟨a,b,h⟩,fun _ _=>rfl⟩)⟩⟩
 refine ⟨_,_,a_vp,trivial,_,_,_,rfl,_,a_d h,b,rfl,trivial,_,_,_,rfl,_,a_d h,a,rfl,⟨_,rfl⟩,?_⟩
 rintro r s3 ⟨hr,rfl⟩
 injection hr with hr;subst hr
 refine ⟨_,rfl,trivial,_,_,_,rfl,b_h h (by simp) fun s4 hs4 ho4=>⟨trivial,_,_,_,rfl,b_h hs4 (by simp[patch]) fun s5 hs5 ho5=>⟨rfl,⟨n,_,hs5⟩,fun i hi=>(ho5 i hi).trans (ho4 i hi)⟩⟩⟩
theorem a_pm {d:D}{l:List Int}(h:At prog σ a_e d (l.map Go.Fw.encI)) :DCalls prog k_4 [.one d] σ fun r s=>s=σ/\∃n,r= .a (iA n):=by
 have hl:=h.size
 rw[zB] at hl
 have key:DCalls prog k_4 [.one d] σ fun r s=>Ext σ s/\∃n,r= .a (iA n):=by
   refine a_qz d σ _ (h.lenK ?_)
   rw[zB]
   refine bce (fun _=>⟨.refl _,_,rfl⟩) (fun hne=>?_)
   obtain ⟨x,hx⟩:=a_c (l:=l) (j:=0) (by omega)
   refine h.load (j:=0) (a_g hx) c_int rfl ⟨x,rfl,a_f fun id s1 hid hset he hs1=>b_h hs1 (by simp) fun s2 hs2 ho2=>?_⟩
   have ex:∀{s s':Store},Ext σ s->(∀i,i≠id->s' i=s i)->Ext σ s':=fun {s s'} he ho i hi=>by
     have hne:i≠id:=fun e=>hi (by rw[e];exact hid)
     rw[ho i hne];exact he i hi
   have he2:=ex he ho2
   refine (h.ext he2).sliceFromK (lo:=1) c_int rfl (by rw[zB];omega) ?_
   have hsub:At prog s2 a_e (h_u d 1 (l.map Go.Fw.encI).length) (((l.map Go.Fw.encI).drop 1).take ((l.map Go.Fw.encI).length - 1)):=(h.ext he2).sub (by rw[zB];omega) (Nat.le_refl _)
   have hsub:At prog s2 a_e (h_u d 1 (l.map Go.Fw.encI).length) ((l.drop 1).map Go.Fw.encI):=by
     rw[List.take_of_length_le (by simp)] at hsub
     rwa [List.map_drop]
   generalize h_u d 1 (l.map Go.Fw.encI).length=d1 at hsub ⊢
   have hl2:(l.drop 1).length < 2 ^ 60:=by simp;omega
   generalize l.drop 1=l1 at hsub hl2
   refine hsub.lenK ⟨fun n s=>∃j:Nat,n=j/\j<=l1.length/\Ext σ s/\(∃a b,s id= .live n_f [[iD a,iD b]])/\∀i,i≠id->s i=s2 i,fun n _=>l1.length - n.toNat,⟨0,rfl,by omega,he2,⟨_,_,hs2⟩,fun _ _=>rfl⟩,?_⟩
   rintro _ s ⟨j,rfl,hj,hes,⟨a,b,hab⟩,hos⟩
   rw[zB]
   refine bcd (fun hlt=>?_) (fun _=>⟨_,a_d hab,b,rfl,hes,_,rfl⟩)
   have hlt:j < l1.length:=by omega
   obtain ⟨y,hy⟩:=a_c (l:=l1) (j:=j) hlt
   have hne:h_c d1≠some id:=fun e=>by
     cases d1 with
     | osl i a n=>
       have:i=id:=by simpa[h_c] using e
       subst this
       obtain ⟨t,rows,g1,g2,_⟩:=hsub.rows
       rw[hs2] at g1
       injection g1 with g1 _
       rw[<-g1,a_ue,c_int] at g2
       cases g2
     | _=>simp[h_c] at e
   have hsubs:At prog s a_e d1 (l1.map Go.Fw.encI):=hsub.same fun i a n e=>hos i fun e2=>hne (by rw[e,e2];rfl)
   refine hsubs.load (a_g hy) c_int rfl ⟨y,rfl,(a_cr hab y).mono ?_⟩
   rintro r s3 ⟨rfl,⟨a',b',h3⟩,ho3⟩
   rw[a_i (by omega)]
   exact ⟨rfl,⟨j+1,rfl,hlt,ex hes ho3,⟨a',b',h3⟩,fun i hi=>(ho3 i hi).trans (hos i hi)⟩,a_v hlt⟩
 exact key.ret fun r s ⟨he,n,e⟩=>by subst e;exact ⟨_,σ, .pure he (a_uy n).fz,rfl,n,rfl⟩
def a_sv (az:List A)(s:Store) :Prop:=∃(d:D) (l:List Int),az=[.one d]/\At prog s a_e d (l.map Go.Fw.encI)
def a_on (az:List A)(s:Store)(r:RV)(s':Store) :Prop:=s'=s/\∃n,r= .a (iA n)
theorem a_uc:b_7 prog k_4 a_sv a_on:=by
 refine ⟨?_,?_,?_,?_,?_⟩
 · rintro az s ⟨d,l,rfl,h⟩
   exact a_pm h
 · rintro az s _ hf
   exact ⟨.a (iA 0),s,⟨rfl,0,rfl⟩,hf⟩
 · rintro az s r s' ⟨rfl,_⟩ hf;exact hf
 · rintro az s id so h0 hso ⟨d,l,rfl,h⟩
   refine ⟨⟨d,l,rfl,h.ext (Ext.new h0 so)⟩,?_⟩
   rintro r s' ⟨rfl,hr⟩
   exact ⟨s,⟨rfl,hr⟩,h0,rfl⟩
 · rintro az s r s' _ ⟨rfl,_⟩ i hi
   rfl
def RcIn (s:Store)(id:Nat)(r:Rc) :Prop:=∃lost num:Int,s id= .live b_o [[iD r.Last,iD lost,iD num,iD r.Peer,iD r.Age]]
theorem s_s {s:Store}{id:Nat}{r:Rc}(h:RcIn s id r)(number stamp:Int) :
   DCalls prog h_d [.one (pO id),iA number,iA stamp] s fun rr s'=>rr= .tup []/\RcIn s' id { r with Last:=stamp }/\Keep id s s':=by
 obtain ⟨lost,num,h⟩:=h
 refine v_a (pO id) number stamp s _ ?_
 intro R hR
 have go:∀n,R n s:=fun n=>by
   refine hR n s ⟨trivial,_,_,_,rfl,_,a_d h,r.Last,rfl,bcd (fun _=>?_) (fun _=>?_)⟩
   · refine ⟨a_sv,a_on,a_uc,trivial,_,_,_,rfl,_,a_d h,lost,rfl,trivial,_,_,_,rfl,_,a_d h,num,rfl,a_f fun id2 s2 hid2 _ he2 hs2=>⟨⟨_,[num,n],rfl,At.fresh hs2 (by simp) rfl⟩,?_⟩⟩
     rintro rr s3 ⟨rfl,n4,rfl⟩
     have h2:=e_t h he2
     refine ⟨n4,rfl,trivial,_,_,_,rfl,b_h h2 (by simp) fun s4 hs4 ho4=>⟨trivial,_,_,_,rfl,b_h hs4 (by simp[patch]) fun s5 hs5 ho5=>⟨trivial,_,_,_,rfl,b_h hs5 (by simp[patch]) fun s6 hs6 ho6=>⟨rfl,⟨_,_,hs6⟩,((Keep.ext he2).trans (.of ho4)).trans ((Keep.of ho5).trans (.of ho6))⟩⟩⟩⟩
   · exact ⟨trivial,_,_,_,rfl,b_h h (by simp) fun s5 hs5 ho5=>⟨trivial,_,_,_,rfl,b_h hs5 (by simp[patch]) fun s6 hs6 ho6=>⟨rfl,⟨_,_,hs6⟩,(Keep.of ho5).trans (.of ho6)⟩⟩⟩
 refine ⟨trivial,_,_,_,rfl,_,a_d h,r.Last,rfl,bcd (fun _=>⟨trivial,_,_,_,rfl,_,a_d h,num,rfl,(z_i num number).use ⟨_,rfl,a_0 (fun _=>⟨trivial,_,_,_,rfl,_,a_d h,num,rfl,go num⟩) (fun _=>go number)⟩⟩) (fun _=>go number)⟩
theorem s_5 {s:Store}{id:Nat}{r:Rc}(h:RcIn s id r) :Pure prog g_8 [.one (pO id)] s (.a (iA r.Last)):=by
 obtain ⟨lost,num,h⟩:=h
 exact w_j (pO id) s _ ⟨trivial,_,_,_,rfl,_,a_d h,r.Last,rfl,rfl,rfl⟩
theorem s_4 (peer age:Int) :DCalls prog e_6 [iA peer,iA age] σ fun r s=>∃id,r= .a (.one (pO id))/\σ id= .free/\s=σ.set id (.live b_o [[iD (-1),iD 0,iD 0,iD peer,iD age]]):=
 u_x peer age σ _ (a_f fun id s hid hset he hs=>⟨id,rfl,hid,hset⟩)
theorem a_ey (t:List UInt8) :0<=(a_2 t).s/\(a_2 t).s < 4294967296:=by
 unfold a_2
 split
 · exact ⟨Int.le_refl 0,by show (0:Int) < 4294967296;decide⟩
 split
 · exact ⟨Int.le_refl 0,by show (0:Int) < 4294967296;decide⟩
 split
 · exact ⟨Int.le_refl 0,by show (0:Int) < 4294967296;decide⟩
 · have h:=q_t (((e_w t).1.drop 3).take 4) 0 (by omega)
   refine ⟨h.1,Int.lt_of_lt_of_le h.2 ?_⟩
   have h4:(((e_w t).1.drop 3).take 4).length<=4:=by rw[zR];omega
   have e:∀m:Nat,(256:Int) ^ m=((256 ^ m:Nat) :Int):=fun m=>by simp
   rw[e]
   have h5:=Nat.pow_le_pow_right (show 0 < 256 by omega) h4
   have h6:(256:Nat) ^ 4=4294967296:=by decide
   omega
theorem p_m {s:Store}{id:Nat}{r:Rc}(h:RcIn s id r){now:Int}(hnow:now<=9223372036854775807){t:List UInt8}(ht:t.length<=2 ^ 59) :
   DCalls prog f_t [.one (pO id),iA now, .one (.str (ofL t))] s fun rr s'=>rr= .tup [.one (.str (ofL (r.take now t).2.1)),iA (r.take now t).2.2]/\RcIn s' id (r.take now t).1/\Keep id s s':=by
 have hp:=a_ey t
 have hR:=h
 obtain ⟨lost,num,h⟩:=h
 refine r_p (pO id) now (ofL t) s _ ((a_lt ht).use ⟨_,_,_,_,_,rfl,?_⟩)
 unfold Rc.take
 refine bcn (fun h1=>?_) (fun h1=>?_)
 · rw[if_pos h1];exact ⟨rfl,hR, .refl _ _⟩
 rw[if_neg (by rw[h1];simp)]
 refine ⟨trivial,_,_,_,rfl,_,a_d h,r.Peer,rfl,bcn (fun h2=>?_) (fun h2=>bcd (fun h3=>?_) (fun h3=>⟨trivial,_,_,_,rfl,_,a_d h,r.Age,rfl,?_⟩))⟩
 · rw[if_pos h2];exact ⟨rfl,hR, .refl _ _⟩
 · rw[if_neg (by simpa using h2),if_pos h3];exact ⟨rfl,hR, .refl _ _⟩
 rw[if_neg (by simpa using h2),if_neg h3,a_r (by omega) (by omega)]
 refine bcd (fun h4=>?_) (fun h4=>⟨trivial,_,_,_,rfl,_,a_d h,r.Last,rfl,bcd (fun h5=>?_) (fun h5=>⟨trivial,_,_,_,rfl,?_⟩)⟩)
 · rw[if_pos h4];exact ⟨rfl,hR, .refl _ _⟩
 · rw[if_neg h4,if_pos h5];exact ⟨rfl,hR, .refl _ _⟩
 rw[if_neg h4,if_neg h5]
 refine (s_s hR _ _).mono ?_
 rintro rr s1 ⟨rfl,h6,h7⟩
 exact ⟨rfl,rfl,h6,h7⟩
end
section
variable {σ σ0:Store}
structure OwnAll (σ0 s:Store) (ds:List D) (ls:List (List Int)) :Prop where
 ext:Ext σ0 s
 len:ds.length=ls.length
 own:∀(k:Nat) d l,ds[k]? =some d->ls[k]? =some l->Own prog σ0 s a_e d (l.map Go.Fw.encI)
 ap:∀(j k:Nat) a b,ds[j]? =some a->ds[k]? =some b->j≠k->Apart a b
theorem OwnAll.ext' {s s':Store}{ds:List D}{ls:List (List Int)}(h:OwnAll σ0 s ds ls)(he:Ext s s') :OwnAll σ0 s' ds ls:=
 ⟨h.ext.trans he,h.len,fun k d l a b=>(h.own k d l a b).ext' he,h.ap⟩
theorem OwnAll.append {s:Store}{ds:List D}{ls:List (List Int)}(h:OwnAll σ0 s ds ls){k:Nat}{d x:D}{l ns:List Int}(hd:ds[k]? =some d)(hl:ls[k]? =some l)(hx:At prog s a_e x (ns.map Go.Fw.encI))
   (hb:l.length+ns.length<=2 ^ 43) {K:D->Store->Prop} (hK:∀d' s',OwnAll σ0 s' (ds.set k d') (ls.set k (l ++ ns))->(∀i,s i≠ .free->h_c d≠some i->s' i=s i)->K d' s') :a_j prog s a_e 8 d x K:=by
 have hkl:=(zA.1 hd).1
 have hkl':=(zA.1 hl).1
 refine (h.own k d l hd hl).append hx (by simp;omega) (by simp;omega) fun d' s' ho h1 h2=>?_
 have hs:∀i,s i≠ .free->h_c d≠some i->s' i=s i:=fun i hi hdi=>h1 i hi fun a b e=>hdi (by rw[e];rfl)
 refine hK d' s' ⟨ho.ext,by simp[h.len],fun j e m he hm=>?_,fun j j' a b ha hb' hne=>?_⟩ hs
 · by_cases hj:j=k
   · subst hj
     rw[List.getElem?_set_self (by omega)] at he hm
     injection he with he;injection hm with hm
     subst he hm
     rw[List.map_append];exact ho
   · rw[List.getElem?_set_ne (Ne.symm hj)] at he hm
     exact (h.own j e m he hm).stay (d:=d) hs (h.ap j k e d he hd hj) ho.ext
 · have key : ∀ (j : Nat) a, j ≠ k -> ds[j]? = some a -> Apart a d' := by
     clear ha hb'
     intro j a hj ha i hi hd'
     obtain ⟨m,hm⟩:=a_c (l:=ls) (j:=j) (by have:=(zA.1 ha).1;have:=h.len;omega)
     have hown:=h.own j a m ha hm
     cases d' with
     | osl i' a' n'=>
       have e2:i'=i:=by simpa[h_c] using hd'
       subst e2
       rcases h2 i' a' n' rfl with q | ⟨a2,b2,q⟩
       · have:=hown.at_.rows
         cases a with
         | osl i2 a3 n3=>
           have e3:i2=i':=by simpa[h_c] using hi
           subst e3
           obtain ⟨t,rows,h3,_⟩:=this
           rw[h3] at q;cases q
         | _=>simp[h_c] at hi
       · exact h.ap j k a d ha hd hj i' hi (by rw[q];rfl)
     | _=>simp[h_c] at hd'
   by_cases hj:j=k
   · subst hj
     have hj':j'≠j:=Ne.symm hne
     rw[List.getElem?_set_self (by omega)] at ha
     rw[List.getElem?_set_ne hne] at hb'
     injection ha with ha;subst ha
     exact (key j' b hj' hb').symm
   · rw[List.getElem?_set_ne (Ne.symm hj)] at ha
     by_cases hj':j'=k
     · subst hj'
       rw[List.getElem?_set_self (by omega)] at hb'
       injection hb' with hb';subst hb'
       exact key j a hj ha
     · rw[List.getElem?_set_ne (Ne.symm hj')] at hb'
       exact h.ap j j' a b ha hb' hne
theorem OwnAll.nils (σ0:Store){s:Store}(he:Ext σ0 s)(n:Nat) :OwnAll σ0 s (List.replicate n .nils) (List.replicate n []):=by
 refine ⟨he,by simp,fun k d l a b=>?_,fun j k a b ha hb _=>?_⟩
 · rw[List.getElem?_replicate] at a b
   split at a
   · rename_i h
     injection a with a;subst a
     rw[if_pos h] at b
     injection b with b;subst b
     exact .nil _ he
   · cases a
 · rw[List.getElem?_replicate] at ha
   split at ha
   · injection ha with ha;subst ha
     exact fun i h=>by simp[h_c] at h
   · cases ha
/-! ### the shape -/
theorem f_u (oc:Int)(x:Sec) :∀(a:List Sec) (i:Int),e_3 oc (a ++ [x]) i=e_3 oc a i ++ (if x.OC=oc then [i+a.length] else [])
 | [],i=>by simp only[e_3,List.nil_append];split <;> simp
 | y::a,i=>by
   have ih:=f_u oc x a (i+1)
   have e:i+1+ (a.length:Int) =i+ ((y::a).length:Nat):=by simp;omega
   rw[List.cons_append,e_3,ih,e]
   conv=>rhs;rw[e_3]
   split <;> simp
theorem h_i (oc:Int)(x:Sec) :∀(a:List Sec) (i:Int),g_v oc (a ++ [x]) i=g_v oc a i ++ (if x.OC=oc/\x.Kind=1 then [i+a.length] else [])
 | [],i=>by simp only[g_v,List.nil_append];split <;> simp
 | y::a,i=>by
   have ih:=h_i oc x a (i+1)
   have e:i+1+ (a.length:Int) =i+ ((y::a).length:Nat):=by simp;omega
   rw[List.cons_append,g_v,ih,e]
   conv=>rhs;rw[g_v]
   split <;> simp
theorem n_s (c:Cf)(oc:Int)(x:Int) :∀(a:List Int) (i:Int),o_w c oc (a ++ [x]) i=o_w c oc a i ++ (if c.mine oc x=true then [i+a.length] else [])
 | [],i=>by simp only[o_w,List.nil_append];split <;> simp
 | y::a,i=>by
   have ih:=n_s c oc x a (i+1)
   have e:i+1+ (a.length:Int) =i+ ((y::a).length:Nat):=by simp;omega
   rw[List.cons_append,o_w,ih,e]
   conv=>rhs;rw[o_w]
   split <;> simp
theorem l_o (c:Cf)(oc:Int)(x:Sg) :∀(a:List Sg) (i:Int),j_i c oc (a ++ [x]) i=j_i c oc a i ++ (if c.mine oc x.Sec=true then [i+a.length] else [])
 | [],i=>by simp only[j_i,List.nil_append];split <;> simp
 | y::a,i=>by
   have ih:=l_o c oc x a (i+1)
   have e:i+1+ (a.length:Int) =i+ ((y::a).length:Nat):=by simp;omega
   rw[List.cons_append,j_i,ih,e]
   conv=>rhs;rw[j_i]
   split <;> simp
theorem v_v (c:Cf)(oc:Int) :(∀(l:List Sec) (i:Int),(e_3 oc l i).length<=l.length/\(g_v oc l i).length<=l.length)/\(∀(l:List Int) (i:Int),(o_w c oc l i).length<=l.length)/\(∀(l:List Sg) (i:Int),(j_i c oc l i).length<=l.length):=by
 refine ⟨fun l=>?_,fun l=>?_,fun l=>?_⟩ <;> induction l with
 | nil=>intro i;simp[e_3,g_v,o_w,j_i]
 | cons x l ih=>
   intro i
   have:=ih (i+1)
   first
     | (simp only[e_3,g_v];refine ⟨?_,?_⟩ <;> split <;> simp <;> omega)
     | (simp only[o_w];split <;> simp <;> omega)
     | (simp only[j_i];split <;> simp <;> omega)
structure ShFz (h0 h1 h2 h3:D) (h:Shp) :Prop where
 secs:∀s,At prog s a_e h0 (h.Secs.map Go.Fw.encI)
 pts:∀s,At prog s a_e h1 (h.Pts.map Go.Fw.encI)
 xs:∀s,At prog s a_e h2 (h.Xs.map Go.Fw.encI)
 sgs:∀s,At prog s a_e h3 (h.Sgs.map Go.Fw.encI)
section
variable {c0 c1 c2 c3 c4:D} {c:Cf} (hc:∀s,CfAt s c0 c1 c2 c3 c4 c)
include hc
theorem a_c8 {s:Store}{id id1:Nat}{t:TypeId}{oc:Int}(h:s id= .live t [[c0,c1,c2,c3,c4,iD c.Age,iD c.Brake,iD c.Hold,iD c.Budget]])(h1:s id1= .live a_e [[iD oc]])(n:Int) :
   Pure prog e_m [iA n, .one (pO id), .one (pO id1)] s (.a (bA (c.mine oc n))):=by
 unfold Cf.mine
 refine a_dw n (pO id) (pO id1) s _ (bcd (fun h0=>⟨_,_,_,rfl,_,a_d h,c0,rfl,(hc s).secs.lenK ?_⟩) (fun h0=>⟨by rw[a_5 (by omega)];rfl,rfl⟩))
 rw[zB]
 refine bcd (fun hlt=>?_) (fun hge=>⟨by rw[b_u (by omega)];rfl,rfl⟩)
 have h0:0<=n:=h0
 obtain ⟨j,rfl⟩:=zI h0
 obtain ⟨x,hx⟩:=a_c (l:=c.Secs) (j:=j) (by omega)
 refine ⟨_,_,_,rfl,_,a_d h,c0,rfl,(hc s).secs.load (a_g hx) a_x rfl ⟨x.OC,rfl,_,_,_,rfl,_,a_d h1,oc,rfl,?_,rfl⟩⟩
 rw[a_1,hx];rfl
theorem a_hw (oc:Int)(h1:c.Secs.length<=2 ^ 20)(h2:c.Xs.length<=2 ^ 20)(h3:c.Sigs.length<=2 ^ 20) :
   DCalls prog i_j [cfA c0 c1 c2 c3 c4 c,iA oc] σ fun r s=>s=σ/\∃a0 a1 a2 a3,r= .a (.agg [a0,a1,a2,a3])/\ShFz a0 a1 a2 a3 (c.shape oc):=by
 have key:DCalls prog i_j [cfA c0 c1 c2 c3 c4 c,iA oc] σ fun r s=>∃a0 a1 a2 a3,r= .a (.agg [a0,a1,a2,a3])/\OwnAll σ s [a0,a1,a2,a3] [(c.shape oc).Secs,(c.shape oc).Pts,(c.shape oc).Xs,(c.shape oc).Sgs]:=by
   obtain ⟨l1,l2,l3⟩:=v_v c oc
   refine a_mo c0 c1 c2 c3 c4 c.Age c.Brake c.Hold c.Budget oc σ _ (a_f fun id s1 hid _ he1 hs1=>a_f fun id1 s2 hid1 _ he2 hs2=>?_)
   have hs1':=e_t hs1 he2
   have he:Ext σ s2:=he1.trans he2
   have mine:∀{s:Store},Ext s2 s->∀n,Pure prog e_m [iA n, .one (pO id), .one (pO id1)] s (.a (bA (c.mine oc n))):=fun hs n=>a_c8 hc (e_t hs1' hs) (e_t hs2 hs) n
   refine ⟨_,a_d hs1',c0,rfl,(hc s2).secs.lenK ⟨fun d1 d2 d3 d4 n s=>∃j:Nat,n=j/\j<=c.Secs.length/\OwnAll s2 s [d1,d2,d3,d4] [e_3 oc (c.Secs.take j) 0,g_v oc (c.Secs.take j) 0,[],[]],fun _ _ _ _ n _=>c.Secs.length - n.toNat,⟨0,rfl,by omega,OwnAll.nils s2 (.refl _) 4⟩,?_⟩⟩
   rintro d1 d2 d3 d4 _ s ⟨j,rfl,hj,ho⟩
   rw[zB]
   refine bcd (fun hlt=>?_) (fun hge=>?_)
   · have hlt:j < c.Secs.length:=by omega
     obtain ⟨x,hx⟩:=a_c (l:=c.Secs) (j:=j) hlt
     have ht:c.Secs.take (j+1) =c.Secs.take j ++ [x]:=by rw[zQ,hx,Option.toList_some]
     have hmine:c.mine oc (j:Int) =decide (x.OC=oc):=by unfold Cf.mine;rw[a_1,hx];rfl
     have hlen:(c.Secs.take j).length=j:=by rw[zR];omega
     have q1:=(l1 (c.Secs.take j) 0).1
     have q2:=(l1 (c.Secs.take j) 0).2
     have hdec:=a_v hlt
     refine (hc s).secs.load (a_g hx) a_x rfl ⟨x.Kind,x.OC,x.Line,rfl,_,_,_,_,_,rfl,rfl,rfl,(mine ho.ext j).use ⟨_,rfl,?_⟩⟩
     rw[hmine,a_i (by omega)]
     refine bcd (fun hoc=>a_f fun id2 s4 _ _ he4 hs4=>(ho.ext' he4).append (k:=0) (l:=e_3 oc (c.Secs.take j) 0) (ns:= [(j:Int)]) rfl rfl (At.fresh hs4 (by simp) rfl) (by simp;omega) fun d5 s5 ho5 _=>bce (fun hk=>?_) (fun hk=>⟨by trivial,⟨j+1,rfl,hlt,?_⟩,hdec⟩)) (fun hoc=>⟨by trivial,⟨j+1,rfl,hlt,?_⟩,hdec⟩)
     · refine a_f fun id3 s6 _ _ he6 hs6=>(ho5.ext' he6).append (k:=1) (l:=g_v oc (c.Secs.take j) 0) (ns:= [(j:Int)]) rfl rfl (At.fresh hs6 (by simp) rfl) (by simp;omega) fun d6 s7 ho7 _=>⟨by trivial,⟨j+1,rfl,hlt,?_⟩,hdec⟩
       rw[ht,f_u,h_i,if_pos hoc,if_pos ⟨hoc,hk⟩,hlen,Int.zero_add];exact ho7
     · rw[ht,f_u,h_i,if_pos hoc,if_neg (fun h=>hk h.2),hlen,Int.zero_add,zS];exact ho5
     · rw[ht,f_u,h_i,if_neg hoc,if_neg (fun h=>hoc h.1),zS,zS];exact ho
   have e:j=c.Secs.length:=by omega
   subst e
   rw[zT] at ho
   refine ⟨_,a_d (e_t hs1' ho.ext),c3,rfl,(hc s).xs.lenK ⟨fun d1 d2 d3 d4 n s=>∃j:Nat,n=j/\j<=c.Xs.length/\OwnAll s2 s [d1,d2,d3,d4] [e_3 oc c.Secs 0,g_v oc c.Secs 0,o_w c oc (c.Xs.take j) 0,[]],fun _ _ _ _ n _=>c.Xs.length - n.toNat,⟨0,rfl,by omega,ho⟩,?_⟩⟩
   clear ho d1 d2 d3 d4 s
   rintro d1 d2 d3 d4 _ s ⟨j,rfl,hj,ho⟩
   rw[zB]
   refine bcd (fun hlt=>?_) (fun hge=>?_)
   · have hlt:j < c.Xs.length:=by omega
     obtain ⟨x,hx⟩:=a_c (l:=c.Xs) (j:=j) hlt
     have ht:c.Xs.take (j+1) =c.Xs.take j ++ [x]:=by rw[zQ,hx,Option.toList_some]
     have hlen:(c.Xs.take j).length=j:=by rw[zR];omega
     have q1:=l2 (c.Xs.take j) 0
     have hdec:=a_v hlt
     refine (hc s).xs.load (a_g hx) c_int rfl ⟨x,rfl,_,_,_,_,_,rfl,rfl,rfl,(mine ho.ext x).use ⟨_,rfl,?_⟩⟩
     rw[a_i (by omega)]
     refine bc (fun hoc=>a_f fun id2 s4 _ _ he4 hs4=>(ho.ext' he4).append (k:=2) (l:=o_w c oc (c.Xs.take j) 0) (ns:= [(j:Int)]) rfl rfl (At.fresh hs4 (by simp) rfl) (by simp;omega) fun d5 s5 ho5 _=>⟨by trivial,⟨j+1,rfl,hlt,?_⟩,hdec⟩) (fun hoc=>⟨by trivial,⟨j+1,rfl,hlt,?_⟩,hdec⟩)
     · rw[ht,n_s,if_pos hoc,hlen,Int.zero_add];exact ho5
     · rw[ht,n_s,if_neg (by rw[hoc];simp),zS];exact ho
   have e:j=c.Xs.length:=by omega
   subst e
   rw[zT] at ho
   refine ⟨_,a_d (e_t hs1' ho.ext),c2,rfl,(hc s).sigs.lenK ⟨fun d1 d2 d3 d4 n s=>∃j:Nat,n=j/\j<=c.Sigs.length/\OwnAll s2 s [d1,d2,d3,d4] [e_3 oc c.Secs 0,g_v oc c.Secs 0,o_w c oc c.Xs 0,j_i c oc (c.Sigs.take j) 0],fun _ _ _ _ n _=>c.Sigs.length - n.toNat,⟨0,rfl,by omega,ho⟩,?_⟩⟩
   clear ho d1 d2 d3 d4 s
   rintro d1 d2 d3 d4 _ s ⟨j,rfl,hj,ho⟩
   rw[zB]
   refine bcd (fun hlt=>?_) (fun hge=>?_)
   · have hlt:j < c.Sigs.length:=by omega
     obtain ⟨x,hx⟩:=a_c (l:=c.Sigs) (j:=j) hlt
     have ht:c.Sigs.take (j+1) =c.Sigs.take j ++ [x]:=by rw[zQ,hx,Option.toList_some]
     have hlen:(c.Sigs.take j).length=j:=by rw[zR];omega
     have q1:=l3 (c.Sigs.take j) 0
     have hdec:=a_v hlt
     refine (hc s).sigs.load (a_g hx) d_b rfl ⟨x.Sec,x.End_,rfl,_,_,_,_,_,rfl,rfl,rfl,(mine ho.ext x.Sec).use ⟨_,rfl,?_⟩⟩
     rw[a_i (by omega)]
     refine bc (fun hoc=>a_f fun id2 s4 _ _ he4 hs4=>(ho.ext' he4).append (k:=3) (l:=j_i c oc (c.Sigs.take j) 0) (ns:= [(j:Int)]) rfl rfl (At.fresh hs4 (by simp) rfl) (by simp;omega) fun d5 s5 ho5 _=>⟨by trivial,⟨j+1,rfl,hlt,?_⟩,hdec⟩) (fun hoc=>⟨by trivial,⟨j+1,rfl,hlt,?_⟩,hdec⟩)
     · rw[ht,l_o,if_pos hoc,hlen,Int.zero_add];exact ho5
     · rw[ht,l_o,if_neg (by rw[hoc];simp),zS];exact ho
   have e:j=c.Sigs.length:=by omega
   subst e
   rw[zT] at ho
   refine ⟨d1,d2,d3,d4,rfl,he.trans ho.ext,ho.len,fun k d l a b=>(ho.own k d l a b).from he,ho.ap⟩
 refine key.ret ?_
 rintro r s ⟨a0,a1,a2,a3,rfl,ho⟩
 have fl:∀(l:List Int),∀row ∈ l.map Go.Fw.encI,∀x ∈ row,Flat x:=fun l row hr x hx=>by
   obtain ⟨n,_,rfl⟩:=List.mem_map.1 hr
   simp only[Go.Fw.encI,List.mem_singleton] at hx
   subst hx;exact .int _ _
 have o0:=ho.own 0 _ _ rfl rfl
 have o1:=ho.own 1 _ _ rfl rfl
 have o2:=ho.own 2 _ _ rfl rfl
 have o3:=ho.own 3 _ _ rfl rfl
 obtain ⟨b0,f0,g0⟩:=b_s o0.at_ ho.ext o0.new (fl _)
 obtain ⟨b1,f1,g1⟩:=b_s o1.at_ ho.ext o1.new (fl _)
 obtain ⟨b2,f2,g2⟩:=b_s o2.at_ ho.ext o2.new (fl _)
 obtain ⟨b3,f3,g3⟩:=b_s o3.at_ ho.ext o3.new (fl _)
 exact ⟨.a (.agg [b0,b1,b2,b3]),σ, .pure ho.ext (.cons f0 (.cons f1 (.cons f2 (.cons f3 .nil)))),rfl,b0,b1,b2,b3,rfl,⟨g0,g1,g2,g3⟩⟩
end
end
section
variable {σ σ0:Store}
theorem away {s:Store}{el t:TypeId}{d:D}{rs rows:List (List D)}{i:Nat}(h:At prog s el d rs)(hs:s i= .live t rows)(hc:prog.cellsOf t≠prog.cellsOf el) :h_c d≠some i:=fun e=>by
 cases d with
 | osl j a n=>
   have:j=i:=by simpa[h_c] using e
   subst this
   obtain ⟨t',rows',g1,g2,_⟩:=h.rows
   rw[hs] at g1
   injection g1 with g1 _
   rw[<-g1] at g2
   exact hc g2
 | _=>simp[h_c] at e
theorem OwnAll.other {s s':Store}{ds:List D}{ls:List (List Int)}{id:Nat}(h:OwnAll σ0 s ds ls)(hn:σ0 id= .free)(ha:∀d ∈ ds,h_c d≠some id)(hs:∀i,i≠id->s' i=s i) :OwnAll σ0 s' ds ls:=
 ⟨a_iv h.ext hn hs,h.len,fun k d l a b=>r_1 (h.own k d l a b) hn (ha d (zC a)) hs,h.ap⟩
theorem OwnAll.away {s:Store}{ds:List D}{ls:List (List Int)}{i:Nat}{t:TypeId}{rows:List (List D)}(h:OwnAll σ0 s ds ls)(hs:s i= .live t rows)(hc:prog.cellsOf t≠1) :∀d ∈ ds,h_c d≠some i:=fun d hd=>by
 obtain ⟨k,hk⟩:=List.mem_iff_getElem?.1 hd
 obtain ⟨l,hl⟩:=a_c (l:=ls) (j:=k) (by have:=(zA.1 hk).1;have:=h.len;omega)
 exact Go.Proofs.YtaklhjodjbgmgaaGreat.away (h.own k d l hk hl).at_ hs (by rw[c_int];exact hc)
structure Fld where
 off:Nat
 n:Nat
 most:Int
def Fld.enc (oid:Nat)(f:Fld) :List D:= [.el (.osl oid 0 1) 0 f.off,iD f.n,iD f.most]
def Fld.right (ls:List (List Int))(f:Fld) :Bool:=decide (((ls.getD f.off []).length:Int) =f.n) && (ls.getD f.off []).all fun x=>decide (0<=x/\x<=f.most)
theorem a_zi {ds:List D}{k:Nat}{d d':D}(h:ds[k]? =some d) :patch ds k [d']=ds.set k d':=by
 have hk:=(zA.1 h).1
 unfold patch
 rw[List.set_eq_take_append_cons_drop,if_pos hk]
 simp
theorem c_8 {ds:List D}{k:Nat}{d:D}(h:ds[k]? =some d) :(List.drop k ds).take 1=[d]:=by
 obtain ⟨h1,h2⟩:=zA.1 h
 rw[List.drop_eq_getElem_cons h1,h2];rfl
theorem a_ia {s:Store}{oid fid:Nat}{F:List Fld}{ds:List D}{ls:List (List Int)}(hF:At prog s c_j (.osl fid 0 F.length) (F.map (Fld.enc oid)))(ho:s oid= .live i_c [ds])(hl:ds.length=ls.length)
   (hd:∀(k:Nat) d l,ds[k]? =some d->ls[k]? =some l->At prog s a_e d (l.map Go.Fw.encI)) (hb:∀f ∈ F,f.off < ls.length) :
   Pure prog o_3 [.one (.osl fid 0 F.length)] s (.a (bA (F.all (Fld.right ls)))):=by
 have hsz:=hF.size
 rw[zB] at hsz
 refine a_kf _ s _ (hF.lenK ⟨fun n s'=>s'=s/\Rng F (fun r=>r.all (Fld.right ls) =F.all (Fld.right ls)) n,fun n _=>F.length - n.toNat,⟨rfl, .start rfl⟩,?_⟩)
 rintro n s' ⟨rfl,hr⟩
 refine bcd (fun hlt=>?_) (fun hge=>?_)
 rotate_left
 · obtain ⟨j,hj,hj2,hE⟩:=hr
   rw[zB] at hge
   rw[e_c (by omega)] at hE
   exact ⟨by rw[<-hE];rfl,rfl⟩
 obtain ⟨j,f,rfl,hf,hj,hE,nx⟩:=hr.step (by simp) hsz hlt
 obtain ⟨d,hdk⟩:=a_c (l:=ds) (j:=f.off) (by have:=hb f (zC hf);omega)
 obtain ⟨l,hlk⟩:=a_c (l:=ls) (j:=f.off) (hb f (zC hf))
 have hat:=hd _ d l hdk hlk
 have hgd:ls.getD f.off []=l:=by rw[List.getD_eq_getElem?_getD,hlk];rfl
 have hls:=hat.size
 rw[zB] at hls
 refine hF.load (a_g hf) o_8 rfl ⟨_,f.n,f.most,rfl,trivial,_,_,_,rfl,_,a_d ho,d,c_8 hdk,hat.lenK ?_⟩
 rw[zB]
 have hE':(Fld.right ls f && (F.drop (j+1)).all (Fld.right ls)) =F.all (Fld.right ls):=by rw[<-hE];rfl
 have hfr:Fld.right ls f=(decide ((l.length:Int) =f.n) && l.all fun x=>decide (0<=x/\x<=f.most)):=by unfold Fld.right;rw[hgd]
 rw[hfr] at hE'
 refine bcn (fun h1=>?_) (fun h1=>?_)
 · rw[decide_eq_false h1,Bool.false_and,Bool.false_and] at hE'
   exact ⟨by rw[<-hE'],rfl⟩
 rw[decide_eq_true h1,Bool.true_and] at hE'
 refine ⟨trivial,_,_,_,rfl,_,a_d ho,d,c_8 hdk,hat.lenK ⟨fun n s2=>s2=s'/\∃m:Nat,n=m/\m<=l.length/\((l.drop m).all fun x=>decide (0<=x/\x<=f.most)) =l.all fun x=>decide (0<=x/\x<=f.most),fun n _=>l.length - n.toNat,⟨rfl,0,rfl,by omega,rfl⟩,?_⟩⟩
 rintro _ s2 ⟨rfl,m,rfl,hm,hA⟩
 rw[zB]
 refine bcd (fun hlt2=>?_) (fun hge=>?_)
 · have hlt2:m < l.length:=by omega
   obtain ⟨x,hx⟩:=a_c (l:=l) (j:=m) hlt2
   obtain ⟨hx1,hx2⟩:=zA.1 hx
   rw[List.drop_eq_getElem_cons hx1,hx2,List.all_cons] at hA
   have bad:¬(0<=x/\x<=f.most)->F.all (Fld.right ls) =false:=fun hb=>by
     rw[decide_eq_false hb,Bool.false_and] at hA
     rw[<-hE',<-hA,Bool.false_and]
   refine hat.load (a_g hx) c_int rfl ⟨x,rfl,bcd (fun h2=>⟨by rw[bad (by omega)],rfl⟩) (fun h2=>bcd (fun h3=>⟨by rw[bad (by omega)],rfl⟩) (fun h3=>?_))⟩
   rw[a_i (by omega)]
   refine ⟨by trivial,⟨rfl,m+1,rfl,hlt2,?_⟩,a_v hlt2⟩
   rw[decide_eq_true (by omega),Bool.true_and] at hA
   exact hA
 · have e:m=l.length:=by omega
   subst e
   rw[List.drop_length] at hA
   have hA:true=l.all fun x=>decide (0<=x/\x<=f.most):=hA
   rw[<-hA,Bool.true_and] at hE'
   have:=nx (fun r=>r.all (Fld.right ls) =F.all (Fld.right ls)) hE'
   exact ⟨⟨rfl,this.1⟩,this.2⟩
def m_n:List Nat->List UInt8->List (List Int)
 | [],_=> []
 | n::ns,t=>e_g (t.take n) ::m_n ns (t.drop n)
theorem a_ed:∀(ns:List Nat) (t:List UInt8),(m_n ns t).length=ns.length
 | [],t=>rfl
 | n::ns,t=>by rw[m_n,List.length_cons,List.length_cons,a_ed ns]
theorem a_mr (u:List UInt8)(x:UInt8) :e_g (u ++ [x]) =e_g u ++ [(x.toNat:Int)]:=by unfold e_g;simp
theorem a_oz:∀(ns:List Nat),m_n ns []=List.replicate ns.length []
 | []=>rfl
 | n::ns=>by rw[m_n,List.take_nil,List.drop_nil,a_oz ns];rfl
theorem a_jg (x:UInt8) :∀(ns:List Nat) (u:List UInt8) (k n:Nat),ns[k]? =some n->(ns.take k).sum<=u.length->u.length < (ns.take k).sum+n->
   ∃l,(m_n ns u)[k]? =some l/\l.length<=u.length/\m_n ns (u ++ [x]) =(m_n ns u).set k (l ++ [(x.toNat:Int)])
 | [],u,k,n,hk,h1,h2=>by simp at hk
 | m::ns,u,0,n,hk,h1,h2=>by
   simp at hk h2
   subst hk
   have e1:(u ++ [x]).take m=u ++ [x]:=List.take_of_length_le (by simp;omega)
   have e2:u.take m=u:=List.take_of_length_le (by omega)
   have e3:(u ++ [x]).drop m=[]:=List.drop_eq_nil_of_le (by simp;omega)
   have e4:u.drop m=[]:=List.drop_eq_nil_of_le (by omega)
   refine ⟨e_g u,by rw[m_n,e2];rfl,by unfold e_g;simp,?_⟩
   rw[m_n,m_n,e1,e2,e3,e4,a_mr];rfl
 | m::ns,u,k+1,n,hk,h1,h2=>by
   simp at hk h1 h2
   obtain ⟨l,g1,g2,g3⟩:=a_jg x ns (u.drop m) k n hk (by simp;omega) (by simp;omega)
   have e1:(u ++ [x]).take m=u.take m:=List.take_append_of_le_length (by omega)
   have e2:(u ++ [x]).drop m=u.drop m ++ [x]:=List.drop_append_of_le_length (by omega)
   refine ⟨l,by rw[m_n];exact g1,by simp at g2;omega,?_⟩
   rw[m_n,m_n,e1,e2,g3];rfl
end
end Go.Proofs.YtaklhjodjbgmgaaGreat
