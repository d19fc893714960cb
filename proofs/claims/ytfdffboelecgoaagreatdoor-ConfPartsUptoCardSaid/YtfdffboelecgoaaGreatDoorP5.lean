/-
  Proofs that the statement of this claim leans on: part 5.
-/
import Derived.Test.YtfdffboelecgoaaGreatDoorP4
set_option linter.unusedVariables false
set_option linter.unusedSimpArgs false
section
set_option maxRecDepth 20000
namespace Go.Proofs.YtfdffboelecgoaaGreatDoor
open Go.Fw Go.Proofs Go.RowKit
open Go.Proofs.Tryz (prog)
variable {σ σ0:Store}
def cat {α:Type}(f:α→List UInt8)(xs:List α) :List UInt8:=(xs.map f).flatten
theorem a_8 {α:Type}{f:α→List UInt8}{xs:List α}{j:Nat}{x:α}(hx:xs[j]? =some x) :cat f (xs.take (j+1)) =cat f (xs.take j) ++ f x:=by
 unfold cat
 rw[List.take_add_one,hx]
 simp
theorem d_e {α:Type}(f:α→List UInt8)(xs:List α)(j:Nat) :(cat f (xs.take j)).length≤(cat f xs).length:=by
 have e:cat f xs=cat f (xs.take j) ++ cat f (xs.drop j):=by
   unfold cat
   rw[←List.flatten_append,←List.map_append,List.take_append_drop]
 rw[e,List.length_append];omega
theorem e_f {α:Type}(f:α→List UInt8) :cat f []=[]:=rfl
def stL (s:St) :List UInt8:=b_y [] [s.Sec,s.In,s.Out]
def ndL (n:Nd) :List UInt8:=b_y [] [n.Sec,n.Pos]
def b_1:List UInt8:= [114,111,117,116,101]
def wPath:List UInt8:= [32,112,97,116,104]
def wFlank:List UInt8:= [32,102,108,97,110,107]
def wOver:List UInt8:= [32,111,118,101,114,108,97,112]
def rtL (x:Rt) :List UInt8:=b_y b_1 [x.Entry,x.Exit,if x.Shunt then 1 else 0] ++ wPath ++ cat stL x.Path ++ wFlank ++ cat ndL x.Flank ++ d_n wOver x.Overlap
def rt64 (x:Rt) :Prop:=i64 x.Entry∧i64 x.Exit∧(∀s ∈ x.Path,i64 s.Sec∧i64 s.In∧i64 s.Out)∧(∀n ∈ x.Flank,i64 n.Sec∧i64 n.Pos)∧∀n ∈ x.Overlap,i64 n
theorem o_p {a b c:Int}(ha:i64 a)(hb:i64 b)(hc:i64 c) :∀n ∈ [a,b,c],i64 n:=fun n hn=>by
 simp only[List.mem_cons,List.not_mem_nil,or_false] at hn
 rcases hn with rfl | rfl | rfl <;> assumption
theorem v_z {a b:Int}(ha:i64 a)(hb:i64 b) :∀n ∈ [a,b],i64 n:=fun n hn=>by
 simp only[List.mem_cons,List.not_mem_nil,or_false] at hn
 rcases hn with rfl | rfl <;> assumption
theorem a_h6 {s:Store}{id:Nat}{l w:List UInt8}(h:BlIn σ0 s id l)(hs:l.length+w.length≤2 ^ 46) :
   DCalls prog a_6 [.one (pO id),sA (a_q w), .one .nils] s fun r s'=>r= .tup []∧BlIn σ0 s' id (l ++ w):=by
 have e:b_y (a_q w).data.toList []=w:=r_v w
 have:=a_hj (ns:= []) (d:= .nils) h (w:=a_q w) .nil (fun n hn=>by cases hn) (by rw[e];exact hs)
 rw[e] at this
 exact this
set_option maxHeartbeats 1000000 in
theorem u_b {s:Store}{id:Nat}{l:List UInt8}(h:BlIn σ0 s id l){x:Rt}{d1 d2 d3:D}(h1:At prog σ0 a_i d1 (x.Path.map St.enc))(h2:At prog σ0 a_r d2 (x.Flank.map Nd.enc))(h3:At prog σ0 t_int d3 (x.Overlap.map Go.Fw.encI))
   (hx:rt64 x) (hs:l.length+ (rtL x).length≤2 ^ 46) :
   DCalls prog e_o [.one (pO id),rtA d1 d2 d3 x] s fun r s'=>r= .tup []∧BlIn σ0 s' id (l ++ rtL x):=by
 obtain ⟨x1,x2,x3,x4,x5⟩:=hx
 have hsz1:=h1.size
 have hsz2:=h2.size
 rw[List.length_map] at hsz1 hsz2
 have hlen:(rtL x).length=(b_y b_1 [x.Entry,x.Exit,if x.Shunt then 1 else 0]).length+wPath.length+ (cat stL x.Path).length+wFlank.length+ (cat ndL x.Flank).length+ (d_n wOver x.Overlap).length:=by
   unfold rtL;simp only[List.length_append]
 refine o_h (pO id) x.Entry x.Exit d1 d2 d3 x.Shunt s _ fun R hR=>?_
 have main : ∀ n : Int, n = (if x.Shunt then 1 else 0) → R n s := fun n hn => hR n s (a_ax h (w := a_q b_1) (ns := [x.Entry, x.Exit, n]) (o_p x1 x2 (by rw [hn]; split <;> exact ⟨by decide, by decide⟩)) (by simp) (by
     show l.length+ (b_y b_1 [x.Entry,x.Exit,n]).length≤_
     rw[hn];omega) fun s1 g1=>?_)
 · refine bc (fun e=>main 1 (by rw[e];rfl)) (fun e=>main 0 (by rw[e];rfl))
 · subst hn
   have g1:BlIn σ0 s1 id (l ++ b_y b_1 [x.Entry,x.Exit,if x.Shunt then 1 else 0]):=g1
   refine ⟨rfl,(a_h6 (w:=wPath) g1 (by rw[List.length_append];omega)).mono ?_⟩
   rintro r s2 ⟨rfl,g2⟩
   refine ⟨rfl,(h1.ext g2.ext).lenK ?_⟩
   rw[List.length_map]
   refine ⟨fun n s'=>∃j:Nat,n=j∧j≤x.Path.length∧BlIn σ0 s' id (l ++ b_y b_1 [x.Entry,x.Exit,if x.Shunt then 1 else 0] ++ wPath ++ cat stL (x.Path.take j)),fun n _=>x.Path.length - n.toNat,⟨0,rfl,by omega,by rw[List.take_zero,e_f,List.append_nil];exact g2⟩,?_⟩
   rintro n s3 ⟨j,rfl,hj,g3⟩
   refine bcd (fun hlt=>?_) (fun hge=>?_)
   · obtain ⟨y,hy⟩:=a_h (l:=x.Path) (j:=j) (by omega)
     obtain ⟨y1,y2,y3⟩:=x3 y (List.mem_of_getElem? hy)
     have hl:=d_e stL x.Path (j+1)
     rw[a_8 hy,List.length_append] at hl
     refine (h1.ext g3.ext).load (a_m hy) c_s rfl ⟨y.Sec,y.In,y.Out,rfl,a_ax g3 (w:=a_q []) (ns:= [y.Sec,y.In,y.Out]) (o_p y1 y2 y3) (by simp) ?_ fun s4 g4=>⟨rfl,⟨j+1,by rw[a_g (by omega)],by omega,?_⟩,?_⟩⟩
     · show _+ (stL y).length≤_
       simp only[List.length_append];omega
     · rw[a_8 hy,←List.append_assoc];exact g4
     · rw[a_g (by omega)];show x.Path.length - ((j+1:Nat) :Int).toNat < x.Path.length - ((j:Nat) :Int).toNat;omega
   · have e:j=x.Path.length:=by omega
     rw[e,List.take_length] at g3
     refine (a_h6 (w:=wFlank) g3 (by simp only[List.length_append];omega)).mono ?_
     rintro r s4 ⟨rfl,g4⟩
     refine ⟨rfl,(h2.ext g4.ext).lenK ?_⟩
     rw[List.length_map]
     refine ⟨fun n s'=>∃j:Nat,n=j∧j≤x.Flank.length∧BlIn σ0 s' id (l ++ b_y b_1 [x.Entry,x.Exit,if x.Shunt then 1 else 0] ++ wPath ++ cat stL x.Path ++ wFlank ++ cat ndL (x.Flank.take j)),fun n _=>x.Flank.length - n.toNat,⟨0,rfl,by omega,by rw[List.take_zero,e_f,List.append_nil];exact g4⟩,?_⟩
     rintro n s5 ⟨j,rfl,hj,g5⟩
     refine bcd (fun hlt=>?_) (fun hge=>?_)
     · obtain ⟨y,hy⟩:=a_h (l:=x.Flank) (j:=j) (by omega)
       obtain ⟨y1,y2⟩:=x4 y (List.mem_of_getElem? hy)
       have hl:=d_e ndL x.Flank (j+1)
       rw[a_8 hy,List.length_append] at hl
       refine (h2.ext g5.ext).load (a_m hy) e_i rfl ⟨y.Sec,y.Pos,rfl,a_ax g5 (w:=a_q []) (ns:= [y.Sec,y.Pos]) (v_z y1 y2) (by simp) ?_ fun s6 g6=>⟨rfl,⟨j+1,by rw[a_g (by omega)],by omega,?_⟩,?_⟩⟩
       · show _+ (ndL y).length≤_
         simp only[List.length_append];omega
       · rw[a_8 hy,←List.append_assoc];exact g6
       · rw[a_g (by omega)];show x.Flank.length - ((j+1:Nat) :Int).toNat < x.Flank.length - ((j:Nat) :Int).toNat;omega
     · have e:j=x.Flank.length:=by omega
       rw[e,List.take_length] at g5
       refine (a_a2 g5 (w:=a_q wOver) h3 x5 (by show _+ (d_n wOver x.Overlap).length≤_;simp only[List.length_append];omega)).mono ?_
       rintro r s6 ⟨rfl,g6⟩
       refine ⟨rfl,rfl,?_⟩
       have e2:l ++ rtL x=l ++ b_y b_1 [x.Entry,x.Exit,if x.Shunt then 1 else 0] ++ wPath ++ cat stL x.Path ++ wFlank ++ cat ndL x.Flank ++ d_n (a_q wOver).data.toList x.Overlap:=by
         show l ++ rtL x=l ++ b_y b_1 [x.Entry,x.Exit,if x.Shunt then 1 else 0] ++ wPath ++ cat stL x.Path ++ wFlank ++ cat ndL x.Flank ++ d_n wOver x.Overlap
         unfold rtL;simp only[List.append_assoc]
       rw[e2];exact g6
def l_8:List UInt8:= [115,101,99,116,105,111,110]
def wJt:List UInt8:= [106,111,105,110,116]
def wSg:List UInt8:= [115,105,103,110,97,108]
def wX:List UInt8:= [99,114,111,115,115,105,110,103]
def j_g:List UInt8:= [116,105,109,105,110,103]
def g_7 (s:Sec) :List UInt8:=d_n l_8 [s.Kind,s.OC,s.Line]
def jtL (s:Jt) :List UInt8:=d_n wJt [s.A,s.AEnd,s.B,s.BEnd]
def sgL (s:Sg) :List UInt8:=d_n wSg [s.Sec,s.End_]
def xL (s:Int) :List UInt8:=d_n wX [s]
def timL (c:Cf) :List UInt8:=d_n j_g [c.Age,c.Brake,c.Hold,c.Budget]
def d_o (c:Cf) :List UInt8:=cat g_7 c.Secs ++ cat jtL c.Jts ++ cat sgL c.Sigs ++ cat xL c.Xs ++ cat rtL c.Rts ++ timL c
structure cf64 (c:Cf) :Prop where
 secs:∀s ∈ c.Secs,i64 s.Kind∧i64 s.OC∧i64 s.Line
 jts:∀s ∈ c.Jts,i64 s.A∧i64 s.AEnd∧i64 s.B∧i64 s.BEnd
 sigs:∀s ∈ c.Sigs,i64 s.Sec∧i64 s.End_
 xs:∀s ∈ c.Xs,i64 s
 rts:∀x ∈ c.Rts,rt64 x
 tim:i64 c.Age∧i64 c.Brake∧i64 c.Hold∧i64 c.Budget
theorem v_9 {a b c d:Int}(ha:i64 a)(hb:i64 b)(hc:i64 c)(hd:i64 d) :∀n ∈ [a,b,c,d],i64 n:=fun n hn=>by
 simp only[List.mem_cons,List.not_mem_nil,or_false] at hn
 rcases hn with rfl | rfl | rfl | rfl <;> assumption
set_option maxHeartbeats 2000000 in
theorem a_ar {c0 c1 c2 c3 c4:D}{c:Cf}(h:CfAt σ c0 c1 c2 c3 c4 c)(hc:cf64 c)(hs:(d_o c).length≤2 ^ 46) :Fw.Pure prog n_o [cfA c0 c1 c2 c3 c4 c] σ (.a (sA (a_q (d_o c)))):=by
 refine Pure.of ?_ (.one _ (.str _))
 have hlen:(d_o c).length=(cat g_7 c.Secs).length+ (cat jtL c.Jts).length+ (cat sgL c.Sigs).length+ (cat xL c.Xs).length+ (cat rtL c.Rts).length+ (timL c).length:=by
   unfold d_o;simp only[List.length_append]
 have z0:=h.secs.size
 have z1:=h.jts.size
 have z2:=h.sigs.size
 have z3:=h.xs.size
 rw[List.length_map] at z0 z1 z2 z3
 obtain ⟨rows,r1,r2,r3⟩:=h.rts
 have z4:=r1.size
 refine a_fg c0 c1 c2 c3 c4 c.Age c.Brake c.Hold c.Budget σ _ (a_f fun id s0 hid _ he0 hs0=>?_)
 have b0:BlIn σ s0 id []:=⟨hid, .nilp, .nils,hs0, .inl rfl, .nil σ he0,(by intro e;cases e),fun b i n e=>(by cases e)⟩
 refine (h.secs.ext b0.ext).lenK ?_
 rw[List.length_map]
 refine ⟨fun n s'=>∃j:Nat,n=j∧j≤c.Secs.length∧BlIn σ s' id ([] ++ cat g_7 (c.Secs.take j)),fun n _=>c.Secs.length - n.toNat,⟨0,rfl,by omega,by rw[List.take_zero,e_f,List.append_nil];exact b0⟩,?_⟩
 rintro n t0 ⟨j,rfl,hj,g0⟩
 refine bcd (fun hlt=>?_) (fun hge=>?_)
 · obtain ⟨y,hy⟩:=a_h (l:=c.Secs) (j:=j) (by omega)
   obtain ⟨y1,y2,y3⟩:=hc.secs y (List.mem_of_getElem? hy)
   have hl:=d_e g_7 c.Secs (j+1)
   rw[a_8 hy,List.length_append] at hl
   refine (h.secs.ext g0.ext).load (a_m hy) b_2 rfl ⟨y.Kind,y.OC,y.Line,rfl,o_g g0 (w:=a_q l_8) (ns:= [y.Kind,y.OC,y.Line]) (o_p y1 y2 y3) (by simp) ?_ fun s4 g4=>⟨rfl,⟨j+1,by rw[a_g (by omega)],by omega,?_⟩,?_⟩⟩
   · show _+ (g_7 y).length≤_
     simp only[List.length_append,List.length_nil];omega
   · rw[a_8 hy,←List.append_assoc];exact g4
   · rw[a_g (by omega)];show c.Secs.length - ((j+1:Nat) :Int).toNat < c.Secs.length - ((j:Nat) :Int).toNat;omega
 have e0:j=c.Secs.length:=by omega
 rw[e0,List.take_length] at g0
 have b1:=g0
 refine (h.jts.ext b1.ext).lenK ?_
 rw[List.length_map]
 refine ⟨fun n s'=>∃j:Nat,n=j∧j≤c.Jts.length∧BlIn σ s' id ([] ++ cat g_7 c.Secs ++ cat jtL (c.Jts.take j)),fun n _=>c.Jts.length - n.toNat,⟨0,rfl,by omega,by rw[List.take_zero,e_f,List.append_nil];exact b1⟩,?_⟩
 rintro n t1 ⟨j,rfl,hj,g1⟩
 refine bcd (fun hlt=>?_) (fun hge=>?_)
 · obtain ⟨y,hy⟩:=a_h (l:=c.Jts) (j:=j) (by omega)
   obtain ⟨y1,y2,y3,y4⟩:=hc.jts y (List.mem_of_getElem? hy)
   have hl:=d_e jtL c.Jts (j+1)
   rw[a_8 hy,List.length_append] at hl
   refine (h.jts.ext g1.ext).load (a_m hy) d_3 rfl ⟨y.A,y.AEnd,y.B,y.BEnd,rfl,o_g g1 (w:=a_q wJt) (ns:= [y.A,y.AEnd,y.B,y.BEnd]) (v_9 y1 y2 y3 y4) (by simp) ?_ fun s4 g4=>⟨rfl,⟨j+1,by rw[a_g (by omega)],by omega,?_⟩,?_⟩⟩
   · show _+ (jtL y).length≤_
     simp only[List.length_append,List.length_nil];omega
   · rw[a_8 hy,←List.append_assoc];exact g4
   · rw[a_g (by omega)];show c.Jts.length - ((j+1:Nat) :Int).toNat < c.Jts.length - ((j:Nat) :Int).toNat;omega
 have e1:j=c.Jts.length:=by omega
 rw[e1,List.take_length] at g1
 have b2:=g1
 refine (h.sigs.ext b2.ext).lenK ?_
 rw[List.length_map]
 refine ⟨fun n s'=>∃j:Nat,n=j∧j≤c.Sigs.length∧BlIn σ s' id ([] ++ cat g_7 c.Secs ++ cat jtL c.Jts ++ cat sgL (c.Sigs.take j)),fun n _=>c.Sigs.length - n.toNat,⟨0,rfl,by omega,by rw[List.take_zero,e_f,List.append_nil];exact b2⟩,?_⟩
 rintro n t2 ⟨j,rfl,hj,g2⟩
 refine bcd (fun hlt=>?_) (fun hge=>?_)
 · obtain ⟨y,hy⟩:=a_h (l:=c.Sigs) (j:=j) (by omega)
   obtain ⟨y1,y2⟩:=hc.sigs y (List.mem_of_getElem? hy)
   have hl:=d_e sgL c.Sigs (j+1)
   rw[a_8 hy,List.length_append] at hl
   refine (h.sigs.ext g2.ext).load (a_m hy) c_h rfl ⟨y.Sec,y.End_,rfl,o_g g2 (w:=a_q wSg) (ns:= [y.Sec,y.End_]) (v_z y1 y2) (by simp) ?_ fun s4 g4=>⟨rfl,⟨j+1,by rw[a_g (by omega)],by omega,?_⟩,?_⟩⟩
   · show _+ (sgL y).length≤_
     simp only[List.length_append,List.length_nil];omega
   · rw[a_8 hy,←List.append_assoc];exact g4
   · rw[a_g (by omega)];show c.Sigs.length - ((j+1:Nat) :Int).toNat < c.Sigs.length - ((j:Nat) :Int).toNat;omega
 have e2:j=c.Sigs.length:=by omega
 rw[e2,List.take_length] at g2
 have b3:=g2
 refine (h.xs.ext b3.ext).lenK ?_
 rw[List.length_map]
 refine ⟨fun n s'=>∃j:Nat,n=j∧j≤c.Xs.length∧BlIn σ s' id ([] ++ cat g_7 c.Secs ++ cat jtL c.Jts ++ cat sgL c.Sigs ++ cat xL (c.Xs.take j)),fun n _=>c.Xs.length - n.toNat,⟨0,rfl,by omega,by rw[List.take_zero,e_f,List.append_nil];exact b3⟩,?_⟩
 rintro n t3 ⟨j,rfl,hj,g3⟩
 refine bcd (fun hlt=>?_) (fun hge=>?_)
 · obtain ⟨y,hy⟩:=a_h (l:=c.Xs) (j:=j) (by omega)
   have y1:=hc.xs y (List.mem_of_getElem? hy)
   have hl:=d_e xL c.Xs (j+1)
   rw[a_8 hy,List.length_append] at hl
   refine (h.xs.ext g3.ext).load (a_m hy) c_int rfl ⟨y,rfl,o_g g3 (w:=a_q wX) (ns:= [y]) (fun n hn=>by rw[List.mem_singleton.1 hn];exact y1) (by simp) ?_ fun s4 g4=>⟨rfl,⟨j+1,by rw[a_g (by omega)],by omega,?_⟩,?_⟩⟩
   · show _+ (xL y).length≤_
     simp only[List.length_append,List.length_nil];omega
   · rw[a_8 hy,←List.append_assoc];exact g4
   · rw[a_g (by omega)];show c.Xs.length - ((j+1:Nat) :Int).toNat < c.Xs.length - ((j:Nat) :Int).toNat;omega
 have e3:j=c.Xs.length:=by omega
 rw[e3,List.take_length] at g3
 have b4:=g3
 refine (r1.ext b4.ext).lenK ?_
 rw[r2]
 refine ⟨fun n s'=>∃j:Nat,n=j∧j≤c.Rts.length∧BlIn σ s' id ([] ++ cat g_7 c.Secs ++ cat jtL c.Jts ++ cat sgL c.Sigs ++ cat xL c.Xs ++ cat rtL (c.Rts.take j)),fun n _=>c.Rts.length - n.toNat,⟨0,rfl,by omega,by rw[List.take_zero,e_f,List.append_nil];exact b4⟩,?_⟩
 rintro n t4 ⟨j,rfl,hj,g4⟩
 refine bcd (fun hlt=>?_) (fun hge=>?_)
 · obtain ⟨y,hy⟩:=a_h (l:=c.Rts) (j:=j) (by omega)
   obtain ⟨row,hrow⟩:=a_h (l:=rows) (j:=j) (by omega)
   obtain ⟨d1,d2,d3,rfl,q1,q2,q3⟩:=r3 j row y hrow hy
   have hl:=d_e rtL c.Rts (j+1)
   rw[a_8 hy,List.length_append] at hl
   refine (r1.ext g4.ext).load hrow b_h rfl ⟨y.Entry,y.Exit,d1,d2,d3,y.Shunt,rfl,(u_b g4 q1 q2 q3 (hc.rts y (List.mem_of_getElem? hy)) ?_).mono ?_⟩
   · simp only[List.length_append,List.length_nil];omega
   rintro r s4 ⟨rfl,k4⟩
   refine ⟨rfl,⟨j+1,by rw[a_g (by omega)],by omega,?_⟩,?_⟩
   · rw[a_8 hy,←List.append_assoc];exact k4
   · rw[a_g (by omega)];show c.Rts.length - ((j+1:Nat) :Int).toNat < c.Rts.length - ((j:Nat) :Int).toNat;omega
 have e4:j=c.Rts.length:=by omega
 rw[e4,List.take_length] at g4
 obtain ⟨y1,y2,y3,y4⟩:=hc.tim
 refine o_g g4 (w:=a_q j_g) (ns:= [c.Age,c.Brake,c.Hold,c.Budget]) (v_9 y1 y2 y3 y4) (by simp) ?_ fun s5 g5=>⟨rfl,?_⟩
 · show _+ (timL c).length≤_
   simp only[List.length_append,List.length_nil];omega
 have g5:BlIn σ s5 id (d_o c):=by
   have e:d_o c=[] ++ cat g_7 c.Secs ++ cat jtL c.Jts ++ cat sgL c.Sigs ++ cat xL c.Xs ++ cat rtL c.Rts ++ d_n (a_q j_g).data.toList [c.Age,c.Brake,c.Hold,c.Budget]:=by
     show d_o c=[] ++ cat g_7 c.Secs ++ cat jtL c.Jts ++ cat sgL c.Sigs ++ cat xL c.Xs ++ cat rtL c.Rts ++ timL c
     unfold d_o;rw[List.nil_append]
   rw[e];exact g5
 have hne:d_o c≠[]:=by
   unfold d_o timL d_n
   intro e
   have:=congrArg List.length e
   simp at this
 refine (a_m7 g5 hne hs).mono ?_
 rintro r s6 ⟨rfl,he⟩
 exact ⟨_,rfl,rfl,he⟩
end Go.Proofs.YtfdffboelecgoaaGreatDoor
end
section
set_option maxRecDepth 20000
namespace Go.Proofs.YtfdffboelecgoaaGreatDoor
open Go.Fw Go.Proofs Go.RowKit
open Go.Proofs.Tryz (prog)
variable {σ σ0:Store}
theorem g_s (l:List UInt8) :(a_q l).size=l.length:=by show l.toArray.size=_;simp
theorem a_kk (s:ByteArray) :a_q s.data.toList=s:=by cases s;rfl
theorem a_ml (a b:ByteArray) :(ByteArray.append a b).data.toList=a.data.toList ++ b.data.toList:=by
 show (a ++ b).data.toList=_
 simp
theorem n_a {w:ByteArray}{d:D}{ns:List Int}(hd:At prog σ t_int d (ns.map Go.Fw.encI))(hi:∀n ∈ ns,i64 n)(hs:(b_y w.data.toList ns).length≤2 ^ 46) :
   Fw.Pure prog b_i [sA w, .one d] σ (.a (sA (a_q (b_y w.data.toList ns)))):=by
 have hsz:=hd.size
 rw[List.length_map] at hsz
 refine y_h w d σ _ (hd.lenK ?_)
 rw[List.length_map]
 refine ⟨fun s n s'=>∃j:Nat,n=j∧j≤ns.length∧s'=σ∧s=a_q (b_y w.data.toList (ns.take j)),fun _ n _=>ns.length - n.toNat,⟨0,rfl,by omega,rfl,by rw[List.take_zero,r_v,a_kk]⟩,?_⟩
 rintro s n s' ⟨j,rfl,hj,rfl,rfl⟩
 refine bcd (fun hlt=>?_) (fun hge=>?_)
 · obtain ⟨x,hx⟩:=a_h (l:=ns) (j:=j) (by omega)
   have hxi:=hi x (List.mem_of_getElem? hx)
   have hl:=a_fi hxi
   have ht:=t_4 w.data.toList ns (j+1)
   have hsucc:=t_3 w.data.toList hx
   rw[hsucc,List.length_append,List.length_cons] at ht
   refine hd.load (a_m hx) c_int rfl ⟨x,rfl,(a_cx hxi).use ⟨_,rfl,?_,?_,⟨j+1,by rw[a_g (by omega)],by omega,rfl,?_⟩,?_⟩⟩
   · rw[g_s];omega
   · rw[g_s]
     show ((b_y w.data.toList (ns.take j)).length:Int) + (((ByteArray.mk (Array.mk ([32] ++ Lib.itoa x))).size:Nat) :Int)≤_
     have:(ByteArray.mk (Array.mk ([32] ++ Lib.itoa x))).size=(Lib.itoa x).length+1:=by show ([32] ++ Lib.itoa x).toArray.size=_;simp
     rw[this];omega
   · rw[a_ml,hsucc];rfl
   · rw[a_g (by omega)];show ns.length - ((j+1:Nat) :Int).toNat < ns.length - ((j:Nat) :Int).toNat;omega
 · have e:j=ns.length:=by omega
   rw[e,List.take_length]
   exact ⟨rfl,rfl⟩
theorem i_g {s:Store}{d:D}{l:List UInt8}(h:Own prog σ0 s a_s d (l.map b_t)){t:List UInt8}(hs:l.length+t.length≤2 ^ 46){K:D→Store→Prop}(hK:∀d' s',Own prog σ0 s' a_s d' ((l ++ t).map b_t)→K d' s') :
   c_c prog s 5 1 d (b_0 (a_q t)) K:=
 r_7 (es:=1) (h.append (a_d1 s (l:=t) (by omega)) (by simp;omega) (by simp;omega) fun d' s' o _ _=>hK d' s' (by rw[List.map_append];exact o))
theorem a_ku {s:Store}{d:D}{l:List UInt8}(h:Own prog σ0 s a_s d (l.map b_t))(hs:l.length+1≤2 ^ 46){K:D→Store→Prop}(hK:∀d' s',Own prog σ0 s' a_s d' ((l ++ [10]).map b_t)→K d' s') :
   Fw.newObj s (.live a_s [[.int .u8 10]]) fun i s'=>a_e prog s' a_s 1 d (.osl i 0 1) K:=a_f fun i s1 hi _ he h1=>by
 have hA:At prog s1 a_s (.osl i 0 1) (([10]:List UInt8).map b_t):=At.fresh h1 (by simp) rfl
 exact (h.ext' he).append hA (by simp;omega) (by simp;omega) fun d' s' o _ _=>hK d' s' (by rw[List.map_append];exact o)
theorem o_w {s:Store}{w:List UInt8}{ns:List Int}(hi:∀n ∈ ns,i64 n)(hn:ns.length < 2 ^ 60)(hs:(b_y w ns).length≤2 ^ 46){Q:RV→Store→Prop}(hQ:∀s',Ext s s'→Q (.a (sA (a_q (b_y w ns)))) s') :
   Fw.newObj s (.live t_int (ns.map Go.Fw.encI)) fun i s1=>DCalls prog b_i [sA (a_q w), .one (.osl i 0 ns.length)] s1 Q:=a_f fun i s1 hi1 _ he h1=>
 (n_a (w:=a_q w) (At.fresh h1 (by rw[List.length_map];exact hn) (by rw[List.length_map])) hi hs).use (hQ s1 he)
theorem n_y {s:Store}{d:D}{l w:List UInt8}{ns:List Int}(h:Own prog σ0 s a_s d (l.map b_t))(hi:∀n ∈ ns,i64 n)(hn:ns.length < 2 ^ 60)(hs:l.length+ (d_n w ns).length≤2 ^ 46){K:D→Store→Prop}
   (hK:∀d' s',Own prog σ0 s' a_s d' ((l ++ d_n w ns).map b_t)→K d' s') :
   Fw.newObj s (.live t_int (ns.map Go.Fw.encI)) fun i s1=>DCalls prog b_i [sA (a_q w), .one (.osl i 0 ns.length)] s1 fun r s2=>∃t,r= .a (.one (.str t))∧c_c prog s2 5 1 d (b_0 t) fun d1 s3=>
     Fw.newObj s3 (.live a_s [[.int .u8 10]]) fun i1 s4=>a_e prog s4 a_s 1 d1 (.osl i1 0 1) K:=by
 have hs':l.length+ ((b_y w ns).length+1)≤2 ^ 46:=by
   unfold d_n at hs
   rw[List.length_append] at hs
   exact hs
 refine o_w hi hn (by omega) fun s2 he=>⟨_,rfl,i_g (h.ext' he) (by omega) fun d1 s3 h3=>a_ku h3 (by rw[List.length_append];omega) fun d2 s5 h5=>hK d2 s5 ?_⟩
 unfold d_n
 rw[←List.append_assoc];exact h5
set_option maxHeartbeats 4000000 in
theorem p_u {c0 c1 c2 c3 c4:D}{c:Cf}(h:CfAt σ c0 c1 c2 c3 c4 c)(hc:cf64 c)(hs:(d_o c).length≤2 ^ 46) :Fw.Pure prog h_3 [cfA c0 c1 c2 c3 c4 c] σ (.a (sA (a_q (d_o c)))):=by
 refine Pure.of ?_ (.one _ (.str _))
 have hlen:(d_o c).length=(cat g_7 c.Secs).length+ (cat jtL c.Jts).length+ (cat sgL c.Sigs).length+ (cat xL c.Xs).length+ (cat rtL c.Rts).length+ (timL c).length:=by
   unfold d_o;simp only[List.length_append]
 have z0:=h.secs.size
 have z1:=h.jts.size
 have z2:=h.sigs.size
 have z3:=h.xs.size
 rw[List.length_map] at z0 z1 z2 z3
 obtain ⟨rows,r1,r2,r3⟩:=h.rts
 have z4:=r1.size
 refine a_ct c0 c1 c2 c3 c4 c.Age c.Brake c.Hold c.Budget σ _ ?_
 have b0:Own prog σ σ a_s .nils (([]:List UInt8).map b_t):= .nil σ (.refl _)
 refine (h.secs.ext b0.ext).lenK ?_
 rw[List.length_map]
 refine ⟨fun d n s'=>∃j:Nat,n=j∧j≤c.Secs.length∧Own prog σ s' a_s d (([] ++ cat g_7 (c.Secs.take j)).map b_t),fun _ n _=>c.Secs.length - n.toNat,⟨0,rfl,by omega,by rw[List.take_zero,e_f,List.append_nil];exact b0⟩,?_⟩
 rintro d n t0 ⟨j,rfl,hj,b1⟩
 refine bcd (fun hlt=>?_) (fun hge=>?_)
 · obtain ⟨y,hy⟩:=a_h (l:=c.Secs) (j:=j) (by omega)
   obtain ⟨y1,y2,y3⟩:=hc.secs y (List.mem_of_getElem? hy)
   have hl:=d_e g_7 c.Secs (j+1)
   rw[a_8 hy,List.length_append] at hl
   refine (h.secs.ext b1.ext).load (a_m hy) b_2 rfl ⟨y.Kind,y.OC,y.Line,rfl,n_y b1 (w:=l_8) (ns:= [y.Kind,y.OC,y.Line]) (o_p y1 y2 y3) (by simp) ?_ fun d4 s4 g4=>⟨⟨j+1,by rw[a_g (by omega)],by omega,?_⟩,?_⟩⟩
   · show _+ (g_7 y).length≤_
     simp only[List.length_append,List.length_nil];omega
   · rw[a_8 hy,←List.append_assoc];exact g4
   · rw[a_g (by omega)];show c.Secs.length - ((j+1:Nat) :Int).toNat < c.Secs.length - ((j:Nat) :Int).toNat;omega
 have e0:j=c.Secs.length:=by omega
 rw[e0,List.take_length] at b1
 refine (h.jts.ext b1.ext).lenK ?_
 rw[List.length_map]
 refine ⟨fun d n s'=>∃j:Nat,n=j∧j≤c.Jts.length∧Own prog σ s' a_s d (([] ++ cat g_7 c.Secs ++ cat jtL (c.Jts.take j)).map b_t),fun _ n _=>c.Jts.length - n.toNat,⟨0,rfl,by omega,by rw[List.take_zero,e_f,List.append_nil];exact b1⟩,?_⟩
 rintro d n t1 ⟨j,rfl,hj,b2⟩
 refine bcd (fun hlt=>?_) (fun hge=>?_)
 · obtain ⟨y,hy⟩:=a_h (l:=c.Jts) (j:=j) (by omega)
   obtain ⟨y1,y2,y3,y4⟩:=hc.jts y (List.mem_of_getElem? hy)
   have hl:=d_e jtL c.Jts (j+1)
   rw[a_8 hy,List.length_append] at hl
   refine (h.jts.ext b2.ext).load (a_m hy) d_3 rfl ⟨y.A,y.AEnd,y.B,y.BEnd,rfl,n_y b2 (w:=wJt) (ns:= [y.A,y.AEnd,y.B,y.BEnd]) (v_9 y1 y2 y3 y4) (by simp) ?_ fun d4 s4 g4=>⟨⟨j+1,by rw[a_g (by omega)],by omega,?_⟩,?_⟩⟩
   · show _+ (jtL y).length≤_
     simp only[List.length_append,List.length_nil];omega
   · rw[a_8 hy,←List.append_assoc];exact g4
   · rw[a_g (by omega)];show c.Jts.length - ((j+1:Nat) :Int).toNat < c.Jts.length - ((j:Nat) :Int).toNat;omega
 have e1:j=c.Jts.length:=by omega
 rw[e1,List.take_length] at b2
 refine (h.sigs.ext b2.ext).lenK ?_
 rw[List.length_map]
 refine ⟨fun d n s'=>∃j:Nat,n=j∧j≤c.Sigs.length∧Own prog σ s' a_s d (([] ++ cat g_7 c.Secs ++ cat jtL c.Jts ++ cat sgL (c.Sigs.take j)).map b_t),fun _ n _=>c.Sigs.length - n.toNat,⟨0,rfl,by omega,by rw[List.take_zero,e_f,List.append_nil];exact b2⟩,?_⟩
 rintro d n t2 ⟨j,rfl,hj,b3⟩
 refine bcd (fun hlt=>?_) (fun hge=>?_)
 · obtain ⟨y,hy⟩:=a_h (l:=c.Sigs) (j:=j) (by omega)
   obtain ⟨y1,y2⟩:=hc.sigs y (List.mem_of_getElem? hy)
   have hl:=d_e sgL c.Sigs (j+1)
   rw[a_8 hy,List.length_append] at hl
   refine (h.sigs.ext b3.ext).load (a_m hy) c_h rfl ⟨y.Sec,y.End_,rfl,n_y b3 (w:=wSg) (ns:= [y.Sec,y.End_]) (v_z y1 y2) (by simp) ?_ fun d4 s4 g4=>⟨⟨j+1,by rw[a_g (by omega)],by omega,?_⟩,?_⟩⟩
   · show _+ (sgL y).length≤_
     simp only[List.length_append,List.length_nil];omega
   · rw[a_8 hy,←List.append_assoc];exact g4
   · rw[a_g (by omega)];show c.Sigs.length - ((j+1:Nat) :Int).toNat < c.Sigs.length - ((j:Nat) :Int).toNat;omega
 have e2:j=c.Sigs.length:=by omega
 rw[e2,List.take_length] at b3
 refine (h.xs.ext b3.ext).lenK ?_
 rw[List.length_map]
 refine ⟨fun d n s'=>∃j:Nat,n=j∧j≤c.Xs.length∧Own prog σ s' a_s d (([] ++ cat g_7 c.Secs ++ cat jtL c.Jts ++ cat sgL c.Sigs ++ cat xL (c.Xs.take j)).map b_t),fun _ n _=>c.Xs.length - n.toNat,⟨0,rfl,by omega,by rw[List.take_zero,e_f,List.append_nil];exact b3⟩,?_⟩
 rintro d n t3 ⟨j,rfl,hj,b4⟩
 refine bcd (fun hlt=>?_) (fun hge=>?_)
 · obtain ⟨y,hy⟩:=a_h (l:=c.Xs) (j:=j) (by omega)
   have y1:=hc.xs y (List.mem_of_getElem? hy)
   have hl:=d_e xL c.Xs (j+1)
   rw[a_8 hy,List.length_append] at hl
   refine (h.xs.ext b4.ext).load (a_m hy) c_int rfl ⟨y,rfl,n_y b4 (w:=wX) (ns:= [y]) (fun n hn=>by rw[List.mem_singleton.1 hn];exact y1) (by simp) ?_ fun d4 s4 g4=>⟨⟨j+1,by rw[a_g (by omega)],by omega,?_⟩,?_⟩⟩
   · show _+ (xL y).length≤_
     simp only[List.length_append,List.length_nil];omega
   · rw[a_8 hy,←List.append_assoc];exact g4
   · rw[a_g (by omega)];show c.Xs.length - ((j+1:Nat) :Int).toNat < c.Xs.length - ((j:Nat) :Int).toNat;omega
 have e3:j=c.Xs.length:=by omega
 rw[e3,List.take_length] at b4
 refine (r1.ext b4.ext).lenK ?_
 rw[r2]
 refine ⟨fun d n s'=>∃j:Nat,n=j∧j≤c.Rts.length∧Own prog σ s' a_s d (([] ++ cat g_7 c.Secs ++ cat jtL c.Jts ++ cat sgL c.Sigs ++ cat xL c.Xs ++ cat rtL (c.Rts.take j)).map b_t),fun _ n _=>c.Rts.length - n.toNat,⟨0,rfl,by omega,by rw[List.take_zero,e_f,List.append_nil];exact b4⟩,?_⟩
 rintro d n t4 ⟨j,rfl,hj,b5⟩
 refine bcd (fun hlt=>?_) (fun hge=>?_)
 · obtain ⟨y,hy⟩:=a_h (l:=c.Rts) (j:=j) (by omega)
   obtain ⟨row,hrow⟩:=a_h (l:=rows) (j:=j) (by omega)
   obtain ⟨d1,d2,d3,rfl,q1,q2,q3⟩:=r3 j row y hrow hy
   obtain ⟨x1,x2,x3,x4,x5⟩:=hc.rts y (List.mem_of_getElem? hy)
   have hl:=d_e rtL c.Rts (j+1)
   rw[a_8 hy,List.length_append] at hl
   have hlr:(rtL y).length=(b_y b_1 [y.Entry,y.Exit,if y.Shunt then 1 else 0]).length+wPath.length+ (cat stL y.Path).length+wFlank.length+ (cat ndL y.Flank).length+ (d_n wOver y.Overlap).length:=by
     unfold rtL;simp only[List.length_append]
   have k1:=q1.size
   have k2:=q2.size
   have k3:=q3.size
   rw[List.length_map] at k1 k2 k3
   refine (r1.ext b5.ext).load hrow b_h rfl ⟨y.Entry,y.Exit,d1,d2,d3,y.Shunt,rfl,fun R hR=>?_⟩
   have main:∀n:Int,n=(if y.Shunt then 1 else 0)→R n t4:=fun n hn=>hR n t4 (o_w (w:=b_1) (ns:= [y.Entry,y.Exit,n]) (o_p x1 x2 (by rw[hn];split <;> exact ⟨by decide,by decide⟩)) (by simp) (by rw[hn];omega) fun s1 he1=>⟨_,rfl,by rw[g_s,hn];omega,?_⟩)
   · exact bc (fun e=>⟨by first | rfl | trivial,main 1 (by rw[e];rfl)⟩) (fun e=>⟨by first | rfl | trivial,main 0 (by rw[e];rfl)⟩)
   subst hn
   refine i_g (t:=b_y b_1 [y.Entry,y.Exit,if y.Shunt then 1 else 0] ++ wPath) (b5.ext' he1) (by simp only[List.length_append,List.length_nil];omega) fun d8 s2 h8=>?_
   refine (q1.ext h8.ext).lenK ?_
   rw[List.length_map]
   refine ⟨fun d n s'=>∃i:Nat,n=i∧i≤y.Path.length∧Own prog σ s' a_s d (([] ++ cat g_7 c.Secs ++ cat jtL c.Jts ++ cat sgL c.Sigs ++ cat xL c.Xs ++ cat rtL (c.Rts.take j) ++ (b_y b_1 [y.Entry,y.Exit,if y.Shunt then 1 else 0] ++ wPath) ++ cat stL (y.Path.take i)).map b_t),fun _ n _=>y.Path.length - n.toNat,⟨0,rfl,by omega,by rw[List.take_zero,e_f,List.append_nil];exact h8⟩,?_⟩
   rintro d n s3 ⟨i,rfl,hi,h9⟩
   refine bcd (fun hlt=>?_) (fun hge=>?_)
   · obtain ⟨z,hz⟩:=a_h (l:=y.Path) (j:=i) (by omega)
     obtain ⟨y1,y2,y3⟩:=x3 z (List.mem_of_getElem? hz)
     have hl2:=d_e stL y.Path (i+1)
     rw[a_8 hz,List.length_append] at hl2
     have e1:(stL z).length=(b_y [] [z.Sec,z.In,z.Out]).length:=rfl
     refine (q1.ext h9.ext).load (a_m hz) c_s rfl ⟨z.Sec,z.In,z.Out,rfl,o_w (w:= []) (ns:= [z.Sec,z.In,z.Out]) (o_p y1 y2 y3) (by simp) (by omega) fun s4 he4=>⟨_,rfl,i_g (h9.ext' he4) (by simp only[List.length_append,List.length_nil];omega) fun d9 s5 g5=>⟨by first | rfl | trivial,⟨i+1,by rw[a_g (by omega)],by omega,?_⟩,?_⟩⟩⟩
     · rw[a_8 hz,←List.append_assoc];exact g5
     · rw[a_g (by omega)];show y.Path.length - ((i+1:Nat) :Int).toNat < y.Path.length - ((i:Nat) :Int).toNat;omega
   have e5:i=y.Path.length:=by omega
   rw[e5,List.take_length] at h9
   refine i_g (t:=wFlank) h9 (by simp only[List.length_append,List.length_nil];omega) fun d10 s6 h10=>?_
   refine (q2.ext h10.ext).lenK ?_
   rw[List.length_map]
   refine ⟨fun d n s'=>∃i:Nat,n=i∧i≤y.Flank.length∧Own prog σ s' a_s d (([] ++ cat g_7 c.Secs ++ cat jtL c.Jts ++ cat sgL c.Sigs ++ cat xL c.Xs ++ cat rtL (c.Rts.take j) ++ (b_y b_1 [y.Entry,y.Exit,if y.Shunt then 1 else 0] ++ wPath) ++ cat stL y.Path ++ wFlank ++ cat ndL (y.Flank.take i)).map b_t),fun _ n _=>y.Flank.length - n.toNat,⟨0,rfl,by omega,by rw[List.take_zero,e_f,List.append_nil];exact h10⟩,?_⟩
   rintro d n s7 ⟨m,rfl,hm,h11⟩
   refine bcd (fun hlt=>?_) (fun hge=>?_)
   · obtain ⟨z,hz⟩:=a_h (l:=y.Flank) (j:=m) (by omega)
     obtain ⟨y1,y2⟩:=x4 z (List.mem_of_getElem? hz)
     have hl2:=d_e ndL y.Flank (m+1)
     rw[a_8 hz,List.length_append] at hl2
     have e1:(ndL z).length=(b_y [] [z.Sec,z.Pos]).length:=rfl
     refine (q2.ext h11.ext).load (a_m hz) e_i rfl ⟨z.Sec,z.Pos,rfl,o_w (w:= []) (ns:= [z.Sec,z.Pos]) (v_z y1 y2) (by simp) (by omega) fun s8 he8=>⟨_,rfl,i_g (h11.ext' he8) (by simp only[List.length_append,List.length_nil];omega) fun d9 s9 g9=>⟨by first | rfl | trivial,⟨m+1,by rw[a_g (by omega)],by omega,?_⟩,?_⟩⟩⟩
     · rw[a_8 hz,←List.append_assoc];exact g9
     · rw[a_g (by omega)];show y.Flank.length - ((m+1:Nat) :Int).toNat < y.Flank.length - ((m:Nat) :Int).toNat;omega
   have e6:m=y.Flank.length:=by omega
   rw[e6,List.take_length] at h11
   have hov:(d_n wOver y.Overlap).length=(b_y wOver y.Overlap).length+1:=by unfold d_n;rw[List.length_append];rfl
   refine (n_a (w:=a_q wOver) (q3.ext h11.ext) x5 (by show (b_y wOver y.Overlap).length≤_;omega)).use ⟨_,rfl,i_g (t:=b_y wOver y.Overlap) h11 (by simp only[List.length_append,List.length_nil];omega) fun d12 s10 h12=>a_ku h12 (by simp only[List.length_append,List.length_nil];omega) fun d13 s11 h13=>⟨⟨j+1,by rw[a_g (by omega)],by omega,?_⟩,?_⟩⟩
   · rw[a_8 hy]
     have e7: [] ++ cat g_7 c.Secs ++ cat jtL c.Jts ++ cat sgL c.Sigs ++ cat xL c.Xs ++ (cat rtL (c.Rts.take j) ++ rtL y) =[] ++ cat g_7 c.Secs ++ cat jtL c.Jts ++ cat sgL c.Sigs ++ cat xL c.Xs ++ cat rtL (c.Rts.take j) ++ (b_y b_1 [y.Entry,y.Exit,if y.Shunt then 1 else 0] ++ wPath) ++ cat stL y.Path ++ wFlank ++ cat ndL y.Flank ++ b_y wOver y.Overlap ++ [10]:=by
       unfold rtL d_n;simp only[List.append_assoc]
     rw[e7];exact h13
   · rw[a_g (by omega)];show c.Rts.length - ((j+1:Nat) :Int).toNat < c.Rts.length - ((j:Nat) :Int).toNat;omega
 have e4:j=c.Rts.length:=by omega
 rw[e4,List.take_length] at b5
 obtain ⟨y1,y2,y3,y4⟩:=hc.tim
 refine n_y b5 (w:=j_g) (ns:= [c.Age,c.Brake,c.Hold,c.Budget]) (v_9 y1 y2 y3 y4) (by simp) ?_ fun d5 s5 g5=>⟨a_q (d_o c),?_,rfl,g5.ext⟩
 · show _+ (timL c).length≤_
   simp only[List.length_append,List.length_nil];omega
 have e:d_o c=[] ++ cat g_7 c.Secs ++ cat jtL c.Jts ++ cat sgL c.Sigs ++ cat xL c.Xs ++ cat rtL c.Rts ++ d_n j_g [c.Age,c.Brake,c.Hold,c.Budget]:=by
   show d_o c=[] ++ cat g_7 c.Secs ++ cat jtL c.Jts ++ cat sgL c.Sigs ++ cat xL c.Xs ++ cat rtL c.Rts ++ timL c
   unfold d_o;rw[List.nil_append]
 rw[e];exact g5.at_.rows
end Go.Proofs.YtfdffboelecgoaaGreatDoor
end
section
set_option maxRecDepth 20000
namespace Go.Proofs.YtfdffboelecgoaaGreatDoor
open Go.Fw Go.Proofs Go.RowKit
open Go.Proofs.Tryz (prog)
variable {σ σ0:Store}
theorem n_p (l:List UInt8) :ByteArray.toList (a_q l) =l:=by
 rw[Lib.toList_data];rfl
theorem y_p {a0 a1 a2 a3 a4 b0 b1 b2 b3 b4:D}{a b:Cf}(ha:CfAt σ a0 a1 a2 a3 a4 a)(hb:CfAt σ b0 b1 b2 b3 b4 b)(ha6:cf64 a)(hb6:cf64 b)(hsa:(d_o a).length≤2 ^ 46)(hsb:(d_o b).length≤2 ^ 46) :
   Fw.Pure prog l_n [cfA a0 a1 a2 a3 a4 a,cfA b0 b1 b2 b3 b4 b] σ (.a (bA (d_o a == d_o b))):=
 a_cv a0 a1 a2 a3 a4 a.Age a.Brake a.Hold a.Budget b0 b1 b2 b3 b4 b.Age b.Brake b.Hold b.Budget σ _
   ((p_u ha ha6 hsa).use ⟨_,rfl,(p_u hb hb6 hsb).use ⟨_,rfl,by rw[n_p,n_p],rfl⟩⟩)
structure WdIn (σ0 s:Store) (id:Nat) (ws:List ByteArray) (bad:Bool) :Prop where
 new:σ0 id= .free
 ext:Ext σ0 s
 cell:∃d,s id= .live s_e [[d, .bool bad]]∧At prog σ0 c_g d (ws.map g_j)
theorem k_0 {s s':Store}{id:Nat}(h:Ext σ0 s)(hn:σ0 id= .free)(ho:∀i,i≠id→s' i=s i) :Ext σ0 s':=fun i hi=>by
 rw[ho i fun e=>hi (e ▸ hn)];exact h i hi
theorem a_ib {s:Store}{id:Nat}{ws:List ByteArray}{bad:Bool}(h:WdIn σ0 s id ws bad) :
   DCalls prog a_3 [.one (pO id)] s fun r s'=>r= .a (sA (ws.headD (a_q [])))∧WdIn σ0 s' id ws.tail (bad || ws.isEmpty)∧∀i,i≠id→s' i=s i:=by
 obtain ⟨hn,he,d,h1,h0⟩:=h
 have h2:=h0.ext he
 have hsz:=h2.size
 rw[List.length_map] at hsz
 refine r_n (pO id) s _ ⟨trivial,_,_,_,rfl,_,a_j h1,d,rfl,h2.lenK ?_⟩
 rw[List.length_map]
 refine bce (fun e=>?_) (fun e=>?_)
 · have:ws=[]:=List.length_eq_zero_iff.1 (by omega)
   subst this
   refine ⟨trivial,_,_,_,rfl,b_d h1 (by simp) fun s' hs ho=>⟨rfl,⟨hn,k_0 he hn ho,d,by rw[hs];simp[patch],h0⟩,ho⟩⟩
 · cases ws with
   | nil=>exact absurd rfl e
   | cons w ws=>
     refine ⟨trivial,_,_,_,rfl,_,a_j h1,d,rfl,h2.load (n:=0) (j:=0) rfl w_t rfl ⟨w,rfl,trivial,_,_,_,rfl,_,a_j h1,d,rfl,h2.sliceFromK (lo:=1) w_t rfl (by simp) ⟨trivial,_,_,_,rfl,b_d h1 (by simp) fun s' hs ho=>⟨rfl,⟨hn,k_0 he hn ho,e_g d 1 ((w::ws).map g_j).length,by rw[hs];simp[patch],?_⟩,ho⟩⟩⟩⟩
     have hA:=h0.sub (lo:=1) (hi:=((w::ws).map g_j).length) (by simp) (Nat.le_refl _)
     have e2:((((w::ws).map g_j).drop 1).take (((w::ws).map g_j).length - 1)) =ws.map g_j:=by
       rw[List.take_of_length_le (by simp)];rfl
     rw[e2] at hA
     exact hA
theorem a_iw (l:List UInt8) :i64 (f_d l).1:=by
 unfold f_d
 cases h:Lib.atoiAll l with
 | range=>
   show i64 (Lib.atoiSat l)
   unfold Lib.atoiSat
   split <;> exact ⟨by decide,by decide⟩
 | ok v=>
   show i64 v
   cases l with
   | nil=>simp[Lib.atoiAll] at h
   | cons c r=>
     unfold Lib.atoiAll at h
     simp only at h
     split at h
     · cases h
     · cases h
     · split at h
       · cases h
       · split at h
         · cases h
         · injection h with h
           unfold i64
           rw[←h]
           split <;> omega
 | _=>exact (show i64 0 from ⟨by decide,by decide⟩)
def x_0 (w:ByteArray) :Bool:= !(f_d w.data.toList).2 && (Lib.itoa (f_d w.data.toList).1 == w.data.toList)
theorem a_pf {s:Store}{id:Nat}{ws:List ByteArray}{bad:Bool}(h:WdIn σ0 s id ws bad)(hsz:(ws.headD (a_q [])).size≤281474976710656) :
   DCalls prog a_a [.one (pO id)] s fun r s'=>r= .a (iA (f_d (ws.headD (a_q [])).data.toList).1)∧WdIn σ0 s' id ws.tail (bad || ws.isEmpty || !x_0 (ws.headD (a_q [])))∧∀i,i≠id→s' i=s i:=by
 refine t_m (pO id) s _ ((a_ib h).mono ?_)
 rintro r s1 ⟨rfl,h1,ho1⟩
 generalize ws.headD (a_q []) =w at *
 refine ⟨w,rfl,(a_n1 hsz).use ⟨_,_,rfl,?_⟩⟩
 obtain ⟨hn,he,d,g1,g2⟩:=h1
 have hi:=a_iw w.data.toList
 have fin:∀b:Bool,b=(bad || ws.isEmpty || !x_0 w)→a_d [.bool b] s1 (.osl id 0 1) 0 (0+1) fun s'=>(RV.a (iA (f_d w.data.toList).1) =RV.a (iA (f_d w.data.toList).1)∧WdIn σ0 s' id ws.tail (bad || ws.isEmpty || !x_0 w)∧∀i,i≠id→s' i=s i):=fun b hb=>
   b_d g1 (by simp) fun s' hs ho=>⟨rfl,⟨hn,k_0 he hn ho,d,by rw[hs,hb];simp[patch],g2⟩,fun i hne=>(ho i hne).trans (ho1 i hne)⟩
 refine ⟨trivial,_,_,_,rfl,_,a_j g1,bad || ws.isEmpty,rfl,bc (fun e=>?_) (fun e=>?_)⟩
 · exact ⟨trivial,_,_,_,rfl,fin true (by rw[e];rfl)⟩
 · refine ⟨!(f_d w.data.toList).2,rfl,?_⟩
   cases hee:(f_d w.data.toList).2 with
   | true=>exact bc (fun _=>⟨trivial,_,_,_,rfl,fin true (by rw[e];unfold x_0;rw[hee];rfl)⟩) (fun e=>absurd e (by decide))
   | false=>
     refine bc (fun e=>absurd e (by decide)) (fun _=>(a_cx hi).use ⟨_,rfl,trivial,_,_,_,rfl,fin _ ?_⟩)
     rw[e,n_p,Lib.toList_data]
     unfold x_0
     rw[hee]
     simp
end Go.Proofs.YtfdffboelecgoaaGreatDoor
end
namespace Go.Proofs.YtfdffboelecgoaaGreatDoor
open Go.Fw Go.Proofs
section
abbrev Ws:=List ByteArray × Bool
def c_i (s:Ws) :ByteArray × Ws:=(s.1.headD (a_q []),(s.1.tail,s.2 || s.1.isEmpty))
def a_p (s:Ws) :Int × Ws:=((f_d (s.1.headD (a_q [])).data.toList).1,(s.1.tail,s.2 || s.1.isEmpty || !x_0 (s.1.headD (a_q []))))
def d_m (word:List UInt8)(s:Ws) :Bool:= !s.2 && !s.1.isEmpty && (word.isEmpty || !((s.1.headD (a_q [])).data.toList == word))
def f_l {α:Type}(word:List UInt8)(step:α→Ws→α × Ws) :Nat→α→Ws→α × Ws
 | 0,x,s=>(x,s)
 | n+1,x,s=>if d_m word s then f_l word step n (step x s).1 (step x s).2 else (x,s)
def c_w {α:Type}(word:List UInt8)(step:α→Ws→α × Ws)(x:α)(s:Ws) :α × Ws:=
 let p:=f_l word step s.1.length x s
 if word.isEmpty then p else (p.1,((c_i p.2).2.1,!((c_i p.2).1.data.toList == word) || (c_i p.2).2.2))
def n_z (x:Rt)(s:Ws) :Rt × Ws:=
 let a:=a_p s;let b:=a_p a.2;let c:=a_p b.2
 ({ x with Path:=x.Path ++ [⟨a.1,b.1,c.1⟩] },c.2)
def o_b (x:Rt)(s:Ws) :Rt × Ws:=
 let a:=a_p s;let b:=a_p a.2
 ({ x with Flank:=x.Flank ++ [⟨a.1,b.1⟩] },b.2)
def m_3 (x:Rt)(s:Ws) :Rt × Ws:=
 let a:=a_p s
 ({ x with Overlap:=x.Overlap ++ [a.1] },a.2)
def c_r (s:Ws) :Rt × Ws:=
 let a:=a_p s;let b:=a_p a.2;let c:=a_p b.2
 let p:=c_i c.2
 let w:Ws:=if c.2.2 || !(decide (0≤c.1) && decide (c.1≤1)) then (c.2.1,true) else (p.2.1,!(p.1.data.toList == [112,97,116,104]))
 let r:=c_w (wFlank.drop 1) n_z ⟨a.1,b.1,[],[],[],c.1 == 1⟩ w
 let q:=c_w (wOver.drop 1) o_b r.1 r.2
 c_w [] m_3 q.1 q.2
def c_8 (c:Cf)(s:Ws) :Int × Cf × Ws:=
 let h:=c_i s
 let w:=h.1.data.toList
 if w=l_8 then let x:=a_p h.2;let y:=a_p x.2;let z:=a_p y.2; (1,{ c with Secs:=c.Secs ++ [⟨x.1,y.1,z.1⟩] },z.2)
 else if w=wJt then let x:=a_p h.2;let y:=a_p x.2;let z:=a_p y.2;let u:=a_p z.2; (2,{ c with Jts:=c.Jts ++ [⟨x.1,y.1,z.1,u.1⟩] },u.2)
 else if w=wSg then let x:=a_p h.2;let y:=a_p x.2; (3,{ c with Sigs:=c.Sigs ++ [⟨x.1,y.1⟩] },y.2)
 else if w=wX then let x:=a_p h.2; (4,{ c with Xs:=c.Xs ++ [x.1] },x.2)
 else if w=b_1 then let x:=c_r h.2; (5,{ c with Rts:=c.Rts ++ [x.1] },x.2)
 else if w=j_g then let x:=a_p h.2;let y:=a_p x.2;let z:=a_p y.2;let u:=a_p z.2; (6,{ c with Age:=x.1,Brake:=y.1,Hold:=z.1,Budget:=u.1 },u.2)
 else (0,c,(h.2.1,true))
def c_6:List ByteArray→Cf→Int→Option (Cf × Int)
 | [],c,last=>some (c,last)
 | l::r,c,last=>
   let x:=c_8 c (pieces 32 l,false)
   if x.2.2.2 || !x.2.2.1.isEmpty || decide (x.1 < last) || (x.1 == last && x.1 == 6) then none else c_6 r x.2.1 x.1
def h_k:Cf:=⟨[],[],[],[],[],0,0,0,0⟩
def d_u (t:ByteArray) :Option Cf:=
 match c_6 (pieces 10 (c_v 10 t)) h_k 0 with
 | some (c,last)=>if w_k 10 t && last == 6 then some c else none
 | none=>none
end
end Go.Proofs.YtfdffboelecgoaaGreatDoor
section
set_option maxRecDepth 20000
namespace Go.Proofs.YtfdffboelecgoaaGreatDoor
open Go.Fw Go.Proofs Go.RowKit
open Go.Proofs.Tryz (prog)
variable {σ σ0:Store} {F:Nat→Prop} {wid:Nat}
theorem w_s {s:Store}{el el':TypeId}{d d':D}{rs rs':List (List D)}(h:At prog s el d rs)(h':At prog s el' d' rs')(hc:prog.cellsOf el≠prog.cellsOf el') :Apart d d':=fun i h1 h2=>by
 cases d with
 | osl a b c=>
   cases d' with
   | osl a' b' c'=>
     simp only[b_e,Option.some.injEq] at h1 h2
     subst h1 h2
     obtain ⟨t,rows,g1,g2,_⟩:=h.lt_live
     obtain ⟨t',rows',k1,k2,_⟩:=h'.lt_live
     rw[g1] at k1
     injection k1 with k1 _
     exact hc (by rw[←g2,←k2,k1])
   | _=>simp[b_e] at h2
 | _=>simp[b_e] at h1
theorem d_b {s:Store}{el t:TypeId}{d:D}{rs rows:List (List D)}{id:Nat}(h:At prog s el d rs)(h':s id= .live t rows)(hc:prog.cellsOf el≠prog.cellsOf t) :b_e d≠some id:=fun h1=>by
 cases d with
 | osl a b c=>
   simp only[b_e,Option.some.injEq] at h1
   subst h1
   obtain ⟨t',rows',g1,g2,_⟩:=h.lt_live
   rw[h'] at g1
   injection g1 with g1 _
   exact hc (by rw[←g2,←g1])
 | _=>simp[b_e] at h1
theorem app1 {s:Store}{el:TypeId}{bytes:Nat}{d:D}{rs:List (List D)}{ns:List D}{K:D→Store→Prop}(h:Own prog σ0 s el d rs)(hb:bytes * (rs.length+1)≤140737488355328)(hsz:rs.length+1 < 2 ^ 60)
   (hk:∀d' s',Own prog σ0 s' el d' (rs ++ [ns])→(∀i,s i≠ .free→b_e d≠some i→s' i=s i)→(∀i,b_e d'=some i→b_e d=some i∨s i= .free)→K d' s') :
   Fw.newObj s (.live el [ns]) fun id s1=>a_e prog s1 el bytes d (.osl id 0 1) K:=by
 refine a_f fun id s1 hid _ he hs=>?_
 refine (h.ext' he).append (At.fresh hs (by simp) rfl) (by simpa using hb) (by simpa using hsz) fun d' s' h1 h2 h3=>?_
 refine hk d' s' h1 (fun i hi hd=>?_) (fun i hi=>?_)
 · rw[h2 i (by rw[he i hi];exact hi) (fun a b e=>hd (by rw[e];rfl)),he i hi]
 · cases d' with
   | osl a b c=>
     simp only[b_e,Option.some.injEq] at hi
     subst hi
     rcases h3 a b c rfl with g | ⟨a',b',g⟩
     · by_cases hf:s a= .free
       · exact .inr hf
       · rw[he a hf] at g;exact .inr g
     · exact .inl (by rw[g];rfl)
   | _=>simp[b_e] at hi
def Wx (σ0 s:Store)(wid:Nat)(ws:List ByteArray)(bad:Bool) :Prop:=WdIn σ0 s wid ws bad∧∀w ∈ ws,w.size≤281474976710656
theorem a_fu {ws:List ByteArray}(h:∀w ∈ ws,w.size≤281474976710656) :∀w ∈ ws.tail,w.size≤281474976710656:=fun w hw=>h w (List.mem_of_mem_tail hw)
theorem a_nz {ws:List ByteArray}(h:∀w ∈ ws,w.size≤281474976710656) :(ws.headD (a_q [])).size≤281474976710656:=by
 cases ws with
 | nil=>exact Nat.zero_le _
 | cons a l=>exact h a (by simp)
theorem Wx.frame {s s':Store}{ws:List ByteArray}{bad:Bool}(h:Wx σ0 s wid ws bad)(hs:s' wid=s wid)(he:Ext σ0 s') :Wx σ0 s' wid ws bad:=by
 obtain ⟨⟨h1,h2,d,h3,h4⟩,h5⟩:=h
 exact ⟨⟨h1,he,d,hs.trans h3,h4⟩,h5⟩
theorem k_j {s cur:Store}{ws:List ByteArray}{bad:Bool}(h:Wx σ0 cur wid ws bad)(ho:∀i,i≠wid→cur i=s i) :
   DCalls prog a_a [.one (pO wid)] cur fun r s'=>r= .a (iA (a_p (ws,bad)).1)∧Wx σ0 s' wid (a_p (ws,bad)).2.1 (a_p (ws,bad)).2.2∧∀i,i≠wid→s' i=s i:=
 (a_pf h.1 (a_nz h.2)).mono fun r s' ⟨h1,h2,h3⟩=>⟨h1,⟨h2,a_fu h.2⟩,fun i hi=>(h3 i hi).trans (ho i hi)⟩
theorem w_a {s cur:Store}{ws:List ByteArray}{bad:Bool}(h:Wx σ0 cur wid ws bad)(ho:∀i,i≠wid→cur i=s i) :
   DCalls prog a_3 [.one (pO wid)] cur fun r s'=>r= .a (sA (c_i (ws,bad)).1)∧Wx σ0 s' wid (c_i (ws,bad)).2.1 (c_i (ws,bad)).2.2∧∀i,i≠wid→s' i=s i:=
 (a_ib h.1).mono fun r s' ⟨h1,h2,h3⟩=>⟨h1,⟨h2,a_fu h.2⟩,fun i hi=>(h3 i hi).trans (ho i hi)⟩
structure RtD (σ0:Store) (F:Nat→Prop) (s:Store) (rid:Nat) (x:Rt) (d1 d2 d3:D) :Prop where
 new:σ0 rid= .free
 nf:¬F rid
 fl:∀i,F i→s i≠ .free
 cell:s rid= .live a_w [[iD x.Entry,iD x.Exit,d1,d2,d3, .bool x.Shunt]]
 o1:Own prog σ0 s a_i d1 (x.Path.map St.enc)
 o2:Own prog σ0 s a_r d2 (x.Flank.map Nd.enc)
 o3:Own prog σ0 s t_int d3 (x.Overlap.map Go.Fw.encI)
 f1:∀i,F i→b_e d1≠some i
 f2:∀i,F i→b_e d2≠some i
 f3:∀i,F i→b_e d3≠some i
theorem d_0 {a b:TypeId}{m n:Nat}(ha:prog.cellsOf a=m)(hb:prog.cellsOf b=n)(h:m≠n) :prog.cellsOf a≠prog.cellsOf b:=by rw[ha,hb];exact h
theorem RtD.away {s s':Store}{rid:Nat}{x:Rt}{d1 d2 d3:D}(h:RtD σ0 F s rid x d1 d2 d3)(hw:F wid)(hn:σ0 wid= .free)(hl:s' wid≠ .free)(ho:∀i,i≠wid→s' i=s i) :RtD σ0 F s' rid x d1 d2 d3 where
 new:=h.new
 nf:=h.nf
 fl i hi:=by
   by_cases e:i=wid
   · rw[e];exact hl
   · rw[ho i e];exact h.fl i hi
 cell:=by rw[ho rid fun e=>h.nf (e ▸ hw)];exact h.cell
 o1:=d_g h.o1 hn (h.f1 wid hw) ho
 o2:=d_g h.o2 hn (h.f2 wid hw) ho
 o3:=d_g h.o3 hn (h.f3 wid hw) ho
 f1:=h.f1
 f2:=h.f2
 f3:=h.f3
theorem Wx.live {s:Store}{ws:List ByteArray}{bad:Bool}(h:Wx σ0 s wid ws bad) :s wid≠ .free:=by
 obtain ⟨⟨_,_,d,h3,_⟩,_⟩:=h
 rw[h3];intro e;cases e
theorem f_t {s s' s2:Store}{el:TypeId}{d e:D}{qs:List (List D)}{oid:Nat}(g:Own prog σ0 s el e qs)(h1:∀i,s i≠ .free→b_e d≠some i→s' i=s i)(ha:Apart e d)(he:Ext σ0 s2)(hs:∀i,i≠oid→s2 i=s' i)(hd:b_e e≠some oid) :
   Own prog σ0 s2 el e qs:=
 ⟨g.at_.same fun i a n h=>by
   have hi:s i≠ .free:=by
     have:=g.at_.rows;subst h
     obtain ⟨t,rows,h1,_⟩:=this
     rw[h1];intro e;cases e
   rw[hs i fun e=>hd (by rw[h,←e];rfl),h1 i hi (ha i (by rw[h];rfl))],he,g.new,g.nsl,g.nz⟩
theorem d_d {s' s2:Store}{oid:Nat}(h:Ext σ0 s')(hn:σ0 oid= .free)(hs:∀i,i≠oid→s2 i=s' i) :Ext σ0 s2:=fun i hi=>by
 rw[hs i fun e=>hi (e ▸ hn)];exact h i hi
theorem RtD.addStep {s:Store}{rid:Nat}{x:Rt}{d1 d2 d3:D}{z:St}{K:Store→Prop}(h:RtD σ0 F s rid x d1 d2 d3)(hl:x.Path.length < 2 ^ 40)
   (hk:∀d' s',RtD σ0 F s' rid { x with Path:=x.Path ++ [z] } d' d2 d3→(∀i,F i→s' i=s i)→K s') :
   Fw.newObj s (.live a_i [St.enc z]) fun id s1=>a_e prog s1 a_i 24 d1 (.osl id 0 1) fun dd s2=>∃(e:D) (i off:Nat),(pO rid= .el e i off)∧a_d [dd] s2 e i (off+2) K:=by
 refine app1 h.o1 (by rw[List.length_map];omega) (by rw[List.length_map];omega) fun d' s2 g1 g2 g3=>⟨_,_,_,rfl,?_⟩
 have hr:s rid≠ .free:=by rw[h.cell];intro e;cases e
 have hr1:b_e d1≠some rid:=d_b h.o1.at_ h.cell (d_0 c_s b_h (by decide))
 have hc:s2 rid= .live a_w [[iD x.Entry,iD x.Exit,d1,d2,d3, .bool x.Shunt]]:=by rw[g2 rid hr hr1];exact h.cell
 refine b_d hc (by simp) fun s3 hs3 ho3=>hk d' s3 ?_ fun i hi=>?_
 · have he:=d_d g1.ext h.new ho3
   have ed:b_e d'≠some rid:=fun e=>by
     rcases g3 rid e with g | g
     · exact hr1 g
     · exact hr g
   have nn:∀i,F i→s3 i=s i:=fun i hi=>by rw[ho3 i fun e=>h.nf (e ▸ hi),g2 i (h.fl i hi) (h.f1 i hi)]
   exact {
     new:=h.new,nf:=h.nf,fl:=fun i hi=>by rw[nn i hi];exact h.fl i hi
     cell:=by rw[hs3];rfl
     o1:=by rw[List.map_append];exact d_g g1 h.new ed ho3
     o2:=f_t h.o2 g2 (w_s h.o2.at_ h.o1.at_ (d_0 e_i c_s (by decide))) he ho3 (d_b h.o2.at_ h.cell (d_0 e_i b_h (by decide)))
     o3:=f_t h.o3 g2 (w_s h.o3.at_ h.o1.at_ (d_0 c_int c_s (by decide))) he ho3 (d_b h.o3.at_ h.cell (d_0 c_int b_h (by decide)))
     f1:=fun i hi e=>by
       rcases g3 i e with g | g
       · exact h.f1 i hi g
       · exact h.fl i hi g
     f2:=h.f2,f3:=h.f3 }
 · rw[ho3 i fun e=>h.nf (e ▸ hi),g2 i (h.fl i hi) (h.f1 i hi)]
theorem RtD.addNeed {s:Store}{rid:Nat}{x:Rt}{d1 d2 d3:D}{z:Nd}{K:Store→Prop}(h:RtD σ0 F s rid x d1 d2 d3)(hl:x.Flank.length < 2 ^ 40)
   (hk:∀d' s',RtD σ0 F s' rid { x with Flank:=x.Flank ++ [z] } d1 d' d3→(∀i,F i→s' i=s i)→K s') :
   Fw.newObj s (.live a_r [Nd.enc z]) fun id s1=>a_e prog s1 a_r 16 d2 (.osl id 0 1) fun dd s2=>∃(e:D) (i off:Nat),(pO rid= .el e i off)∧a_d [dd] s2 e i (off+3) K:=by
 refine app1 h.o2 (by rw[List.length_map];omega) (by rw[List.length_map];omega) fun d' s2 g1 g2 g3=>⟨_,_,_,rfl,?_⟩
 have hr:s rid≠ .free:=by rw[h.cell];intro e;cases e
 have hr1:b_e d2≠some rid:=d_b h.o2.at_ h.cell (d_0 e_i b_h (by decide))
 have hc:s2 rid= .live a_w [[iD x.Entry,iD x.Exit,d1,d2,d3, .bool x.Shunt]]:=by rw[g2 rid hr hr1];exact h.cell
 refine b_d hc (by simp) fun s3 hs3 ho3=>hk d' s3 ?_ fun i hi=>?_
 · have he:=d_d g1.ext h.new ho3
   have ed:b_e d'≠some rid:=fun e=>by
     rcases g3 rid e with g | g
     · exact hr1 g
     · exact hr g
   have nn:∀i,F i→s3 i=s i:=fun i hi=>by rw[ho3 i fun e=>h.nf (e ▸ hi),g2 i (h.fl i hi) (h.f2 i hi)]
   exact {
     new:=h.new,nf:=h.nf,fl:=fun i hi=>by rw[nn i hi];exact h.fl i hi
     cell:=by rw[hs3];rfl
     o1:=f_t h.o1 g2 (w_s h.o1.at_ h.o2.at_ (d_0 c_s e_i (by decide))) he ho3 (d_b h.o1.at_ h.cell (d_0 c_s b_h (by decide)))
     o2:=by rw[List.map_append];exact d_g g1 h.new ed ho3
     o3:=f_t h.o3 g2 (w_s h.o3.at_ h.o2.at_ (d_0 c_int e_i (by decide))) he ho3 (d_b h.o3.at_ h.cell (d_0 c_int b_h (by decide)))
     f2:=fun i hi e=>by
       rcases g3 i e with g | g
       · exact h.f2 i hi g
       · exact h.fl i hi g
     f1:=h.f1,f3:=h.f3 }
 · rw[ho3 i fun e=>h.nf (e ▸ hi),g2 i (h.fl i hi) (h.f2 i hi)]
theorem RtD.addOver {s:Store}{rid:Nat}{x:Rt}{d1 d2 d3:D}{z:Int}{K:Store→Prop}(h:RtD σ0 F s rid x d1 d2 d3)(hl:x.Overlap.length < 2 ^ 40)
   (hk:∀d' s',RtD σ0 F s' rid { x with Overlap:=x.Overlap ++ [z] } d1 d2 d'→(∀i,F i→s' i=s i)→K s') :
   Fw.newObj s (.live t_int [Go.Fw.encI z]) fun id s1=>a_e prog s1 t_int 8 d3 (.osl id 0 1) fun dd s2=>∃(e:D) (i off:Nat),(pO rid= .el e i off)∧a_d [dd] s2 e i (off+4) K:=by
 refine app1 h.o3 (by rw[List.length_map];omega) (by rw[List.length_map];omega) fun d' s2 g1 g2 g3=>⟨_,_,_,rfl,?_⟩
 have hr:s rid≠ .free:=by rw[h.cell];intro e;cases e
 have hr1:b_e d3≠some rid:=d_b h.o3.at_ h.cell (d_0 c_int b_h (by decide))
 have hc:s2 rid= .live a_w [[iD x.Entry,iD x.Exit,d1,d2,d3, .bool x.Shunt]]:=by rw[g2 rid hr hr1];exact h.cell
 refine b_d hc (by simp) fun s3 hs3 ho3=>hk d' s3 ?_ fun i hi=>?_
 · have he:=d_d g1.ext h.new ho3
   have ed:b_e d'≠some rid:=fun e=>by
     rcases g3 rid e with g | g
     · exact hr1 g
     · exact hr g
   have nn:∀i,F i→s3 i=s i:=fun i hi=>by rw[ho3 i fun e=>h.nf (e ▸ hi),g2 i (h.fl i hi) (h.f3 i hi)]
   exact {
     new:=h.new,nf:=h.nf,fl:=fun i hi=>by rw[nn i hi];exact h.fl i hi
     cell:=by rw[hs3];rfl
     o1:=f_t h.o1 g2 (w_s h.o1.at_ h.o3.at_ (d_0 c_s c_int (by decide))) he ho3 (d_b h.o1.at_ h.cell (d_0 c_s b_h (by decide)))
     o2:=f_t h.o2 g2 (w_s h.o2.at_ h.o3.at_ (d_0 e_i c_int (by decide))) he ho3 (d_b h.o2.at_ h.cell (d_0 e_i b_h (by decide)))
     o3:=by rw[List.map_append];exact d_g g1 h.new ed ho3
     f3:=fun i hi e=>by
       rcases g3 i e with g | g
       · exact h.f3 i hi g
       · exact h.fl i hi g
     f1:=h.f1,f2:=h.f2 }
 · rw[ho3 i fun e=>h.nf (e ▸ hi),g2 i (h.fl i hi) (h.f3 i hi)]
structure RtIn (σ0:Store) (F:Nat→Prop) (s0:Store) (wid rid bid:Nat) (s:Store) (x:Rt) (ws:List ByteArray) :Prop where
 cell:∃d1 d2 d3,RtD σ0 F s rid x d1 d2 d3
 box:s bid= .live e_r [[pO wid]]
 same:∀i,F i→i≠wid→s i=s0 i
 l1:x.Path.length+ws.length < 2 ^ 40
 l2:x.Flank.length+ws.length < 2 ^ 40
 l3:x.Overlap.length+ws.length < 2 ^ 40
section
variable {s0 s:Store} {rid bid:Nat} {x:Rt} {ws:List ByteArray} {bad:Bool}
theorem a_nc (hw:Wx σ0 s wid ws bad)(hne:ws≠[])(h:RtIn σ0 F s0 wid rid bid s x ws)(hFw:F wid)(hFb:F bid)(hbw:bid≠wid) :
   DCalls prog e_m [.one (pO rid), .one (pO bid)] s fun r s'=>r= .tup []∧Wx σ0 s' wid (n_z x (ws,bad)).2.1 (n_z x (ws,bad)).2.2∧RtIn σ0 F s0 wid rid bid s' (n_z x (ws,bad)).1 (n_z x (ws,bad)).2.1:=by
 obtain ⟨⟨d1,d2,d3,hr⟩,hb,hsm,l1,l2,l3⟩:=h
 have hrw:rid≠wid:=fun e=>hr.nf (e ▸ hFw)
 have hnw:σ0 wid= .free:=hw.1.new
 have hlen:ws.tail.tail.tail.length+1≤ws.length:=by
   cases ws with
   | nil=>exact absurd rfl hne
   | cons a l=>simp only[List.tail_cons,List.length_cons,List.length_tail];omega
 refine n_q (pO rid) (pO bid) s _ ?_
 have ho:∀i,i≠wid→s i=s i:=fun _ _=>rfl
 repeat' apply And.intro
 all_goals
   repeat (first
     | refine ⟨_,_,_,rfl,_,a_j ((ho _ hrw).trans hr.cell),_,rfl,?_⟩
     | refine ⟨_,_,_,rfl,_,a_j ((ho _ hbw).trans hb),_,rfl,?_⟩
     | refine ⟨_,a_j ((ho _ hrw).trans hr.cell),_,rfl,?_⟩
     | refine ⟨_,a_j ((ho _ hbw).trans hb),_,rfl,?_⟩
     | refine ⟨_,_,_,rfl,?_⟩
     | (refine (k_j hw ho).mono ?_;rintro _ _ ⟨rfl,hw,ho⟩;refine ⟨_,rfl,?_⟩))
 all_goals
   refine (hr.away hFw hnw hw.live ho).addStep (z:=⟨_,_,_⟩) (by omega) fun d' s' k1 k2=>⟨rfl,hw.frame (k2 wid hFw) k1.o1.ext,⟨_,_,_,k1⟩,by rw[k2 bid hFb,ho bid hbw,hb],fun i hi hiw=>by rw[k2 i hi,ho i hiw,hsm i hi hiw],?_,?_,?_⟩
 all_goals
   simp only[n_z,a_p,List.length_append,List.length_cons,List.length_nil]
   omega
theorem a_nt (hw:Wx σ0 s wid ws bad)(hne:ws≠[])(h:RtIn σ0 F s0 wid rid bid s x ws)(hFw:F wid)(hFb:F bid)(hbw:bid≠wid) :
   DCalls prog e_j [.one (pO rid), .one (pO bid)] s fun r s'=>r= .tup []∧Wx σ0 s' wid (o_b x (ws,bad)).2.1 (o_b x (ws,bad)).2.2∧RtIn σ0 F s0 wid rid bid s' (o_b x (ws,bad)).1 (o_b x (ws,bad)).2.1:=by
 obtain ⟨⟨d1,d2,d3,hr⟩,hb,hsm,l1,l2,l3⟩:=h
 have hrw:rid≠wid:=fun e=>hr.nf (e ▸ hFw)
 have hnw:σ0 wid= .free:=hw.1.new
 have hlen:ws.tail.tail.length+1≤ws.length:=by
   cases ws with
   | nil=>exact absurd rfl hne
   | cons a l=>simp only[List.tail_cons,List.length_cons,List.length_tail];omega
 refine n_8 (pO rid) (pO bid) s _ ?_
 have ho:∀i,i≠wid→s i=s i:=fun _ _=>rfl
 repeat' apply And.intro
 all_goals
   repeat (first
     | refine ⟨_,_,_,rfl,_,a_j ((ho _ hrw).trans hr.cell),_,rfl,?_⟩
     | refine ⟨_,_,_,rfl,_,a_j ((ho _ hbw).trans hb),_,rfl,?_⟩
     | refine ⟨_,a_j ((ho _ hrw).trans hr.cell),_,rfl,?_⟩
     | refine ⟨_,a_j ((ho _ hbw).trans hb),_,rfl,?_⟩
     | refine ⟨_,_,_,rfl,?_⟩
     | (refine (k_j hw ho).mono ?_;rintro _ _ ⟨rfl,hw,ho⟩;refine ⟨_,rfl,?_⟩))
 all_goals
   refine (hr.away hFw hnw hw.live ho).addNeed (z:=⟨_,_⟩) (by omega) fun d' s' k1 k2=>⟨rfl,hw.frame (k2 wid hFw) k1.o1.ext,⟨_,_,_,k1⟩,by rw[k2 bid hFb,ho bid hbw,hb],fun i hi hiw=>by rw[k2 i hi,ho i hiw,hsm i hi hiw],?_,?_,?_⟩
 all_goals
   simp only[o_b,a_p,List.length_append,List.length_cons,List.length_nil]
   omega
theorem a_hp (hw:Wx σ0 s wid ws bad)(hne:ws≠[])(h:RtIn σ0 F s0 wid rid bid s x ws)(hFw:F wid)(hFb:F bid)(hbw:bid≠wid) :
   DCalls prog e_n [.one (pO rid), .one (pO bid)] s fun r s'=>r= .tup []∧Wx σ0 s' wid (m_3 x (ws,bad)).2.1 (m_3 x (ws,bad)).2.2∧RtIn σ0 F s0 wid rid bid s' (m_3 x (ws,bad)).1 (m_3 x (ws,bad)).2.1:=by
 obtain ⟨⟨d1,d2,d3,hr⟩,hb,hsm,l1,l2,l3⟩:=h
 have hrw:rid≠wid:=fun e=>hr.nf (e ▸ hFw)
 have hnw:σ0 wid= .free:=hw.1.new
 have hlen:ws.tail.length+1≤ws.length:=by
   cases ws with
   | nil=>exact absurd rfl hne
   | cons a l=>simp only[List.tail_cons,List.length_cons,List.length_tail];omega
 refine n_i (pO rid) (pO bid) s _ ?_
 have ho:∀i,i≠wid→s i=s i:=fun _ _=>rfl
 repeat' apply And.intro
 all_goals
   repeat (first
     | refine ⟨_,_,_,rfl,_,a_j ((ho _ hrw).trans hr.cell),_,rfl,?_⟩
     | refine ⟨_,_,_,rfl,_,a_j ((ho _ hbw).trans hb),_,rfl,?_⟩
     | refine ⟨_,a_j ((ho _ hrw).trans hr.cell),_,rfl,?_⟩
     | refine ⟨_,a_j ((ho _ hbw).trans hb),_,rfl,?_⟩
     | refine ⟨_,_,_,rfl,?_⟩
     | (refine (k_j hw ho).mono ?_;rintro _ _ ⟨rfl,hw,ho⟩;refine ⟨_,rfl,?_⟩))
 all_goals
   refine (hr.away hFw hnw hw.live ho).addOver (z:=(a_p (ws,bad)).1) (by omega) fun d' s' k1 k2=>⟨rfl,hw.frame (k2 wid hFw) k1.o1.ext,⟨_,_,_,k1⟩,by rw[k2 bid hFb,ho bid hbw,hb],fun i hi hiw=>by rw[k2 i hi,ho i hiw,hsm i hi hiw],?_,?_,?_⟩
 all_goals
   simp only[m_3,a_p,List.length_append,List.length_cons,List.length_nil]
   omega
end
end Go.Proofs.YtfdffboelecgoaaGreatDoor
end
section
set_option maxRecDepth 20000
namespace Go.Proofs.YtfdffboelecgoaaGreatDoor
open Go.Fw Go.Proofs Go.RowKit
open Go.Proofs.Tryz (prog)
variable {σ σ0:Store} {F:Nat→Prop} {wid:Nat}
def w_f (s:Store)(wid:Nat) :Nat:=match s wid with
 | .live _ [[d,_]]=>dlen d
 | _=>0
theorem Wx.wlen {s:Store}{ws:List ByteArray}{bad:Bool}(h:Wx σ0 s wid ws bad) :w_f s wid=ws.length:=by
 obtain ⟨⟨_,_,d,h3,h4⟩,_⟩:=h
 unfold w_f
 rw[h3]
 show dlen d=_
 rw[h4.dlen,List.length_map]
theorem t_g {α:Type}{word:List UInt8}{step:α→Ws→α × Ws}(hdec:∀x ws bad,ws≠[]→(step x (ws,bad)).2.1.length < ws.length) :∀(n:Nat) (x:α) (s:Ws),s.1.length≤n→f_l word step n x s=f_l word step s.1.length x s
 | 0,x,s,h=>by rw[Nat.le_zero.1 h]
 | n+1,x,s,h=>by
   cases hl:s.1.length with
   | zero=>
     have e:s.1=[]:=List.length_eq_zero_iff.1 hl
     have:d_m word s=false:=by unfold d_m;rw[e];simp
     show (if d_m word s then _ else (x,s)) =(x,s)
     rw[this];rfl
   | succ m=>
     rw[f_l,f_l]
     split
     · have hne:s.1≠[]:=fun e=>by rw[e] at hl;cases hl
       have hd:=hdec x s.1 s.2 hne
       have hd:(step x s).2.1.length < s.1.length:=hd
       rw[t_g hdec n _ _ (by omega),t_g hdec m _ _ (by omega)]
     · rfl
theorem a_ba {α:Type}{word:ByteArray}{f:FuncId}{caps:List (Bool × List D)}{bs:List A}{step:α→Ws→α × Ws}{J:Store→α→List ByteArray→Prop}{s:Store}{x:α}{ws:List ByteArray}{bad:Bool}(hcap:e_7 caps=some bs)
   (hstep:∀s x ws bad,Wx σ0 s wid ws bad→ws≠[]→J s x ws→DCalls prog f bs s fun r s'=>r= .tup []∧Wx σ0 s' wid (step x (ws,bad)).2.1 (step x (ws,bad)).2.2∧J s' (step x (ws,bad)).1 (step x (ws,bad)).2.1)
   (hdec:∀x ws bad,ws≠[]→(step x (ws,bad)).2.1.length < ws.length)
   (haway:∀s s' x ws,J s x ws→s' wid≠ .free→σ0 wid= .free→(∀i,i≠wid→s' i=s i)→J s' x ws.tail) (hw:Wx σ0 s wid ws bad) (hJ:J s x ws) (hwl:ws.length < 2 ^ 40) :
   DCalls prog d_c [.one (pO wid),sA word, .one (.fn f [] caps)] s fun r s'=>r= .tup []∧Wx σ0 s' wid (c_w word.data.toList step x (ws,bad)).2.1 (c_w word.data.toList step x (ws,bad)).2.2∧
     J s' (c_w word.data.toList step x (ws,bad)).1 (c_w word.data.toList step x (ws,bad)).2.1:=by
 have en:ByteArray.toList (ByteArray.mk (List.toArray [])) =[]:=by rw[Lib.toList_data]
 refine r_2 (pO wid) word (.fn f [] caps) s _ ⟨fun s'=>∃x' ws' bad',Wx σ0 s' wid ws' bad'∧J s' x' ws'∧ws'.length < 2 ^ 40∧f_l word.data.toList step ws.length x (ws,bad) =f_l word.data.toList step ws'.length x' (ws',bad'),
   fun s'=>w_f s' wid,⟨x,ws,bad,hw,hJ,hwl,rfl⟩,?_⟩
 rintro s1 ⟨y,vs,b,h1,h2,hvl,h3⟩
 obtain ⟨hn,he,d,g1,g2⟩:=h1.1
 have g3:=g2.ext he
 have fin:d_m word.data.toList (vs,b) =false→f_l word.data.toList step ws.length x (ws,bad) =(y,(vs,b)):=fun hm=>by
   rw[h3]
   cases hl:vs.length with
   | zero=>rfl
   | succ m=>rw[f_l,hm];rfl
 have stop : d_m word.data.toList (vs, b) = false → a_c (!((ByteArray.toList word) == (ByteArray.toList (ByteArray.mk (List.toArray [])))))
     (DCalls prog a_3 [.one (pO wid)] s1 fun r s2=>∃t,(r= .a (.one (.str t)))∧a_c (!((ByteArray.toList t) ==(ByteArray.toList word)))
       ((a_l (pO wid))∧∃(e:D) (i off:Nat),(pO wid=(.el e i off:D))∧a_d [.bool true] s2 e i (off+1) fun s3=>((RV.tup []=RV.tup [])∧Wx σ0 s3 wid (c_w word.data.toList step x (ws,bad)).2.1 (c_w word.data.toList step x (ws,bad)).2.2∧J s3 (c_w word.data.toList step x (ws,bad)).1 (c_w word.data.toList step x (ws,bad)).2.1))
       ((a_l (pO wid))∧∃(e:D) (i off:Nat),(pO wid=(.el e i off:D))∧∃row:List D,(Row s2 e i row)∧∃b1:Bool,((List.take 1 (List.drop (off+1) row)) =([.bool b1]:List D))∧(a_l (pO wid))∧∃(e:D) (i off:Nat),(pO wid=(.el e i off:D))∧a_d [.bool b1] s2 e i (off+1) fun s3=>((RV.tup []=RV.tup [])∧Wx σ0 s3 wid (c_w word.data.toList step x (ws,bad)).2.1 (c_w word.data.toList step x (ws,bad)).2.2∧J s3 (c_w word.data.toList step x (ws,bad)).1 (c_w word.data.toList step x (ws,bad)).2.1)))
     ((RV.tup []=RV.tup [])∧Wx σ0 s1 wid (c_w word.data.toList step x (ws,bad)).2.1 (c_w word.data.toList step x (ws,bad)).2.2∧J s1 (c_w word.data.toList step x (ws,bad)).1 (c_w word.data.toList step x (ws,bad)).2.1):=by
   intro hm
   have hf:=fin hm
   rw[en,Lib.toList_data]
   unfold c_w
   rw[hf]
   cases hwd:word.data.toList.isEmpty with
   | true=>
     rw[List.isEmpty_iff.1 hwd]
     exact ⟨rfl,h1,h2⟩
   | false=>
     have hb:(word.data.toList == []) =false:=by
       cases hc:word.data.toList with
       | nil=>rw[hc] at hwd;cases hwd
       | cons _ _=>rfl
     rw[hb]
     rw[if_neg Bool.false_ne_true]
     refine (w_a h1 fun _ _=>rfl).mono ?_
     rintro _ s2 ⟨rfl,k1,k2⟩
     refine ⟨_,rfl,?_⟩
     rw[Lib.toList_data]
     obtain ⟨hn2,he2,d2,p1,p2⟩:=k1.1
     have put:∀v:Bool,v=(!((c_i (vs,b)).1.data.toList == word.data.toList) || (c_i (vs,b)).2.2)→a_d [.bool v] s2 (.osl wid 0 1) 0 (0+1) fun s3=>((RV.tup []=RV.tup [])∧Wx σ0 s3 wid (c_i (vs,b)).2.1 (!((c_i (vs,b)).1.data.toList == word.data.toList) || (c_i (vs,b)).2.2)∧J s3 y (c_i (vs,b)).2.1):=fun v hv=>
       b_d p1 (by simp) fun s3 hs ho=>⟨rfl,⟨⟨hn2,k_0 he2 hn2 ho,d2,by rw[hs,←hv];rfl,p2⟩,k1.2⟩,haway s1 s3 y vs h2 (by rw[hs];intro e;cases e) hn fun i hi=>(ho i hi).trans (k2 i hi)⟩
     exact bc (fun e=>⟨trivial,_,_,_,rfl,put true (by rw[e] <;> rfl)⟩) (fun e=>⟨trivial,_,_,_,rfl,_,a_j p1,_,rfl,trivial,_,_,_,rfl,put (c_i (vs,b)).2.2 (by rw[e] <;> rfl)⟩)
 have go : ∀ w r, vs = w :: r → b = false → d_m word.data.toList (vs, b) = true → ∃ f' : FuncId, ∃ a : List (Bool × (List D)), ∃ b1 : List (Bool × (List D)), ∃ as0' : List A, ∃ bs' : List A, ((.fn f [] caps : D) = (.fn f' a b1 : D)) ∧ ((e_7 a) = (Option.some as0')) ∧ ((e_7 b1) = (Option.some bs')) ∧
     DCalls prog f' (HAppend.hAppend (HAppend.hAppend as0' []) bs') s1 fun r s2=>(r= .tup [])∧(∃x' ws' bad',Wx σ0 s2 wid ws' bad'∧J s2 x' ws'∧ws'.length < 2 ^ 40∧f_l word.data.toList step ws.length x (ws,bad) =f_l word.data.toList step ws'.length x' (ws',bad'))∧(w_f s2 wid < w_f s1 wid):=by
   rintro w r rfl rfl hm
   refine ⟨f,[],caps,[],bs,rfl,rfl,hcap,(hstep s1 y _ _ h1 (by simp) h2).mono ?_⟩
   rintro _ s2 ⟨rfl,k1,k2⟩
   have hd:=hdec y (w::r) false (by simp)
   refine ⟨rfl,⟨_,_,_,k1,k2,by omega,?_⟩,by rw[k1.wlen,h1.wlen];exact hd⟩
   rw[h3,List.length_cons,f_l,if_pos hm]
   exact t_g hdec _ _ _ (by simp only[List.length_cons] at hd;omega)
 refine ⟨trivial,_,_,_,rfl,_,a_j g1,b,rfl,b_g (fun hb=>?_) (fun hb=>stop (by unfold d_m;rw[hb];rfl))⟩
 subst hb
 refine ⟨trivial,_,_,_,rfl,_,a_j g1,d,rfl,g3.lenK ?_⟩
 rw[List.length_map]
 refine bcd (fun hlt=>?_) (fun hge=>stop ?_)
 · cases vs with
   | nil=>simp at hlt
   | cons w r=>
     refine bc (fun e=>?_) (fun e=>?_)
     · rw[en,Lib.toList_data] at e
       exact go w r rfl rfl (by unfold d_m;rw[eq_of_beq e];rfl)
     · rw[en,Lib.toList_data] at e
       refine ⟨trivial,_,_,_,rfl,_,a_j g1,d,rfl,g3.load (n:=0) (j:=0) rfl w_t rfl ⟨w,rfl,b_g (fun e2=>?_) (fun e2=>stop ?_)⟩⟩
       · rw[Lib.toList_data,Lib.toList_data] at e2
         exact go w r rfl rfl (by unfold d_m;simp only[List.headD_cons];rw[e2];simp)
       · rw[Lib.toList_data,Lib.toList_data] at e2
         unfold d_m
         simp only[List.headD_cons]
         rw[e2]
         have:word.data.toList.isEmpty=false:=by
           cases hc:word.data.toList with
           | nil=>rw[hc] at e;cases e
           | cons _ _=>rfl
         rw[this];simp
 · have:vs=[]:=List.length_eq_zero_iff.1 (by omega)
   subst this
   unfold d_m;simp
end Go.Proofs.YtfdffboelecgoaaGreatDoor
end
section
set_option maxRecDepth 20000
namespace Go.Proofs.YtfdffboelecgoaaGreatDoor
open Go.Fw Go.Proofs Go.RowKit
open Go.Proofs.Tryz (prog)
variable {σ σ0:Store} {F:Nat→Prop} {wid:Nat}
theorem a_jr {f:FuncId}(G:List A→Option RV)(h:∀az r s,G az=some r→Pure prog f az s r) :
   a_bz prog f (fun az _=>∃r,G az=some r) (fun az s r s'=>G az=some r∧s'=s):=by
 refine ⟨?_,?_,?_,?_,?_⟩
 · rintro az s ⟨r,hr⟩
   exact (h az r s hr).mono fun r' s' ⟨e1,e2⟩=>⟨by rw[e1];exact hr,e2⟩
 · rintro az s ⟨r,hr⟩ hf
   exact ⟨r,s,⟨hr,rfl⟩,hf⟩
 · rintro az s r s' ⟨_,rfl⟩ hf;exact hf
 · rintro az s id so h0 hso ⟨r,hr⟩
   refine ⟨⟨r,hr⟩,?_⟩
   rintro r' s' ⟨h1,rfl⟩
   exact ⟨s,⟨h1,rfl⟩,h0,rfl⟩
 · rintro az s r s' _ ⟨_,rfl⟩ i hi
   rfl
def a_h8:List A→Option RV
 | [.one (.int .i64 n), .one (.int .i64 lo), .one (.int .i64 hi)]=>some (.a (bA (decide (lo≤n∧n≤hi))))
 | _=>none
theorem a_j4:a_bz prog b_o (fun az _=>∃r,a_h8 az=some r) (fun az s r s'=>a_h8 az=some r∧s'=s):=a_jr a_h8 fun az r s h=>by
 unfold a_h8 at h
 split at h
 · injection h with h;subst h;exact c_d _ _ _
 · cases h
theorem t_p (s:Ws) :(a_p s).2.1.length≤s.1.length:=by show s.1.tail.length≤_;rw[List.length_tail];omega
section
variable {s:Store} {ws:List ByteArray} {bad:Bool}
def f_k (s:Ws) :Ws:=
 let c:=a_p (a_p (a_p s).2).2
 let p:=c_i c.2
 if c.2.2 || !(decide (0≤c.1) && decide (c.1≤1)) then (c.2.1,true) else (p.2.1,!(p.1.data.toList == [112,97,116,104]))
def a_op (s:Ws) :Rt:=⟨(a_p s).1,(a_p (a_p s).2).1,[],[],[],(a_p (a_p (a_p s).2).2).1 == 1⟩
theorem a_d9 (s:Ws) :(f_k s).1.length≤s.1.length:=by
 have h1:=t_p s
 have h2:=t_p (a_p s).2
 have h3:=t_p (a_p (a_p s).2).2
 unfold f_k
 simp only
 split
 · simp only;omega
 · show (a_p (a_p (a_p s).2).2).2.1.tail.length≤_
   rw[List.length_tail];omega
theorem RtIn.off {s0 s s':Store}{rid bid:Nat}{x:Rt}{ws:List ByteArray}(h:RtIn σ0 F s0 wid rid bid s x ws)(hFw:F wid)(hbw:bid≠wid)(hl:s' wid≠ .free)(hn:σ0 wid= .free)(ho:∀i,i≠wid→s' i=s i) :RtIn σ0 F s0 wid rid bid s' x ws.tail:=by
 obtain ⟨⟨d1,d2,d3,hr⟩,hb,hs,l1,l2,l3⟩:=h
 have:=List.length_tail (l:=ws)
 exact ⟨⟨d1,d2,d3,hr.away hFw hn hl ho⟩,(ho _ hbw).trans hb,fun i hi hiw=>(ho i hiw).trans (hs i hi hiw),by omega,by omega,by omega⟩
theorem x_j {ws:List ByteArray}(h:ws≠[]) :ws.tail.length < ws.length∧ws.tail.tail.length < ws.length∧ws.tail.tail.tail.length < ws.length:=by
 cases ws with
 | nil=>exact absurd rfl h
 | cons a l=>simp only[List.tail_cons,List.length_cons,List.length_tail];omega
theorem a_f6 (hw:Wx σ0 s wid ws bad)(hwl:ws.length < 2 ^ 39) :
   DCalls prog c_1 [.one (pO wid)] s fun r s'=>∃d1 d2 d3 rid bid F,r= .a (rtA d1 d2 d3 (c_r (ws,bad)).1)∧Wx σ0 s' wid (c_r (ws,bad)).2.1 (c_r (ws,bad)).2.2∧RtD σ0 F s' rid (c_r (ws,bad)).1 d1 d2 d3∧
     s rid= .free∧s bid= .free∧s' bid= .live e_r [[pO wid]]∧(∀i,s i≠ .free→F i)∧∀i,s i≠ .free→i≠wid→s' i=s i:=by
 have hnw:=hw.1.new
 refine q_w (pO wid) s _ (a_f fun bid s1 hbid _ he1 hb=>?_)
 have hbw:bid≠wid:=fun e=>hw.live (by rw[←e];exact hbid)
 have hw1:Wx σ0 s1 wid ws bad:=hw.frame (he1 wid hw.live) (hw.1.ext.trans he1)
 have hn0:∀i,s i= .free→σ0 i= .free:=fun i hi=>by
   by_cases h:σ0 i= .free
   · exact h
   · have:=hw.1.ext i h;rw[hi] at this;exact this.symm
 have hn1:∀i,s1 i= .free→σ0 i= .free:=fun i hi=>by
   by_cases h:σ0 i= .free
   · exact h
   · have:=hw1.1.ext i h;rw[hi] at this;exact this.symm
 have hs1:∀i,s1 i= .free→s i= .free:=fun i hi=>by
   by_cases h:s i= .free
   · exact h
   · rw[he1 i h] at hi;exact hi
 intro R hR
 have main:∀rid s3,s3 rid= .live a_w [[iD (a_p (ws,bad)).1,iD (a_p (a_p (ws,bad)).2).1, .nils, .nils, .nils, .bool false]]→Wx σ0 s3 wid (a_p (a_p (ws,bad)).2).2.1 (a_p (a_p (ws,bad)).2).2.2→s1 rid= .free→(∀i,s1 i≠ .free→i≠wid→s3 i=s1 i)→R (pO rid) s3:=by
   intro rid s3 hrid hw3 hfr hG
   have hrw:rid≠wid:=fun e=>hw1.live (by rw[←e];exact hfr)
   have hl1:∀i,s1 i≠ .free→s3 i≠ .free:=fun i hi=>by
     by_cases e:i=wid
     · rw[e];exact hw3.live
     · rw[hG i hi e];exact hi
   have hb3:s3 bid= .live e_r [[pO wid]]:=(hG bid (by rw[hb];intro e;cases e) hbw).trans hb
   refine hR _ s3 ⟨_,a_j hb3,_,rfl,(k_j hw3 fun _ _=>rfl).mono ?_⟩
   rintro _ s4 ⟨rfl,hw4,ho4⟩
   refine ⟨_,rfl,_,_,_,rfl,b_d ((ho4 _ hrw).trans hrid) (by simp) fun s5 hs5 ho5=>?_⟩
   have hw5:Wx σ0 s5 wid (a_p (a_p (a_p (ws,bad)).2).2).2.1 (a_p (a_p (a_p (ws,bad)).2).2).2.2:=hw4.frame (ho5 _ hrw.symm) (d_d hw4.1.ext (hn1 _ hfr) ho5)
   have hG5:∀i,s1 i≠ .free→i≠wid→s5 i=s1 i:=fun i hi hiw=>by
     rw[ho5 i fun e=>hi (by rw[e];exact hfr),ho4 i hiw,hG i hi hiw]
   have hb5:s5 bid= .live e_r [[pO wid]]:=(hG5 bid (by rw[hb];intro e;cases e) hbw).trans hb
   intro R1 hR1
   have body:∀s6,Wx σ0 s6 wid (f_k (ws,bad)).1 (f_k (ws,bad)).2→(∀i,i≠wid→s6 i=s5 i)→R1 s6:=by
     intro s6 hw6 ho6
     have hr6:s6 rid= .live a_w [[iD (a_p (ws,bad)).1,iD (a_p (a_p (ws,bad)).2).1, .nils, .nils, .nils, .bool ((a_p (a_p (a_p (ws,bad)).2).2).1 == 1)]]:=by
       rw[ho6 _ hrw,hs5];rfl
     have hlen:=a_d9 (ws,bad)
     simp only at hlen
     have h6:RtIn σ0 (fun i=>s1 i≠ .free) s1 wid rid bid s6 (a_op (ws,bad)) (f_k (ws,bad)).1:= {
       cell:=⟨.nils, .nils, .nils,{
         new:=hn1 _ hfr,nf:=fun h=>h hfr
         fl:=fun i hi=>by
           by_cases e:i=wid
           · rw[e];exact hw6.live
           · rw[ho6 i e,hG5 i hi e];exact hi
         cell:=hr6
         o1:= .nil _ hw6.1.ext,o2:= .nil _ hw6.1.ext,o3:= .nil _ hw6.1.ext
         f1:=fun i _ h=>by simp[b_e] at h
         f2:=fun i _ h=>by simp[b_e] at h
         f3:=fun i _ h=>by simp[b_e] at h }⟩
       box:=(ho6 _ hbw).trans hb5
       same:=fun i hi hiw=>(ho6 i hiw).trans (hG5 i hi hiw)
       l1:=by show 0+_ < _;omega
       l2:=by show 0+_ < _;omega
       l3:=by show 0+_ < _;omega }
     have hFw:s1 wid≠ .free:=hw1.live
     have hFb:s1 bid≠ .free:=by rw[hb];intro e;cases e
     have away:∀s s' x ws,RtIn σ0 (fun i=>s1 i≠ .free) s1 wid rid bid s x ws→s' wid≠ .free→σ0 wid= .free→(∀i,i≠wid→s' i=s i)→RtIn σ0 (fun i=>s1 i≠ .free) s1 wid rid bid s' x ws.tail:=fun s s' x ws h hl hn ho=>h.off hFw hbw hl hn ho
     have lim:∀{s:Store} {x:Rt} {ws:List ByteArray},RtIn σ0 (fun i=>s1 i≠ .free) s1 wid rid bid s x ws→ws.length < 2 ^ 40:=fun h=>by have:=h.l1;omega
     refine hR1 s6 ⟨_,a_j h6.box,_,rfl,(a_ba (word:=a_q (wFlank.drop 1)) (step:=n_z) (J:=RtIn σ0 (fun i=>s1 i≠ .free) s1 wid rid bid) rfl (fun s x ws bad a b c=>a_nc a b c hFw hFb hbw) (fun x ws bad h=>(x_j h).2.2) away hw6 h6 (lim h6)).mono ?_⟩
     rintro _ s7 ⟨rfl,hw7,h7⟩
     refine ⟨rfl,_,a_j h7.box,_,rfl,(a_ba (word:=a_q (wOver.drop 1)) (step:=o_b) (J:=RtIn σ0 (fun i=>s1 i≠ .free) s1 wid rid bid) rfl (fun s x ws bad a b c=>a_nt a b c hFw hFb hbw) (fun x ws bad h=>(x_j h).2.1) away hw7 h7 (lim h7)).mono ?_⟩
     rintro _ s8 ⟨rfl,hw8,h8⟩
     refine ⟨rfl,_,a_j h8.box,_,rfl,(a_ba (word:=a_q []) (step:=m_3) (J:=RtIn σ0 (fun i=>s1 i≠ .free) s1 wid rid bid) rfl (fun s x ws bad a b c=>a_hp a b c hFw hFb hbw) (fun x ws bad h=>(x_j h).1) away hw8 h8 (lim h8)).mono ?_⟩
     rintro _ s9 ⟨rfl,hw9,h9⟩
     have h9:RtIn σ0 (fun i=>s1 i≠ .free) s1 wid rid bid s9 (c_r (ws,bad)).1 (c_r (ws,bad)).2.1:=h9
     have hw9:Wx σ0 s9 wid (c_r (ws,bad)).2.1 (c_r (ws,bad)).2.2:=hw9
     obtain ⟨⟨d1,d2,d3,hr9⟩,hb9,hs9,_,_,_⟩:=h9
     refine ⟨rfl,_,_,_,rfl,_,a_j hr9.cell,_,_,d1,d2,d3,_,rfl,d1,d2,d3,rid,bid,_,rfl,hw9,hr9,hs1 _ hfr,hbid,hb9,fun i hi=>by rw[he1 i hi];exact hi,fun i hi hiw=>?_⟩
     rw[hs9 i (by rw[he1 i hi];exact hi) hiw,he1 i hi]
   obtain ⟨hn5,_,d5,p5,q5⟩:=hw5.1
   have put:∀s' ws' b' v,Wx σ0 s' wid ws' b'→(∀i,i≠wid→s' i=s5 i)→f_k (ws,bad) =(ws',v)→a_d [.bool v] s' (.osl wid 0 1) 0 (0+1) fun s6=>(([[.int .i64 0, .int .i64 0, .nils, .nils, .nils, .bool false]]:List (List D)) =([[.int .i64 0, .int .i64 0, .nils, .nils, .nils, .bool false]]:List (List D)))∧R1 s6:=by
     intro s' ws' b' v hw' ho' hv
     obtain ⟨hn',he',d',p',q'⟩:=hw'.1
     refine b_d p' (by simp) fun s6 hs6 ho6=>⟨rfl,body s6 ?_ fun i hi=>(ho6 i hi).trans (ho' i hi)⟩
     rw[hv]
     exact ⟨⟨hn',k_0 he' hn' ho6,d',by rw[hs6];rfl,q'⟩,hw'.2⟩
   have ebt:∀n:Int,decide ((0:Int)≤n∧n≤1) =(decide (0≤n) && decide (n≤1)):=fun n=>Bool.decide_and _ _
   refine ⟨⟨_,_,a_j4,_,a_j hb5,_,rfl,_,a_j hb5,_,rfl,trivial,_,_,_,rfl,_,a_j p5,_,rfl,bc (fun e=>⟨trivial,_,_,_,rfl,put _ _ _ true hw5 (fun _ _=>rfl) ?_⟩) (fun e=>⟨⟨_,rfl⟩,?_⟩)⟩,
     ⟨_,a_j hb5,_,rfl,trivial,_,_,_,rfl,_,a_j p5,_,rfl,bc (fun e=>⟨_,a_j hb5,_,rfl,trivial,_,_,_,rfl,put _ _ _ true hw5 (fun _ _=>rfl) ?_⟩) (fun e=>(c_d _ _ _).use ⟨_,rfl,b_g (fun e2=>⟨_,a_j hb5,_,rfl,trivial,_,_,_,rfl,put _ _ _ true hw5 (fun _ _=>rfl) ?_⟩) (fun e2=>⟨_,a_j hb5,_,rfl,(w_a hw5 fun _ _=>rfl).mono ?_⟩)⟩)⟩⟩
   · unfold f_k;simp only;rw[if_pos (by rw[e];rfl)]
   · rintro r1 s' ⟨hr1,rfl⟩
     have hr1:(RV.a (bA (decide ((0:Int)≤(a_p (a_p (a_p (ws,bad)).2).2).1∧(a_p (a_p (a_p (ws,bad)).2).2).1≤1)))) =r1:=by injection hr1
     subst hr1
     refine ⟨_,rfl,b_g (fun e2=>⟨trivial,_,_,_,rfl,put _ _ _ true hw5 (fun _ _=>rfl) ?_⟩) (fun e2=>⟨_,a_j hb5,_,rfl,(w_a hw5 fun _ _=>rfl).mono ?_⟩)⟩
     · rw[ebt] at e2
       unfold f_k;simp only;rw[if_pos (by rw[e2];simp)]
     · rw[ebt] at e2
       rintro _ s7 ⟨rfl,hw7,ho7⟩
       refine ⟨_,rfl,trivial,_,_,_,rfl,put s7 _ _ _ hw7 ho7 ?_⟩
       unfold f_k;simp only;rw[e,e2,Lib.toList_data,Lib.toList_data];rfl
   · unfold f_k;simp only;rw[if_pos (by rw[e];rfl)]
   · rw[ebt] at e2
     unfold f_k;simp only;rw[if_pos (by rw[e2];simp)]
   · rw[ebt] at e2
     rintro _ s7 ⟨rfl,hw7,ho7⟩
     refine ⟨_,rfl,_,a_j ((ho7 _ hbw).trans hb5),_,rfl,trivial,_,_,_,rfl,put s7 _ _ _ hw7 ho7 ?_⟩
     unfold f_k;simp only;rw[e,e2,Lib.toList_data,Lib.toList_data];rfl
 have hG:∀i,s1 i≠ .free→i≠wid→s1 i=s1 i:=fun _ _ _=>rfl
 have hw:=hw1
 have fresh:∀{cur:Store} {rid:Nat},cur rid= .free→cur wid≠ .free→(∀i,s1 i≠ .free→i≠wid→cur i=s1 i)→s1 rid= .free:=fun {cur rid} h1 h2 h3=>by
   by_cases h:s1 rid= .free
   · exact h
   · by_cases e:rid=wid
     · rw[e] at h1;exact absurd h1 h2
     · rw[h3 rid h e] at h1;exact h1
 repeat' apply And.intro
 all_goals
   repeat (first
     | refine ⟨_,a_j hb,_,rfl,?_⟩
     | (refine (k_j hw fun _ _=>rfl).mono ?_
        rintro _ cur ⟨rfl,hw,ho⟩
        have hb:=(ho _ hbw).trans hb
        have hG:∀i,s1 i≠ .free→i≠wid→cur i=s1 i:=fun i hi hiw=>(ho i hiw).trans (hG i hi hiw)
        try have hc:=(ho _ hrw).trans hc
        refine ⟨_,rfl,?_⟩)
     | (refine a_f fun rid cur hid _ he2 hc=>?_
        have hfr:=fresh hid hw.live hG
        have hrw:rid≠wid:=fun e=>hw.live (by rw[←e];exact hid)
        have hb:=(he2 bid (by rw[hb];intro e;cases e)).trans hb
        have hG:∀i,s1 i≠ .free→i≠wid→cur i=s1 i:=fun i hi hiw=>(he2 i (by rw[hG i hi hiw];exact hi)).trans (hG i hi hiw)
        have hw:=hw.frame (he2 wid hw.live) (hw.1.ext.trans he2)))
 all_goals
   exact b_d hc (by simp) fun s3 hs3 ho3=>⟨rfl,main rid s3 (by rw[hs3];rfl) (hw.frame (ho3 _ hrw.symm) (d_d hw.1.ext (hn1 _ hfr) ho3)) hfr fun i hi hiw=>by rw[ho3 i fun e=>hi (by rw[e];exact hfr),hG i hi hiw]⟩
end
end Go.Proofs.YtfdffboelecgoaaGreatDoor
end
section
set_option maxRecDepth 20000
namespace Go.Proofs.YtfdffboelecgoaaGreatDoor
open Go.Fw Go.Proofs Go.RowKit
open Go.Proofs.Tryz (prog)
variable {σ σ0:Store} {F:Nat→Prop} {wid:Nat}
def Sf (d:D) :Prop:=∀(σ:Store) (S:Nat→Prop),Fz prog σ S d d
theorem v_1 {es:Nat}{rs:List (List D)}(h:∀row ∈ rs,∀x ∈ row,Sf x) :Sf (.sl es rs):=fun σ S=> .refl fun row hr d hd=>h row hr d hd σ S
theorem v_7 {S:Nat→Prop}{s:Store}{el:TypeId}{d:D}{rs:List (List D)}(h:At prog s el d rs)(hid:∀id,b_e d=some id→¬S id)(hf:∀row ∈ rs,∀x ∈ row,Sf x) :
   ∃d',Fz prog s S d d'∧(∀s',At prog s' el d' rs)∧Sf d':=by
 have hr:=h.rows
 cases d <;> simp only[Go.Fw.Rows] at hr <;> try exact hr.elim
 · subst hr;exact ⟨.nils, .nils,fun _=> .nil,fun _ _=> .nils⟩
 · subst hr;exact ⟨.zsl, .zsl,fun _=>⟨rfl,by simp,fun es rows e=>by cases e⟩,fun _ _=> .zsl⟩
 · rename_i es rows
   obtain ⟨rfl,h3⟩:=hr
   exact ⟨_,v_1 hf _ _,fun s'=>⟨⟨rfl,h3⟩,h.size,h.es⟩,v_1 hf⟩
 · obtain ⟨t,rows,q1,q2,q3,rfl⟩:=hr
   rename_i id i len
   refine ⟨.sl (prog.cellsOf t) ((rows.drop i).take len),?_,fun s'=>⟨⟨rfl, .inr q2⟩,h.size,fun es rows e=>?_⟩,v_1 hf⟩
   · have get : ∀ (j : Nat) row', ((rows.drop i).take len)[j]? = some row' → rows[i + j]? = some row' := fun j row' hj => by
       rw[List.getElem?_take] at hj
       split at hj
       · rw[List.getElem?_drop] at hj;exact hj
       · cases hj
     refine .osl id i len t rows _ (hid id rfl) q1 q3 (by simp;omega) (fun j row row' h1 h2=>?_) (fun j row row' m x x' h1 h2 h3 h4=>?_)
     · rw[get j row' h2] at h1;injection h1 with h1;rw[h1]
     · rw[get j row' h2] at h1;injection h1 with h1;subst h1
       rw[h3] at h4;injection h4 with h4;subst h4
       exact hf _ (List.mem_of_getElem? h2) _ (List.mem_of_getElem? h3) _ _
   · injection e with e1 e2
     rw[←e1];exact q2
theorem v_5 {d:D}(h:Flat d) :Sf d:=fun _ _=>h.fz
theorem n_f {α:Type}{f:α→List D}(hf:∀a,∀x ∈ f a,Flat x)(l:List α) :∀row ∈ l.map f,∀x ∈ row,Sf x:=fun row hr x hx=>by
 obtain ⟨a,_,rfl⟩:=List.mem_map.1 hr
 exact v_5 (hf a x hx)
theorem a_n0 {S:Nat→Prop}{s:Store}{el:TypeId}{d:D}{rs:List (List D)}(h:At prog σ0 el d rs)(hS:∀i,σ0 i≠ .free→S i)(hf:∀row ∈ rs,∀x ∈ row,Sf x) :Fz prog s S d d:=by
 have hr:=h.rows
 cases d <;> simp only[Go.Fw.Rows] at hr <;> try exact hr.elim
 · exact .nils
 · exact .zsl
 · obtain ⟨rfl,h3⟩:=hr
   exact v_1 hf _ _
 · obtain ⟨t,rows,q1,_⟩:=hr
   exact .keep _ _ _ (hS _ (by rw[q1];intro e;cases e))
def RtRow (row:List D)(x:Rt) :Prop:=
 ∃d1 d2 d3,row=[iD x.Entry,iD x.Exit,d1,d2,d3, .bool x.Shunt]∧(∀s,At prog s a_i d1 (x.Path.map St.enc))∧(∀s,At prog s a_r d2 (x.Flank.map Nd.enc))∧(∀s,At prog s t_int d3 (x.Overlap.map Go.Fw.encI))∧Sf d1∧Sf d2∧Sf d3
theorem RtRow.sf {row:List D}{x:Rt}(h:RtRow row x) :∀d ∈ row,Sf d:=by
 obtain ⟨d1,d2,d3,rfl,_,_,_,h1,h2,h3⟩:=h
 intro d hd
 simp only[List.mem_cons,List.not_mem_nil,or_false] at hd
 rcases hd with rfl | rfl | rfl | rfl | rfl | rfl
 · exact v_5 (.int _ _)
 · exact v_5 (.int _ _)
 · exact h1
 · exact h2
 · exact h3
 · exact v_5 (.bool _)
theorem a_oe (a:St) :∀x ∈ St.enc a,Flat x:=fun x hx=>by
 simp only[St.enc,List.mem_cons,List.not_mem_nil,or_false] at hx
 rcases hx with rfl | rfl | rfl <;> exact .int _ _
theorem a_nx (a:Nd) :∀x ∈ Nd.enc a,Flat x:=fun x hx=>by
 simp only[Nd.enc,List.mem_cons,List.not_mem_nil,or_false] at hx
 rcases hx with rfl | rfl <;> exact .int _ _
theorem a_kd (a:Int) :∀x ∈ Go.Fw.encI a,Flat x:=fun x hx=>by
 simp only[Go.Fw.encI,List.mem_cons,List.not_mem_nil,or_false] at hx
 subst hx;exact .int _ _
theorem a_c1 {s:Store}{ws:List ByteArray}{bad:Bool}(hw:Wx σ0 s wid ws bad)(hwl:ws.length < 2 ^ 39) :
   DCalls prog c_1 [.one (pO wid)] s fun r s'=>∃row,r= .a (.agg row)∧RtRow row (c_r (ws,bad)).1∧Wx σ0 s' wid (c_r (ws,bad)).2.1 (c_r (ws,bad)).2.2∧∀i,i≠wid→s' i=s i:=by
 refine (a_f6 hw hwl).ret ?_
 rintro r s1 ⟨d1,d2,d3,rid,bid,F,rfl,hw1,hr,_,_,_,hF,hs⟩
 have hid:∀d,(∀i,F i→b_e d≠some i)→∀id,b_e d=some id→¬s id≠ .free:=fun d hd id h1 h2=>hd id (hF id h2) h1
 obtain ⟨e1,a1,b1,c1⟩:=v_7 (S:=fun i=>s i≠ .free) hr.o1.at_ (hid d1 hr.f1) (n_f a_oe _)
 obtain ⟨e2,a2,b2,c2⟩:=v_7 (S:=fun i=>s i≠ .free) hr.o2.at_ (hid d2 hr.f2) (n_f a_nx _)
 obtain ⟨e3,a3,b3,c3⟩:=v_7 (S:=fun i=>s i≠ .free) hr.o3.at_ (hid d3 hr.f3) (n_f a_kd _)
 obtain ⟨⟨hn,he,d,hc,hA⟩,hz⟩:=hw1
 have hlw:s wid≠ .free:=hw.live
 have hσ:∀i,σ0 i≠ .free→s i≠ .free:=fun i hi=>by rw[hw.1.ext i hi];exact hi
 have hstr:∀row ∈ ((c_r (ws,bad)).2.1).map g_j,∀x ∈ row,Sf x:=n_f (fun a x hx=>by
   simp only[g_j,List.mem_cons,List.not_mem_nil,or_false] at hx
   subst hx;exact .str _) _
 refine ⟨.a (.agg [iD (c_r (ws,bad)).1.Entry,iD (c_r (ws,bad)).1.Exit,e1,e2,e3, .bool (c_r (ws,bad)).1.Shunt]),fun i=>match s i with | .free=> .free | _=>s1 i,⟨fun i=>s i≠ .free,fun i hi=>hi,fun i hi=>?_,fun i hi=>?_,?_⟩,_,rfl,⟨e1,e2,e3,rfl,b1,b2,b3,c1,c2,c3⟩,⟨⟨hn,fun i hi=>?_,d,?_,hA⟩,hz⟩,fun i hi=>?_⟩
 · have:s i= .free:=by by_cases h:s i= .free;exact h;exact absurd h hi
   simp only[this]
 · have e : (match s i with | .free => SO.free | _ => s1 i) = s1 i := by
     cases h:s i <;> first | rfl | exact absurd h hi
   show FzO _ _ _ _ _ (match s i with | .free=>SO.free | _=>s1 i)
   rw[e]
   by_cases hiw:i=wid
   · subst hiw
     refine .inr ?_
     rw[hc]
     refine ⟨rfl,rfl,fun j row row' h1 h2=>?_⟩
     rw[h1] at h2;injection h2 with h2;subst h2
     have:row=[d, .bool (c_r (ws,bad)).2.2]:=by
       cases j with
       | zero=>simpa using h1.symm
       | succ j=>simp at h1
     subst this
     exact .cons (a_n0 hA hσ hstr) (.cons (.bool _) .nil)
   · exact .inl ⟨rfl,hs i hi hiw⟩
 · refine .cons (.int _ _) (.cons (.int _ _) (.cons a1 (.cons a2 (.cons a3 (.cons (.bool _) .nil)))))
 · have h:=hσ i hi
   show (match s i with | .free=>SO.free | _=>s1 i) =σ0 i
   have e:(match s i with | .free=>SO.free | _=>s1 i) =s1 i:=by
     cases h2:s i <;> first | rfl | exact absurd h2 h
   rw[e];exact he i hi
 · show (match s wid with | .free=>SO.free | _=>s1 wid) =_
   have e:(match s wid with | .free=>SO.free | _=>s1 wid) =s1 wid:=by
     cases h2:s wid <;> first | rfl | exact absurd h2 hlw
   rw[e];exact hc
 · show (match s i with | .free=>SO.free | _=>s1 i) =s i
   cases h2:s i with
   | free=>rfl
   | _=>show s1 i=_;rw[hs i (by rw[h2];intro e;cases e) hi,h2]
structure Lst where
 el:TypeId
 off:Nat
 d:D
 rs:List (List D)
structure ObD (σ0:Store) (F:Nat→Prop) (s:Store) (oid:Nat) (t:TypeId) (row:List D) (ls:List Lst) :Prop where
 new:σ0 oid= .free
 nf:¬F oid
 fl:∀i,F i→s i≠ .free
 cell:s oid= .live t [row]
 own:∀l ∈ ls,Own prog σ0 s l.el l.d l.rs∧(∀i,F i→b_e l.d≠some i)∧prog.cellsOf l.el≠prog.cellsOf t
theorem ObD.away {s s':Store}{oid:Nat}{t:TypeId}{row:List D}{ls:List Lst}(h:ObD σ0 F s oid t row ls)(hw:F wid)(hn:σ0 wid= .free)(hl:s' wid≠ .free)(ho:∀i,i≠wid→s' i=s i) :ObD σ0 F s' oid t row ls where
 new:=h.new
 nf:=h.nf
 fl i hi:=by
   by_cases e:i=wid
   · rw[e];exact hl
   · rw[ho i e];exact h.fl i hi
 cell:=by rw[ho oid fun e=>h.nf (e ▸ hw)];exact h.cell
 own l hl:=⟨d_g (h.own l hl).1 hn ((h.own l hl).2.1 wid hw) ho,(h.own l hl).2⟩
theorem ObD.put {s:Store}{oid off:Nat}{t:TypeId}{row xs:List D}{ls:List Lst}{K:Store→Prop}(h:ObD σ0 F s oid t row ls)(ho:off+xs.length≤row.length)
   (hk:∀s',ObD σ0 F s' oid t (patch row off xs) ls→(∀i,F i→s' i=s i)→K s') :a_d xs s (.osl oid 0 1) 0 off K:=by
 refine b_d h.cell ho fun s' hs' ho'=>hk s' {
   new:=h.new,nf:=h.nf,fl:=fun i hi=>by rw[ho' i fun e=>h.nf (e ▸ hi)];exact h.fl i hi,cell:=hs'
   own:=fun l hl=>⟨d_g (h.own l hl).1 h.new (d_b (h.own l hl).1.at_ h.cell (h.own l hl).2.2) ho',(h.own l hl).2⟩ } fun i hi=>ho' i fun e=>h.nf (e ▸ hi)
theorem ObD.add {s:Store}{oid bytes off:Nat}{t:TypeId}{row ns:List D}{l:Lst}{ls:List Lst}{K:Store→Prop}(h:ObD σ0 F s oid t row (l::ls))(hap:∀m ∈ ls,prog.cellsOf m.el≠prog.cellsOf l.el)(ho:off < row.length)
   (hb:bytes * (l.rs.length+1)≤140737488355328) (hsz:l.rs.length+1 < 2 ^ 60)
   (hk:∀d' s',ObD σ0 F s' oid t (patch row off [d']) ({ l with d:=d',rs:=l.rs ++ [ns] }::ls)→(∀i,F i→s' i=s i)→K s') :
   Fw.newObj s (.live l.el [ns]) fun id s1=>a_e prog s1 l.el bytes l.d (.osl id 0 1) fun dd s2=>(a_l (pO oid))∧∃(e:D) (i o:Nat),(pO oid= .el e i o)∧a_d [dd] s2 e i (o+off) K:=by
 obtain ⟨hl,hf,hc⟩:=h.own l (by simp)
 refine app1 hl hb hsz fun d' s2 g1 g2 g3=>⟨trivial,_,_,_,rfl,?_⟩
 have hr:s oid≠ .free:=by rw[h.cell];intro e;cases e
 have hr1:b_e l.d≠some oid:=d_b hl.at_ h.cell hc
 have hcell:s2 oid= .live t [row]:=by rw[g2 oid hr hr1];exact h.cell
 rw[Nat.zero_add]
 refine b_d hcell (by simp;omega) fun s3 hs3 ho3=>?_
 have he:=d_d g1.ext h.new ho3
 have ed:b_e d'≠some oid:=fun e=>by
   rcases g3 oid e with g | g
   · exact hr1 g
   · exact hr g
 have nn:∀i,F i→s3 i=s i:=fun i hi=>by rw[ho3 i fun e=>h.nf (e ▸ hi),g2 i (h.fl i hi) (hf i hi)]
 refine hk d' s3 { new:=h.new,nf:=h.nf,fl:=fun i hi=>by rw[nn i hi];exact h.fl i hi,cell:=hs3,own:=fun m hm=>?_ } nn
 rcases List.mem_cons.1 hm with rfl | hm
 · exact ⟨d_g g1 h.new ed ho3, fun i hi e => by
     rcases g3 i e with g | g
     · exact hf i hi g
     · exact h.fl i hi g,hc⟩
 · obtain ⟨m1,m2,m3⟩:=h.own m (by simp[hm])
   exact ⟨f_t m1 g2 (w_s m1.at_ hl.at_ (hap m hm)) he ho3 (d_b m1.at_ h.cell m3),m2,m3⟩
theorem ObD.perm {s:Store}{oid:Nat}{t:TypeId}{row:List D}{ls ls':List Lst}(h:ObD σ0 F s oid t row ls)(hp:∀l ∈ ls',l ∈ ls) :ObD σ0 F s oid t row ls':=
 ⟨h.new,h.nf,h.fl,h.cell,fun l hl=>h.own l (hp l hl)⟩
end Go.Proofs.YtfdffboelecgoaaGreatDoor
end
section
set_option maxRecDepth 20000
namespace Go.Proofs.YtfdffboelecgoaaGreatDoor
open Go.Fw Go.Proofs Go.RowKit
open Go.Proofs.Tryz (prog)
variable {σ σ0:Store} {F:Nat→Prop} {wid cid:Nat}
def i_3 (c:Cf)(d0 d1 d2 d3 d4:D) :List D:= [d0,d1,d2,d3,d4,iD c.Age,iD c.Brake,iD c.Hold,iD c.Budget]
def c_7 (c:Cf)(d0 d1 d2 d3 d4:D)(rows:List (List D)) :List Lst:=
 [⟨a_2,0,d0,c.Secs.map Sec.enc⟩,⟨b_v,1,d1,c.Jts.map Jt.enc⟩,⟨b_b,2,d2,c.Sigs.map Sg.enc⟩,⟨t_int,3,d3,c.Xs.map Go.Fw.encI⟩,⟨a_w,4,d4,rows⟩]
def RtRows (rows:List (List D))(l:List Rt) :Prop:=rows.length=l.length∧∀(j:Nat) row x,rows[j]? =some row→l[j]? =some x→RtRow row x
structure CfD (σ0:Store) (F:Nat→Prop) (s:Store) (cid:Nat) (c:Cf) (d0 d1 d2 d3 d4:D) (rows:List (List D)) :Prop where
 ob:ObD σ0 F s cid t_Config (i_3 c d0 d1 d2 d3 d4) (c_7 c d0 d1 d2 d3 d4 rows)
 rts:RtRows rows c.Rts
def a_d8 (c:Cf)(n:Nat) :Prop:=c.Secs.length≤n∧c.Jts.length≤n∧c.Sigs.length≤n∧c.Xs.length≤n∧c.Rts.length≤n
theorem RtRows.add {rows:List (List D)}{l:List Rt}{row:List D}{x:Rt}(h:RtRows rows l)(hr:RtRow row x) :RtRows (rows ++ [row]) (l ++ [x]):=by
 refine ⟨by rw[List.length_append,List.length_append,h.1];rfl,fun j r y h1 h2=>?_⟩
 by_cases hj:j < rows.length
 · rw[List.getElem?_append_left hj] at h1
   rw[List.getElem?_append_left (by rw[←h.1];exact hj)] at h2
   exact h.2 j r y h1 h2
 · rw[List.getElem?_append_right (by omega)] at h1
   rw[List.getElem?_append_right (by rw[←h.1];omega),←h.1] at h2
   cases hk:j - rows.length with
   | zero=>
     rw[hk] at h1 h2
     injection h1 with h1;injection h2 with h2
     subst h1 h2;exact hr
   | succ k=>rw[hk] at h1;simp at h1
section
variable {s:Store} {c:Cf} {d0 d1 d2 d3 d4:D} {rows:List (List D)}
theorem f_3:∀l ∈ c_7 c d0 d1 d2 d3 d4 rows,∀m ∈ c_7 c d0 d1 d2 d3 d4 rows,l.off≠m.off→prog.cellsOf l.el≠prog.cellsOf m.el:=by
 intro l hl m hm
 simp only[c_7,List.mem_cons,List.not_mem_nil,or_false] at hl hm
 rcases hl with rfl | rfl | rfl | rfl | rfl <;> rcases hm with rfl | rfl | rfl | rfl | rfl <;> intro h <;>
   first | exact absurd rfl h | exact d_0 b_2 d_3 (by decide) | exact d_0 b_2 c_h (by decide) | exact d_0 b_2 c_int (by decide) | exact d_0 b_2 b_h (by decide)
         | exact d_0 d_3 b_2 (by decide) | exact d_0 d_3 c_h (by decide) | exact d_0 d_3 c_int (by decide) | exact d_0 d_3 b_h (by decide)
         | exact d_0 c_h b_2 (by decide) | exact d_0 c_h d_3 (by decide) | exact d_0 c_h c_int (by decide) | exact d_0 c_h b_h (by decide)
         | exact d_0 c_int b_2 (by decide) | exact d_0 c_int d_3 (by decide) | exact d_0 c_int c_h (by decide) | exact d_0 c_int b_h (by decide)
         | exact d_0 b_h b_2 (by decide) | exact d_0 b_h d_3 (by decide) | exact d_0 b_h c_h (by decide) | exact d_0 b_h c_int (by decide)
theorem CfD.addSec (h:CfD σ0 F s cid c d0 d1 d2 d3 d4 rows){z:Sec}{K:Store→Prop}(hl:c.Secs.length < 2 ^ 40)(hk:∀d' s',CfD σ0 F s' cid { c with Secs:=c.Secs ++ [z] } d' d1 d2 d3 d4 rows→(∀i,F i→s' i=s i)→K s') :
   Fw.newObj s (.live a_2 [Sec.enc z]) fun id s1=>a_e prog s1 a_2 24 d0 (.osl id 0 1) fun dd s2=>(a_l (pO cid))∧∃(e:D) (i o:Nat),(pO cid= .el e i o)∧a_d [dd] s2 e i (o+0) K:=by
 refine ObD.add (l:=⟨a_2,0,d0,c.Secs.map Sec.enc⟩) (ls:= [⟨b_v,1,d1,c.Jts.map Jt.enc⟩,⟨b_b,2,d2,c.Sigs.map Sg.enc⟩,⟨t_int,3,d3,c.Xs.map Go.Fw.encI⟩,⟨a_w,4,d4,rows⟩]) h.ob
   (fun m hm=>f_3 (c:=c) (d0:=d0) (d1:=d1) (d2:=d2) (d3:=d3) (d4:=d4) (rows:=rows) m (by simp only[List.mem_cons,List.not_mem_nil,or_false] at hm;rcases hm with rfl | rfl | rfl | rfl <;> simp[c_7]) _ (by simp[c_7]) (by simp at hm;rcases hm with rfl | rfl | rfl | rfl <;> simp)) (by simp[i_3]) (by rw[List.length_map];omega) (by rw[List.length_map];omega) fun d' s' g1 g2=>hk d' s' ⟨?_,h.rts⟩ g2
 exact g1.perm fun l hl=>by simp only[c_7,List.mem_cons,List.not_mem_nil,or_false] at hl;rcases hl with rfl | rfl | rfl | rfl | rfl <;> simp[c_7]
theorem CfD.addJt (h:CfD σ0 F s cid c d0 d1 d2 d3 d4 rows){z:Jt}{K:Store→Prop}(hl:c.Jts.length < 2 ^ 40)(hk:∀d' s',CfD σ0 F s' cid { c with Jts:=c.Jts ++ [z] } d0 d' d2 d3 d4 rows→(∀i,F i→s' i=s i)→K s') :
   Fw.newObj s (.live b_v [Jt.enc z]) fun id s1=>a_e prog s1 b_v 32 d1 (.osl id 0 1) fun dd s2=>(a_l (pO cid))∧∃(e:D) (i o:Nat),(pO cid= .el e i o)∧a_d [dd] s2 e i (o+1) K:=by
 refine ObD.add (l:=⟨b_v,1,d1,c.Jts.map Jt.enc⟩) (ls:= [⟨a_2,0,d0,c.Secs.map Sec.enc⟩,⟨b_b,2,d2,c.Sigs.map Sg.enc⟩,⟨t_int,3,d3,c.Xs.map Go.Fw.encI⟩,⟨a_w,4,d4,rows⟩]) (h.ob.perm fun l hl=>by simp only[c_7,List.mem_cons,List.not_mem_nil,or_false] at hl;rcases hl with rfl | rfl | rfl | rfl | rfl <;> simp[c_7])
   (fun m hm=>f_3 (c:=c) (d0:=d0) (d1:=d1) (d2:=d2) (d3:=d3) (d4:=d4) (rows:=rows) m (by simp only[List.mem_cons,List.not_mem_nil,or_false] at hm;rcases hm with rfl | rfl | rfl | rfl <;> simp[c_7]) _ (by simp[c_7]) (by simp at hm;rcases hm with rfl | rfl | rfl | rfl <;> simp)) (by simp[i_3]) (by rw[List.length_map];omega) (by rw[List.length_map];omega) fun d' s' g1 g2=>hk d' s' ⟨?_,h.rts⟩ g2
 exact g1.perm fun l hl=>by simp only[c_7,List.mem_cons,List.not_mem_nil,or_false] at hl;rcases hl with rfl | rfl | rfl | rfl | rfl <;> simp[c_7]
theorem CfD.addSg (h:CfD σ0 F s cid c d0 d1 d2 d3 d4 rows){z:Sg}{K:Store→Prop}(hl:c.Sigs.length < 2 ^ 40)(hk:∀d' s',CfD σ0 F s' cid { c with Sigs:=c.Sigs ++ [z] } d0 d1 d' d3 d4 rows→(∀i,F i→s' i=s i)→K s') :
   Fw.newObj s (.live b_b [Sg.enc z]) fun id s1=>a_e prog s1 b_b 16 d2 (.osl id 0 1) fun dd s2=>(a_l (pO cid))∧∃(e:D) (i o:Nat),(pO cid= .el e i o)∧a_d [dd] s2 e i (o+2) K:=by
 refine ObD.add (l:=⟨b_b,2,d2,c.Sigs.map Sg.enc⟩) (ls:= [⟨a_2,0,d0,c.Secs.map Sec.enc⟩,⟨b_v,1,d1,c.Jts.map Jt.enc⟩,⟨t_int,3,d3,c.Xs.map Go.Fw.encI⟩,⟨a_w,4,d4,rows⟩]) (h.ob.perm fun l hl=>by simp only[c_7,List.mem_cons,List.not_mem_nil,or_false] at hl;rcases hl with rfl | rfl | rfl | rfl | rfl <;> simp[c_7])
   (fun m hm=>f_3 (c:=c) (d0:=d0) (d1:=d1) (d2:=d2) (d3:=d3) (d4:=d4) (rows:=rows) m (by simp only[List.mem_cons,List.not_mem_nil,or_false] at hm;rcases hm with rfl | rfl | rfl | rfl <;> simp[c_7]) _ (by simp[c_7]) (by simp at hm;rcases hm with rfl | rfl | rfl | rfl <;> simp)) (by simp[i_3]) (by rw[List.length_map];omega) (by rw[List.length_map];omega) fun d' s' g1 g2=>hk d' s' ⟨?_,h.rts⟩ g2
 exact g1.perm fun l hl=>by simp only[c_7,List.mem_cons,List.not_mem_nil,or_false] at hl;rcases hl with rfl | rfl | rfl | rfl | rfl <;> simp[c_7]
theorem CfD.addX (h:CfD σ0 F s cid c d0 d1 d2 d3 d4 rows){z:Int}{K:Store→Prop}(hl:c.Xs.length < 2 ^ 40)(hk:∀d' s',CfD σ0 F s' cid { c with Xs:=c.Xs ++ [z] } d0 d1 d2 d' d4 rows→(∀i,F i→s' i=s i)→K s') :
   Fw.newObj s (.live t_int [Go.Fw.encI z]) fun id s1=>a_e prog s1 t_int 8 d3 (.osl id 0 1) fun dd s2=>(a_l (pO cid))∧∃(e:D) (i o:Nat),(pO cid= .el e i o)∧a_d [dd] s2 e i (o+3) K:=by
 refine ObD.add (l:=⟨t_int,3,d3,c.Xs.map Go.Fw.encI⟩) (ls:= [⟨a_2,0,d0,c.Secs.map Sec.enc⟩,⟨b_v,1,d1,c.Jts.map Jt.enc⟩,⟨b_b,2,d2,c.Sigs.map Sg.enc⟩,⟨a_w,4,d4,rows⟩]) (h.ob.perm fun l hl=>by simp only[c_7,List.mem_cons,List.not_mem_nil,or_false] at hl;rcases hl with rfl | rfl | rfl | rfl | rfl <;> simp[c_7])
   (fun m hm=>f_3 (c:=c) (d0:=d0) (d1:=d1) (d2:=d2) (d3:=d3) (d4:=d4) (rows:=rows) m (by simp only[List.mem_cons,List.not_mem_nil,or_false] at hm;rcases hm with rfl | rfl | rfl | rfl <;> simp[c_7]) _ (by simp[c_7]) (by simp at hm;rcases hm with rfl | rfl | rfl | rfl <;> simp)) (by simp[i_3]) (by rw[List.length_map];omega) (by rw[List.length_map];omega) fun d' s' g1 g2=>hk d' s' ⟨?_,h.rts⟩ g2
 exact g1.perm fun l hl=>by simp only[c_7,List.mem_cons,List.not_mem_nil,or_false] at hl;rcases hl with rfl | rfl | rfl | rfl | rfl <;> simp[c_7]
theorem CfD.addRt (h:CfD σ0 F s cid c d0 d1 d2 d3 d4 rows){z:Rt}{row:List D}{K:Store→Prop}(hz:RtRow row z)(hl:c.Rts.length < 2 ^ 40)(hk:∀d' s',CfD σ0 F s' cid { c with Rts:=c.Rts ++ [z] } d0 d1 d2 d3 d' (rows ++ [row])→(∀i,F i→s' i=s i)→K s') :
   Fw.newObj s (.live a_w [row]) fun id s1=>a_e prog s1 a_w 96 d4 (.osl id 0 1) fun dd s2=>(a_l (pO cid))∧∃(e:D) (i o:Nat),(pO cid= .el e i o)∧a_d [dd] s2 e i (o+4) K:=by
 have:=h.rts.1
 refine ObD.add (l:=⟨a_w,4,d4,rows⟩) (ls:= [⟨a_2,0,d0,c.Secs.map Sec.enc⟩,⟨b_v,1,d1,c.Jts.map Jt.enc⟩,⟨b_b,2,d2,c.Sigs.map Sg.enc⟩,⟨t_int,3,d3,c.Xs.map Go.Fw.encI⟩]) (h.ob.perm fun l hl=>by simp only[c_7,List.mem_cons,List.not_mem_nil,or_false] at hl;rcases hl with rfl | rfl | rfl | rfl | rfl <;> simp[c_7])
   (fun m hm=>f_3 (c:=c) (d0:=d0) (d1:=d1) (d2:=d2) (d3:=d3) (d4:=d4) (rows:=rows) m (by simp only[List.mem_cons,List.not_mem_nil,or_false] at hm;rcases hm with rfl | rfl | rfl | rfl <;> simp[c_7]) _ (by simp[c_7]) (by simp at hm;rcases hm with rfl | rfl | rfl | rfl <;> simp)) (by simp[i_3]) (by show 96 * (rows.length+1)≤_;omega) (by show rows.length+1 < _;omega) fun d' s' g1 g2=>hk d' s' ⟨?_,h.rts.add hz⟩ g2
 exact g1.perm fun l hl=>by simp only[c_7,List.mem_cons,List.not_mem_nil,or_false] at hl;rcases hl with rfl | rfl | rfl | rfl | rfl <;> simp[c_7]
end
end Go.Proofs.YtfdffboelecgoaaGreatDoor
end
section
set_option maxRecDepth 100000
namespace Go.Proofs.YtfdffboelecgoaaGreatDoor
open Go.Fw Go.Proofs
open Go.Proofs.Tryz (prog)
def a_ce:Ann:= { esc:= [2,3,4,5,22] }
def a_cy (text:ByteArray)(σ:Store)(Qp:RV→Store→Prop) :Prop:=
 Fw.newObj σ (.live t_Config [[.nils, .nils, .nils, .nils, .nils,iD 0,iD 0,iD 0,iD 0]]) (fun id Z=>Fw.newObj Z (.live l_r [[iD 0]]) (fun id1 Z1=>Fw.newObj Z1 (.live t_Config [[.nils, .nils, .nils, .nils, .nils,iD 0,iD 0,iD 0,iD 0]]) (fun id2 Z2=>Fw.newObj Z2 (.live t_int [[iD 0]]) (fun id3 Z3=>a_d [iD 0] Z3 (.osl id3 0 1) 0 0 (fun Z4=>DCalls prog e_2 [.one (.str text), .one (.str (ByteArray.mk (List.toArray [10])))] Z4 (fun r Z5=>∃s:ByteArray,∃b:Bool,(r=(.tup [.one (.str s),bA b]:RV))∧DCalls prog f_o [.one (.str s), .one (.str (ByteArray.mk (List.toArray [10])))] Z5 (fun r1 Z6=>∃d:D,(r1=(.a (.one d) :RV))∧∃f:FuncId,∃caps:List (Bool × (List D)),∃σd:Store,∃xs:List ByteArray,∃I:Nat→Store→Prop,∃X:Store→Prop,((E.val (.one d)) =(E.val (.one (.fn f [] caps))))∧(a_hs prog f caps Z6 σd xs)∧(I 0 σd)∧(∀i:Nat,∀s1:ByteArray,∀s0:Store,(NthB xs i s1)→(I i s0)→DCalls prog h_w [.one (.str s1), .one (.str (ByteArray.mk (List.toArray [32])))] s0 (fun r2 Z7=>∃d1:D,(r2=(.a (.one d1) :RV))∧Fw.newObj Z7 (.live s_e [[d1, .bool false]]) (fun id4 Z8=>DCalls prog g_b [.one (.el (.osl id4 0 1) 0 0), .one (.el (.osl id2 0 1) 0 0)] Z8 (fun r3 Z9=>∃n:Int,(r3=(.a (iA n) :RV))∧∃row:List D,(Row Z9 (.osl id4 0 1) 0 row)∧∃b1:Bool,((List.take 1 (List.drop 1 row)) =([.bool b1]:List D))∧a_c b1 (a_d [.nils, .nils, .nils, .nils, .nils,iD 0,iD 0,iD 0,iD 0] Z9 (.osl id 0 1) 0 0 (fun Z10=>a_d [iD 13] Z10 (.osl id1 0 1) 0 0 (fun Z11=>X Z11))) (∃row1:List D,(Row Z9 (.osl id4 0 1) 0 row1)∧∃d2:D,((List.take 1 row1) =([d2]:List D))∧∃len:Nat,(Len d2 len)∧a_c (decide ((len:Int) > 0)) (a_d [.nils, .nils, .nils, .nils, .nils,iD 0,iD 0,iD 0,iD 0] Z9 (.osl id 0 1) 0 0 (fun Z10=>a_d [iD 13] Z10 (.osl id1 0 1) 0 0 (fun Z11=>X Z11))) (∃row2:List D,(Row Z9 (.osl id3 0 1) 0 row2)∧∃n1:Int,((List.take 1 row2) =([iD n1]:List D))∧a_c (decide (n < n1)) (a_d [.nils, .nils, .nils, .nils, .nils,iD 0,iD 0,iD 0,iD 0] Z9 (.osl id 0 1) 0 0 (fun Z10=>a_d [iD 13] Z10 (.osl id1 0 1) 0 0 (fun Z11=>X Z11))) (∃row3:List D,(Row Z9 (.osl id3 0 1) 0 row3)∧∃n2:Int,((List.take 1 row3) =([iD n2]:List D))∧a_c (n == n2) (a_c (n == 6) (a_d [.nils, .nils, .nils, .nils, .nils,iD 0,iD 0,iD 0,iD 0] Z9 (.osl id 0 1) 0 0 (fun Z10=>a_d [iD 13] Z10 (.osl id1 0 1) 0 0 (fun Z11=>X Z11))) (a_d [iD n] Z9 (.osl id3 0 1) 0 0 (fun Z10=>I (i+1) Z10))) (a_d [iD n] Z9 (.osl id3 0 1) 0 0 (fun Z10=>I (i+1) Z10)))))))))∧(∀s1:Store,(I (List.length xs) s1)→a_c (!b) (a_d [.nils, .nils, .nils, .nils, .nils,iD 0,iD 0,iD 0,iD 0] s1 (.osl id 0 1) 0 0 (fun Z7=>a_d [iD 13] Z7 (.osl id1 0 1) 0 0 (fun Z8=>∃row:List D,(Row Z8 (.osl id 0 1) 0 row)∧∃d1 d2 d3 d4 d5:D,∃n n1 n2 n3:Int,((List.take 9 row) =([d1,d2,d3,d4,d5,iD n,iD n1,iD n2,iD n3]:List D))∧∃row1:List D,(Row Z8 (.osl id1 0 1) 0 row1)∧∃n4:Int,((List.take 1 row1) =([iD n4]:List D))∧Qp (.tup [.agg [d1,d2,d3,d4,d5,iD n,iD n1,iD n2,iD n3],iA n4]) Z8))) (∃row:List D,(Row s1 (.osl id3 0 1) 0 row)∧∃n:Int,((List.take 1 row) =([iD n]:List D))∧a_c (n != 6) (a_d [.nils, .nils, .nils, .nils, .nils,iD 0,iD 0,iD 0,iD 0] s1 (.osl id 0 1) 0 0 (fun Z7=>a_d [iD 13] Z7 (.osl id1 0 1) 0 0 (fun Z8=>∃row1:List D,(Row Z8 (.osl id 0 1) 0 row1)∧∃d1 d2 d3 d4 d5:D,∃n1 n2 n3 n4:Int,((List.take 9 row1) =([d1,d2,d3,d4,d5,iD n1,iD n2,iD n3,iD n4]:List D))∧∃row2:List D,(Row Z8 (.osl id1 0 1) 0 row2)∧∃n5:Int,((List.take 1 row2) =([iD n5]:List D))∧Qp (.tup [.agg [d1,d2,d3,d4,d5,iD n1,iD n2,iD n3,iD n4],iA n5]) Z8))) (∃row1:List D,(Row s1 (.osl id2 0 1) 0 row1)∧∃d1 d2 d3 d4 d5:D,∃n1 n2 n3 n4:Int,((List.take 9 row1) =([d1,d2,d3,d4,d5,iD n1,iD n2,iD n3,iD n4]:List D))∧a_d [d1,d2,d3,d4,d5,iD n1,iD n2,iD n3,iD n4] s1 (.osl id 0 1) 0 0 (fun Z7=>a_d [iD 0] Z7 (.osl id1 0 1) 0 0 (fun Z8=>∃row2:List D,(Row Z8 (.osl id 0 1) 0 row2)∧∃d6 d7 d8 d9 d10:D,∃n5 n6 n7 n8:Int,((List.take 9 row2) =([d6,d7,d8,d9,d10,iD n5,iD n6,iD n7,iD n8]:List D))∧∃row3:List D,(Row Z8 (.osl id1 0 1) 0 row3)∧∃n9:Int,((List.take 1 row3) =([iD n9]:List D))∧Qp (.tup [.agg [d6,d7,d8,d9,d10,iD n5,iD n6,iD n7,iD n8],iA n9]) Z8)))))∧∀s1:Store,(X s1)→∃row:List D,(Row s1 (.osl id 0 1) 0 row)∧∃d1 d2 d3 d4 d5:D,∃n n1 n2 n3:Int,((List.take 9 row) =([d1,d2,d3,d4,d5,iD n,iD n1,iD n2,iD n3]:List D))∧∃row1:List D,(Row s1 (.osl id1 0 1) 0 row1)∧∃n4:Int,((List.take 1 row1) =([iD n4]:List D))∧Qp (.tup [.agg [d1,d2,d3,d4,d5,iD n,iD n1,iD n2,iD n3],iA n4]) s1)))))))
theorem a_ed (text:ByteArray)(σ:Store)(Qp:RV→Store→Prop)(h:a_cy text σ Qp) :DCalls prog j_o [.one (.str text)] σ Qp:=
 v_p mixed (by kernel_rfl) Tryz.func15 a_ce (Eq.mp (by kernel_rfl) h)
end Go.Proofs.YtfdffboelecgoaaGreatDoor
end
section
set_option maxRecDepth 20000
namespace Go.Proofs.YtfdffboelecgoaaGreatDoor
open Go.Fw Go.Proofs Go.RowKit
open Go.Proofs.Tryz (prog)
variable {σ σ0:Store} {F:Nat→Prop} {wid cid:Nat}
def CfIn (σ0:Store)(F:Nat→Prop)(s:Store)(cid:Nat)(c:Cf) :Prop:=∃d0 d1 d2 d3 d4 rows,CfD σ0 F s cid c d0 d1 d2 d3 d4 rows
theorem CfD.away {s s':Store}{c:Cf}{d0 d1 d2 d3 d4:D}{rows:List (List D)}(h:CfD σ0 F s cid c d0 d1 d2 d3 d4 rows)(hw:F wid)(hn:σ0 wid= .free)(hl:s' wid≠ .free)(ho:∀i,i≠wid→s' i=s i) :CfD σ0 F s' cid c d0 d1 d2 d3 d4 rows:=
 ⟨h.ob.away hw hn hl ho,h.rts⟩
theorem CfD.ext {s:Store}{c:Cf}{d0 d1 d2 d3 d4:D}{rows:List (List D)}(h:CfD σ0 F s cid c d0 d1 d2 d3 d4 rows) :Ext σ0 s:=(h.ob.own ⟨a_2,0,d0,c.Secs.map Sec.enc⟩ (by simp[c_7])).1.ext
def a_l8 (σ0:Store)(F:Nat→Prop)(s:Store)(wid cid:Nat)(x:Int × Cf × Ws)(r:RV)(s':Store) :Prop:=
 r= .a (iA x.1)∧Wx σ0 s' wid x.2.2.1 x.2.2.2∧CfIn σ0 F s' cid x.2.1∧∀i,F i→i≠wid→s' i=s i
section
variable {s:Store} {ws:List ByteArray} {bad:Bool} {c:Cf}
theorem a_iu (hw:Wx σ0 s wid ws bad)(h:CfIn σ0 F s cid c)(hFw:F wid)(hl:a_d8 c (2 ^ 39))(hwl:ws.length < 2 ^ 39) :
   DCalls prog g_b [.one (pO wid), .one (pO cid)] s (a_l8 σ0 F s wid cid (c_8 c (ws,bad))):=by
 obtain ⟨d0,d1,d2,d3,d4,rows,h⟩:=h
 obtain ⟨l0,l1,l2,l3,l4⟩:=hl
 have hnw:=hw.1.new
 have hcw:cid≠wid:=fun e=>h.ob.nf (e ▸ hFw)
 refine r_x (pO wid) (pO cid) s _ ((w_a hw fun _ _=>rfl).mono ?_)
 rintro _ s0 ⟨rfl,hw,ho⟩
 refine ⟨_,rfl,?_⟩
 simp only[Lib.toList_data]
 have h:=h.away hFw hnw hw.live ho
 have hsame:∀i,i≠wid→s0 i=s i:=ho
 have hlen:(c_i (ws,bad)).2.1.length≤ws.length:=by show ws.tail.length≤_;rw[List.length_tail];omega
 generalize hw0:(c_i (ws,bad)).1.data.toList=w0
 generalize hwr:(c_i (ws,bad)).2=wr at *
 have hline : ∀ x, (if w0 = l_8 then let x := a_p wr; let y := a_p x.2; let z := a_p y.2; ((1 : Int), { c with Secs := c.Secs ++ [⟨x.1, y.1, z.1⟩] }, z.2)
     else if w0=wJt then let x:=a_p wr;let y:=a_p x.2;let z:=a_p y.2;let u:=a_p z.2; (2,{ c with Jts:=c.Jts ++ [⟨x.1,y.1,z.1,u.1⟩] },u.2)
     else if w0=wSg then let x:=a_p wr;let y:=a_p x.2; (3,{ c with Sigs:=c.Sigs ++ [⟨x.1,y.1⟩] },y.2)
     else if w0=wX then let x:=a_p wr; (4,{ c with Xs:=c.Xs ++ [x.1] },x.2)
     else if w0=b_1 then let x:=c_r wr; (5,{ c with Rts:=c.Rts ++ [x.1] },x.2)
     else if w0=j_g then let x:=a_p wr;let y:=a_p x.2;let z:=a_p y.2;let u:=a_p z.2; (6,{ c with Age:=x.1,Brake:=y.1,Hold:=z.1,Budget:=u.1 },u.2)
     else (0,c,(wr.1,true))) =x→c_8 c (ws,bad) =x:=by
   rintro x rfl
   unfold c_8
   simp only[hw0,hwr]
 have fin:∀{x:Int × Cf × Ws} {s1 s2:Store},c_8 c (ws,bad) =x→Wx σ0 s1 wid x.2.2.1 x.2.2.2→(∀i,i≠wid→s1 i=s0 i)→CfIn σ0 F s2 cid x.2.1→Ext σ0 s2→(∀i,F i→s2 i=s1 i)→a_l8 σ0 F s wid cid (c_8 c (ws,bad)) (.a (iA x.1)) s2:=fun hx k1 k2 k3 k4 k5=>by
   rw[hx]
   exact ⟨rfl,k1.frame (k5 wid hFw) k4,k3,fun i hi hiw=>by rw[k5 i hi,k2 i hiw,hsame i hiw]⟩
 have ho:∀i,i≠wid→s0 i=s0 i:=fun _ _=>rfl
 refine bc (fun e=>?_) (fun n1=>bc (fun e=>?_) (fun n2=>bc (fun e=>?_) (fun n3=>bc (fun e=>?_) (fun n4=>bc (fun e=>?_) (fun n5=>bc (fun e=>?_) (fun n6=>?_))))))
 · have hx:=hline _ (if_pos (eq_of_beq e))
   intro R hR
   repeat' apply And.intro
   all_goals
     repeat (first
       | exact trivial
       | refine ⟨_,_,_,rfl,_,a_j ((ho _ hcw).trans h.ob.cell),_,rfl,?_⟩
       | refine ⟨_,a_j ((ho _ hcw).trans h.ob.cell),_,rfl,?_⟩
       | refine ⟨_,_,_,rfl,?_⟩
       | (refine (k_j hw ho).mono ?_;rintro _ _ ⟨rfl,hw,ho⟩;refine ⟨_,rfl,?_⟩))
   all_goals
     refine (h.away hFw hnw hw.live ho).addSec (z:=⟨_,_,_⟩) (by omega) fun d' s' k1 k2=>hR _ (fin hx hw ho ⟨_,_,_,_,_,_,k1⟩ k1.ext k2)
 · have hx:=hline _ ((if_neg (ne_of_beq_false n1)).trans (if_pos (eq_of_beq e)))
   intro R hR
   repeat' apply And.intro
   all_goals
     repeat (first
       | exact trivial
       | refine ⟨_,_,_,rfl,_,a_j ((ho _ hcw).trans h.ob.cell),_,rfl,?_⟩
       | refine ⟨_,a_j ((ho _ hcw).trans h.ob.cell),_,rfl,?_⟩
       | refine ⟨_,_,_,rfl,?_⟩
       | (refine (k_j hw ho).mono ?_;rintro _ _ ⟨rfl,hw,ho⟩;refine ⟨_,rfl,?_⟩))
   all_goals
     refine (h.away hFw hnw hw.live ho).addJt (z:=⟨_,_,_,_⟩) (by omega) fun d' s' k1 k2=>hR _ (fin hx hw ho ⟨_,_,_,_,_,_,k1⟩ k1.ext k2)
 · have hx:=hline _ ((if_neg (ne_of_beq_false n1)).trans ((if_neg (ne_of_beq_false n2)).trans (if_pos (eq_of_beq e))))
   intro R hR
   repeat' apply And.intro
   all_goals
     repeat (first
       | exact trivial
       | refine ⟨_,_,_,rfl,_,a_j ((ho _ hcw).trans h.ob.cell),_,rfl,?_⟩
       | refine ⟨_,a_j ((ho _ hcw).trans h.ob.cell),_,rfl,?_⟩
       | refine ⟨_,_,_,rfl,?_⟩
       | (refine (k_j hw ho).mono ?_;rintro _ _ ⟨rfl,hw,ho⟩;refine ⟨_,rfl,?_⟩))
   all_goals
     refine (h.away hFw hnw hw.live ho).addSg (z:=⟨_,_⟩) (by omega) fun d' s' k1 k2=>hR _ (fin hx hw ho ⟨_,_,_,_,_,_,k1⟩ k1.ext k2)
 · have hx:=hline _ ((if_neg (ne_of_beq_false n1)).trans ((if_neg (ne_of_beq_false n2)).trans ((if_neg (ne_of_beq_false n3)).trans (if_pos (eq_of_beq e)))))
   intro R hR
   repeat' apply And.intro
   all_goals
     repeat (first
       | exact trivial
       | refine ⟨_,_,_,rfl,_,a_j ((ho _ hcw).trans h.ob.cell),_,rfl,?_⟩
       | refine ⟨_,a_j ((ho _ hcw).trans h.ob.cell),_,rfl,?_⟩
       | refine ⟨_,_,_,rfl,?_⟩
       | (refine (k_j hw ho).mono ?_;rintro _ _ ⟨rfl,hw,ho⟩;refine ⟨_,rfl,?_⟩))
   all_goals
     refine (h.away hFw hnw hw.live ho).addX (z:=(a_p wr).1) (by omega) fun d' s' k1 k2=>hR _ (fin hx hw ho ⟨_,_,_,_,_,_,k1⟩ k1.ext k2)
 · have hx:=hline _ ((if_neg (ne_of_beq_false n1)).trans ((if_neg (ne_of_beq_false n2)).trans ((if_neg (ne_of_beq_false n3)).trans ((if_neg (ne_of_beq_false n4)).trans (if_pos (eq_of_beq e))))))
   intro R hR
   refine ⟨⟨trivial,_,_,_,rfl,_,a_j h.ob.cell,_,rfl,(a_c1 hw (by omega)).mono ?_⟩,trivial,_,_,_,rfl,(a_c1 hw (by omega)).mono ?_⟩
   · rintro _ s1 ⟨row,rfl,hr,hw,ho⟩
     have hr':=hr
     obtain ⟨e1,e2,e3,rfl,_⟩:=hr'
     exact ⟨_,_,_,_,_,_,rfl,(h.away hFw hnw hw.live ho).addRt hr (by omega) fun d' s' k1 k2=>hR _ (fin hx hw ho ⟨_,_,_,_,_,_,k1⟩ k1.ext k2)⟩
   · rintro _ s1 ⟨row,rfl,hr,hw,ho⟩
     have hr':=hr
     obtain ⟨e1,e2,e3,rfl,_⟩:=hr'
     exact ⟨_,_,_,_,_,_,rfl,_,a_j ((ho _ hcw).trans h.ob.cell),_,rfl,(h.away hFw hnw hw.live ho).addRt hr (by omega) fun d' s' k1 k2=>hR _ (fin hx hw ho ⟨_,_,_,_,_,_,k1⟩ k1.ext k2)⟩
 · have hx:=hline _ ((if_neg (ne_of_beq_false n1)).trans ((if_neg (ne_of_beq_false n2)).trans ((if_neg (ne_of_beq_false n3)).trans ((if_neg (ne_of_beq_false n4)).trans ((if_neg (ne_of_beq_false n5)).trans (if_pos (eq_of_beq e)))))))
   repeat (refine (k_j hw ho).mono ?_;rintro _ _ ⟨rfl,hw,ho⟩;refine ⟨_,rfl,?_⟩)
   refine ⟨trivial,_,_,_,rfl,(h.away hFw hnw hw.live ho).ob.put (by simp[i_3]) fun s' k1 k2=>fin hx hw ho ⟨d0,d1,d2,d3,d4,rows,⟨k1,h.rts⟩⟩ (k1.own ⟨a_2,0,d0,c.Secs.map Sec.enc⟩ (by simp[c_7])).1.ext k2⟩
 · have hx:=hline _ ((if_neg (ne_of_beq_false n1)).trans ((if_neg (ne_of_beq_false n2)).trans ((if_neg (ne_of_beq_false n3)).trans ((if_neg (ne_of_beq_false n4)).trans ((if_neg (ne_of_beq_false n5)).trans (if_neg (ne_of_beq_false n6)))))))
   rw[hx]
   obtain ⟨⟨hn',he',d',p',q'⟩,hz⟩:=hw
   refine ⟨trivial,_,_,_,rfl,b_d p' (by simp) fun s6 hs6 ho6=>⟨rfl,⟨⟨hn',k_0 he' hn' ho6,d',by rw[hs6];rfl,q'⟩,hz⟩,⟨d0,d1,d2,d3,d4,rows,h.away hFw hnw (by rw[hs6];intro e;cases e) ho6⟩,fun i hi hiw=>(ho6 i hiw).trans (hsame i hiw)⟩⟩
end
end Go.Proofs.YtfdffboelecgoaaGreatDoor
end
section
set_option maxRecDepth 20000
namespace Go.Proofs.YtfdffboelecgoaaGreatDoor
open Go.Fw Go.Proofs
def c_o (c:UInt8) :List UInt8→List (List UInt8)
 | []=> [[]]
 | x::l=>if x=c then []::c_o c l else (x:: (c_o c l).headD []) :: (c_o c l).tail
theorem z_l (c:UInt8) :∀l:List UInt8,Lib.splitK [c] 0 (Lib.count l [c]) l=c_o c l
 | []=>by rw[Lib.count_miss (by simp[Lib.index])];rfl
 | x::l=>by
   have ih:=z_l c l
   by_cases h:x=c
   · subst h
     rw[Lib.count_cons_eq,Nat.add_comm]
     have hix:Lib.index (x::l) [x]=0:=by rw[Lib.index];simp[List.isPrefixOf]
     rw[Lib.splitK,hix,c_o,if_pos rfl,←ih]
     simp
   · rw[Lib.count_cons_ne x c l h,c_o,if_neg h,←ih]
     have hp:([c]:List UInt8).isPrefixOf (x::l) =false:=by simp[List.isPrefixOf,Ne.symm h]
     have hix:Lib.index (x::l) [c]=if Lib.index l [c] == -1 then -1 else Lib.index l [c] +1:=by rw[Lib.index,hp];simp
     by_cases hm:Lib.index l [c]= -1
     · rw[Lib.count_miss hm];rfl
     · have hge:=Lib.index_ge l [c]
       obtain ⟨j,hj⟩ :∃j:Nat,Lib.index l [c]=j:=⟨(Lib.index l [c]).toNat,by omega⟩
       rw[Lib.count_hit (by simp) hj,Nat.add_comm 1,Lib.splitK,Lib.splitK,hix,hj]
       have e1:((j:Int) == -1) =false:=beq_eq_false_iff_ne.2 (by omega)
       have e2:((j:Int) +1 == -1) =false:=beq_eq_false_iff_ne.2 (by omega)
       have e3:((j:Int) +1).toNat=j+1:=by omega
       simp only[e1,e2,e3,Bool.false_eq_true,if_false,Int.toNat_natCast]
       simp
theorem a_d0 (c:UInt8)(s:ByteArray) :(pieces c s).map (·.data.toList) =c_o c s.data.toList:=by
 unfold pieces;rw[Lib.splitB_data];exact z_l c s.data.toList
theorem p_6 {c:UInt8} :∀{l:List UInt8},c ∉ l→c_o c l=[l]
 | [],_=>rfl
 | x::l,h=>by
   rw[c_o,if_neg (fun e=>h (by simp[e])),p_6 (fun e=>h (by simp[e]))];rfl
theorem q_q {c:UInt8}{r:List UInt8} :∀{l:List UInt8},c ∉ l→c_o c (l ++ c::r) =l::c_o c r
 | [],_=>by rw[List.nil_append,c_o,if_pos rfl]
 | x::l,h=>by
   rw[List.cons_append,c_o,if_neg (fun e=>h (by simp[e])),q_q (fun e=>h (by simp[e]))];rfl
def z_w (c:UInt8) :List (List UInt8)→List UInt8
 | []=> []
 | [l]=>l
 | l::r=>l ++ c::z_w c r
theorem a_i0 (c:UInt8)(l:List UInt8) :c_o c l≠[]:=by
 cases l with
 | nil=>simp[c_o]
 | cons x l=>rw[c_o];split <;> simp
theorem w_h {c:UInt8}{l:List UInt8}{r:List (List UInt8)}(h:r≠[]) :z_w c (l::r) =l ++ c::z_w c r:=by
 cases r with
 | nil=>exact absurd rfl h
 | cons _ _=>rfl
def f_n (ws:List (List UInt8)) :List UInt8:=(ws.map (32::·)).flatten
theorem j_t (w:List UInt8)(ws:List (List UInt8)) :f_n (w::ws) =32:: (w ++ f_n ws):=rfl
theorem l_3 (a b:List (List UInt8)) :f_n (a ++ b) =f_n a ++ f_n b:=by unfold f_n;rw[List.map_append,List.flatten_append]
theorem j_3:∀{ws:List (List UInt8)} {w:List UInt8},32 ∉ w→(∀x ∈ ws,32 ∉ x)→c_o 32 (w ++ f_n ws) =w::ws
 | [],w,h,_=>by show c_o 32 (w ++ []) =_;rw[List.append_nil];exact p_6 h
 | x::ws,w,h,hx=>by rw[j_t,q_q h,j_3 (hx x (by simp)) fun y hy=>hx y (by simp[hy])]
theorem t_j (u:Nat) :∀c ∈ Lib.decDigits u,48≤c.toNat∧c.toNat≤57:=by
 induction u using Nat.strongRecOn with
 | ind u ih=>
   intro c hc
   have one:∀d,d < 10→c=UInt8.ofNat (48+d)→48≤c.toNat∧c.toNat≤57:=by
     intro d hd e
     subst e
     rw[UInt8.toNat_ofNat']
     omega
   rw[Lib.decDigits] at hc
   split at hc
   · rename_i h
     exact one u h (by simpa using hc)
   · rcases List.mem_append.1 hc with h | h
     · exact ih (u / 10) (by omega) c h
     · exact one (u % 10) (by omega) (by simpa using h)
theorem p_8 {n:Int}{c:UInt8}(h:c ∈ Lib.itoa n) :c=45∨48≤c.toNat∧c.toNat≤57:=by
 unfold Lib.itoa at h
 split at h
 · rcases List.mem_cons.1 h with h | h
   · exact .inl h
   · exact .inr (t_j _ c h)
 · exact .inr (t_j _ c h)
theorem a_ju (n:Int) :(32:UInt8) ∉ Lib.itoa n:=fun h=>by rcases p_8 h with h | ⟨h,_⟩ <;> revert h <;> decide
theorem a_je (n:Int) :(10:UInt8) ∉ Lib.itoa n:=fun h=>by rcases p_8 h with h | ⟨h,_⟩ <;> revert h <;> decide
theorem a_i7 (u:Nat) :∀r,u < 18446744073709551616→Lib.parseUint10 0 (Lib.decDigits u ++ r) =Lib.parseUint10 u r:=by
 induction u using Nat.strongRecOn with
 | ind u ih=>
   intro r hu
   have one:∀acc d,d < 10→acc < 1844674407370955162→acc * 10+d < 18446744073709551616→Lib.parseUint10 acc (UInt8.ofNat (48+d) ::r) =Lib.parseUint10 (acc * 10+d) r:=by
     intro acc d hd h1 h2
     have e:(UInt8.ofNat (48+d)).toNat=48+d:=by rw[UInt8.toNat_ofNat'];omega
     rw[Lib.parseUint10,e,if_pos (by omega),if_neg (by omega),if_neg (by omega)]
     congr 1;omega
   rw[Lib.decDigits]
   split
   · rename_i h
     show Lib.parseUint10 0 (UInt8.ofNat (48+u) ::r) =_
     rw[one 0 u h (by omega) (by omega)];congr 1;omega
   · rw[List.append_assoc,ih (u / 10) (by omega) _ (by omega)]
     show Lib.parseUint10 (u / 10) (UInt8.ofNat (48+u % 10) ::r) =_
     rw[one (u / 10) (u % 10) (by omega) (by omega) (by omega)]
     congr 1;omega
theorem a_j6 (u:Nat) :Lib.decDigits u≠[]:=by rw[Lib.decDigits];split <;> simp
theorem z_g {n:Int}(h:i64 n) :f_d (Lib.itoa n) =(n,false):=by
 obtain ⟨h1,h2⟩:=h
 unfold f_d
 have key:Lib.atoiAll (Lib.itoa n) = .ok n:=by
   have mag:∀u,u < 18446744073709551616→Lib.parseMag (Lib.decDigits u) = .ok u:=fun u hu=>by
     unfold Lib.parseMag
     rw[if_neg (a_j6 u)]
     have:=a_i7 u [] hu
     rwa [List.append_nil] at this
   unfold Lib.itoa
   split
   · rename_i hn
     unfold Lib.atoiAll
     simp only
     rw[if_pos (Or.inr (by decide)),mag _ (by omega)]
     simp only
     have e:(45:UInt8).toNat=45:=by decide
     rw[if_neg (by omega),if_neg (by omega),if_pos e]
     congr 1;omega
   · rename_i hn
     cases hd:Lib.decDigits n.toNat with
     | nil=>exact absurd hd (a_j6 _)
     | cons c r=>
       have hc:=t_j n.toNat c (by rw[hd];simp)
       unfold Lib.atoiAll
       simp only
       rw[if_neg (by omega),←hd,mag _ (by omega)]
       simp only
       rw[if_neg (by omega),if_neg (by omega),if_neg (by omega)]
       congr 1;omega
 rw[key]
theorem a_f7 {n:Int}(h:i64 n) :x_0 (a_q (Lib.itoa n)) =true:=by
 show (!(f_d (Lib.itoa n)).2 && (Lib.itoa (f_d (Lib.itoa n)).1 == Lib.itoa n)) =true
 rw[z_g h];simp
end Go.Proofs.YtfdffboelecgoaaGreatDoor
end
section
set_option maxRecDepth 20000
namespace Go.Proofs.YtfdffboelecgoaaGreatDoor
open Go.Fw Go.Proofs
theorem a_ac (s:ByteArray) :a_q s.data.toList=s:=by
 obtain ⟨⟨l⟩⟩:=s;rfl
theorem a_ao (c:UInt8)(s:ByteArray) :pieces c s=(c_o c s.data.toList).map a_q:=by
 rw[←a_d0,List.map_map]
 have e:(a_q ∘ fun x:ByteArray=>x.data.toList) =id:=funext a_ac
 rw[e,List.map_id]
theorem t_i (c:UInt8)(l:List UInt8) :pieces c (a_q l) =(c_o c l).map a_q:=a_ao c (a_q l)
def m_z (l:List Int) :List ByteArray:=l.map fun n=>a_q (Lib.itoa n)
theorem a_ge {n:Int}(h:i64 n)(ws:List ByteArray)(b:Bool) :a_p (a_q (Lib.itoa n) ::ws,b) =(n,(ws,b)):=by
 have h1:(f_d (a_q (Lib.itoa n)).data.toList).1=n:=by show (f_d (Lib.itoa n)).1=n;rw[z_g h]
 unfold a_p
 simp only[List.headD_cons,List.tail_cons,List.isEmpty_cons,Bool.or_false]
 rw[h1,a_f7 h];simp
theorem i_7 {n:Int}(h:i64 n)(l:List Int)(ws:List ByteArray)(b:Bool) :a_p (m_z (n::l) ++ ws,b) =(n,(m_z l ++ ws,b)):=a_ge h _ b
theorem a_ly (ws:List ByteArray) :m_z [] ++ ws=ws:=rfl
theorem g_9 (w:List UInt8)(ns:List Int) :b_y w ns=w ++ f_n (ns.map Lib.itoa):=by
 unfold b_y f_n;rw[List.map_map];rfl
theorem w_v (ns:List Int) :∀x ∈ ns.map Lib.itoa,(32:UInt8) ∉ x:=fun x hx=>by
 obtain ⟨n,_,rfl⟩:=List.mem_map.1 hx;exact a_ju n
theorem i_2 {w:List UInt8}(hw:32 ∉ w)(ns:List Int) :pieces 32 (a_q (b_y w ns)) =a_q w:: (m_z ns ++ []):=by
 rw[t_i,g_9,j_3 hw (w_v ns),List.map_cons,List.map_map,List.append_nil];rfl
theorem a_kv (c:Cf){s:Sec}(h:i64 s.Kind∧i64 s.OC∧i64 s.Line) :c_8 c (pieces 32 (a_q (b_y l_8 [s.Kind,s.OC,s.Line])),false) =(1,{ c with Secs:=c.Secs ++ [s] },([],false)):=by
 rw[i_2 (by decide)]
 unfold c_8
 simp only[c_i,List.headD_cons,List.tail_cons,List.isEmpty_cons,Bool.or_false]
 rw[if_pos (show (a_q l_8).data.toList=l_8 from rfl),i_7 h.1,i_7 h.2.1,i_7 h.2.2];rfl
theorem a_ob (c:Cf){s:Jt}(h:i64 s.A∧i64 s.AEnd∧i64 s.B∧i64 s.BEnd) :c_8 c (pieces 32 (a_q (b_y wJt [s.A,s.AEnd,s.B,s.BEnd])),false) =(2,{ c with Jts:=c.Jts ++ [s] },([],false)):=by
 rw[i_2 (by decide)]
 unfold c_8
 simp only[c_i,List.headD_cons,List.tail_cons,List.isEmpty_cons,Bool.or_false]
 rw[if_neg (show ¬(a_q wJt).data.toList=l_8 from (by decide:¬wJt=l_8)),if_pos (show (a_q wJt).data.toList=wJt from rfl),i_7 h.1,i_7 h.2.1,i_7 h.2.2.1,i_7 h.2.2.2];rfl
theorem a_n3 (c:Cf){s:Sg}(h:i64 s.Sec∧i64 s.End_) :c_8 c (pieces 32 (a_q (b_y wSg [s.Sec,s.End_])),false) =(3,{ c with Sigs:=c.Sigs ++ [s] },([],false)):=by
 rw[i_2 (by decide)]
 unfold c_8
 simp only[c_i,List.headD_cons,List.tail_cons,List.isEmpty_cons,Bool.or_false]
 rw[if_neg (show ¬(a_q wSg).data.toList=l_8 from (by decide:¬wSg=l_8)),if_neg (show ¬(a_q wSg).data.toList=wJt from (by decide:¬wSg=wJt)),if_pos (show (a_q wSg).data.toList=wSg from rfl),i_7 h.1,i_7 h.2];rfl
theorem a_ov (c:Cf){s:Int}(h:i64 s) :c_8 c (pieces 32 (a_q (b_y wX [s])),false) =(4,{ c with Xs:=c.Xs ++ [s] },([],false)):=by
 rw[i_2 (by decide)]
 unfold c_8
 simp only[c_i,List.headD_cons,List.tail_cons,List.isEmpty_cons,Bool.or_false]
 rw[if_neg (show ¬(a_q wX).data.toList=l_8 from (by decide:¬wX=l_8)),if_neg (show ¬(a_q wX).data.toList=wJt from (by decide:¬wX=wJt)),if_neg (show ¬(a_q wX).data.toList=wSg from (by decide:¬wX=wSg)),if_pos (show (a_q wX).data.toList=wX from rfl),i_7 h];rfl
theorem a_me (c:Cf){d:Cf}(h:i64 d.Age∧i64 d.Brake∧i64 d.Hold∧i64 d.Budget) :c_8 c (pieces 32 (a_q (b_y j_g [d.Age,d.Brake,d.Hold,d.Budget])),false) =(6,{ c with Age:=d.Age,Brake:=d.Brake,Hold:=d.Hold,Budget:=d.Budget },([],false)):=by
 rw[i_2 (by decide)]
 unfold c_8
 simp only[c_i,List.headD_cons,List.tail_cons,List.isEmpty_cons,Bool.or_false]
 rw[if_neg (show ¬(a_q j_g).data.toList=l_8 from (by decide:¬j_g=l_8)),if_neg (show ¬(a_q j_g).data.toList=wJt from (by decide:¬j_g=wJt)),if_neg (show ¬(a_q j_g).data.toList=wSg from (by decide:¬j_g=wSg)),if_neg (show ¬(a_q j_g).data.toList=wX from (by decide:¬j_g=wX)),if_neg (show ¬(a_q j_g).data.toList=b_1 from (by decide:¬j_g=b_1)),if_pos (show (a_q j_g).data.toList=j_g from rfl),i_7 h.1,i_7 h.2.1,i_7 h.2.2.1,i_7 h.2.2.2];rfl
theorem q_g {α β:Type}{word:List UInt8}{step:α→Ws→α × Ws}{enc:β→List ByteArray}{f:α→β→α}{tl:List ByteArray}
   (ht:d_m word (tl,false) =false) :∀(bs:List β) (n:Nat) (x:α),bs.length≤n→(∀b ∈ bs,∀x ws,step x (enc b ++ ws,false) =(f x b,(ws,false))∧d_m word (enc b ++ ws,false) =true)→
     f_l word step n x ((bs.map enc).flatten ++ tl,false) =(bs.foldl f x,(tl,false))
 | [],0,x,_,_=>rfl
 | [],n+1,x,_,_=>by
   show (if d_m word (tl,false) then _ else (x,(tl,false))) =_
   rw[ht];rfl
 | b::bs,0,x,h,_=>by simp at h
 | b::bs,n+1,x,h,hs=>by
   obtain ⟨h1,h2⟩:=hs b (by simp) x ((bs.map enc).flatten ++ tl)
   rw[List.map_cons,List.flatten_cons,List.append_assoc,f_l,if_pos h2,h1]
   exact q_g ht bs n (f x b) (by simpa using h) fun b hb=>hs b (by simp[hb])
theorem x_p {α β:Type}{word:List UInt8}{step:α→Ws→α × Ws}{enc:β→List ByteArray}{f:α→β→α}{tl:List ByteArray}(hw:word.isEmpty=false)(bs:List β)(x:α)
   (hl:∀b ∈ bs,1≤(enc b).length) (hs:∀b ∈ bs,∀x ws,step x (enc b ++ ws,false) =(f x b,(ws,false))∧d_m word (enc b ++ ws,false) =true) :
   c_w word step x ((bs.map enc).flatten ++ a_q word::tl,false) =(bs.foldl f x,(tl,false)):=by
 have hlen:bs.length≤((bs.map enc).flatten ++ a_q word::tl).length:=by
   rw[List.length_append]
   have:∀l:List β,(∀b ∈ l,1≤(enc b).length)→l.length≤(l.map enc).flatten.length:=by
     intro l
     induction l with
     | nil=>intro _;simp
     | cons b l ih=>intro h;have h1:=h b (by simp);have h2:=ih fun b hb=>h b (by simp[hb]);simp only[List.map_cons,List.flatten_cons,List.length_append,List.length_cons];omega
   have:=this bs hl
   omega
 have hm:d_m word (a_q word::tl,false) =false:=by
   unfold d_m
   simp[hw]
   rfl
 unfold c_w
 rw[q_g hm bs _ x hlen hs,hw]
 simp[c_i]
 rfl
theorem a_g4 {α β:Type}{step:α→Ws→α × Ws}{enc:β→List ByteArray}{f:α→β→α}(bs:List β)(x:α)
   (hl:∀b ∈ bs,1≤(enc b).length) (hs:∀b ∈ bs,∀x ws,step x (enc b ++ ws,false) =(f x b,(ws,false))∧d_m [] (enc b ++ ws,false) =true) :
   c_w [] step x ((bs.map enc).flatten,false) =(bs.foldl f x,([],false)):=by
 have hlen:bs.length≤((bs.map enc).flatten).length:=by
   have:∀l:List β,(∀b ∈ l,1≤(enc b).length)→l.length≤(l.map enc).flatten.length:=by
     intro l
     induction l with
     | nil=>intro _;simp
     | cons b l ih=>intro h;have h1:=h b (by simp);have h2:=ih fun b hb=>h b (by simp[hb]);simp only[List.map_cons,List.flatten_cons,List.length_append,List.length_cons];omega
   exact this bs hl
 have:=q_g (word:= []) (tl:= []) rfl bs _ x hlen hs
 rw[List.append_nil] at this
 unfold c_w
 simp only[List.isEmpty_nil,if_true]
 exact this
theorem a_h4 {n:Int}{w:List UInt8}(hw:w.head?.all (fun c=>c != 45 && decide (57 < c.toNat)) =true)(h:w≠[]) :Lib.itoa n≠w:=fun e=>by
 cases w with
 | nil=>exact h rfl
 | cons c r=>
   have hc:=p_8 (n:=n) (c:=c) (by rw[e];simp)
   simp only[List.head?_cons,Option.all_some,Bool.and_eq_true,bne_iff_ne,decide_eq_true_eq] at hw
   rcases hc with hc | hc
   · exact hw.1 hc
   · omega
theorem x_l {n:Int}{word:List UInt8}(hw:word=[]∨Lib.itoa n≠word)(l:List Int)(ws:List ByteArray) :d_m word (m_z (n::l) ++ ws,false) =true:=by
 unfold d_m m_z
 rcases hw with rfl | h
 · simp
 · simp only[List.map_cons,List.cons_append,List.isEmpty_cons,List.headD_cons,Bool.not_false,Bool.true_and]
   have:((a_q (Lib.itoa n)).data.toList == word) =false:=by
     show (Lib.itoa n == word) =false
     exact beq_eq_false_iff_ne.2 h
   rw[this];simp
def a_lc (l:List Int) :List (List UInt8):=l.map Lib.itoa
def rtW (x:Rt) :List (List UInt8):=a_lc [x.Entry,x.Exit,if x.Shunt then 1 else 0] ++ wPath.drop 1:: ((x.Path.map fun s=> [s.Sec,s.In,s.Out].map Lib.itoa).flatten ++ wFlank.drop 1:: ((x.Flank.map fun s=> [s.Sec,s.Pos].map Lib.itoa).flatten ++ wOver.drop 1::x.Overlap.map Lib.itoa))
theorem x_7 {α:Type}(f:α→List Int)(l:List α) :cat (fun s=>b_y [] (f s)) l=f_n (l.map fun s=>(f s).map Lib.itoa).flatten:=by
 induction l with
 | nil=>rfl
 | cons a l ih=>
   have e:cat (fun s=>b_y [] (f s)) (a::l) =b_y [] (f a) ++ cat (fun s=>b_y [] (f s)) l:=rfl
   rw[e,ih,g_9,List.map_cons,List.flatten_cons,l_3,List.nil_append]
theorem a_gn (x:Rt) :rtL x=b_1 ++ f_n (rtW x) ++ [10]:=by
 have e1:cat stL x.Path=f_n (x.Path.map fun s=> [s.Sec,s.In,s.Out].map Lib.itoa).flatten:=x_7 _ _
 have e2:cat ndL x.Flank=f_n (x.Flank.map fun s=> [s.Sec,s.Pos].map Lib.itoa).flatten:=x_7 _ _
 unfold rtL rtW d_n
 rw[e1,e2,g_9,g_9,l_3,j_t,l_3,j_t,l_3,j_t]
 have e0: [x.Entry,x.Exit,if x.Shunt then 1 else 0].map Lib.itoa=a_lc [x.Entry,x.Exit,if x.Shunt then 1 else 0]:=rfl
 rw[e0]
 have f1:∀l,wPath ++ l=32:: (wPath.drop 1 ++ l):=fun _=>rfl
 have f2:∀l,wFlank ++ l=32:: (wFlank.drop 1 ++ l):=fun _=>rfl
 have f3:∀l,wOver ++ l=32:: (wOver.drop 1 ++ l):=fun _=>rfl
 simp only[List.append_assoc,f1,f2,f3,List.map_cons,List.map_nil,List.cons_append]
theorem a_k7 (x:Rt) :∀w ∈ rtW x,(32:UInt8) ∉ w:=by
 intro w hw
 have it:∀{l:List Int},w ∈ l.map Lib.itoa→(32:UInt8) ∉ w:=fun h=>w_v _ _ h
 unfold rtW at hw
 rcases List.mem_append.1 hw with h | h
 · exact it (l:= [x.Entry,x.Exit,if x.Shunt then 1 else 0]) h
 rcases List.mem_cons.1 h with h | h
 · rw[h];decide
 rcases List.mem_append.1 h with h | h
 · obtain ⟨l,hl,h⟩:=List.mem_flatten.1 h
   obtain ⟨s,_,rfl⟩:=List.mem_map.1 hl
   exact it h
 rcases List.mem_cons.1 h with h | h
 · rw[h];decide
 rcases List.mem_append.1 h with h | h
 · obtain ⟨l,hl,h⟩:=List.mem_flatten.1 h
   obtain ⟨s,_,rfl⟩:=List.mem_map.1 hl
   exact it h
 rcases List.mem_cons.1 h with h | h
 · rw[h];decide
 · exact it h
theorem a_ey {α:Type}(f:α→List Int)(l:List α) :((l.map fun s=>(f s).map Lib.itoa).flatten).map a_q=(l.map fun s=>m_z (f s)).flatten:=by
 rw[List.map_flatten,List.map_map]
 congr 1
 apply List.map_congr_left
 intro s _
 show ((f s).map Lib.itoa).map a_q=m_z (f s)
 rw[List.map_map];rfl
theorem a_jh (bs:List St)(x:Rt) :bs.foldl (fun x s=> { x with Path:=x.Path ++ [s] }) x= { x with Path:=x.Path ++ bs } :=by
 induction bs generalizing x with
 | nil=>simp
 | cons b bs ih=>rw[List.foldl_cons,ih];simp
theorem a_gg (bs:List Nd)(x:Rt) :bs.foldl (fun x s=> { x with Flank:=x.Flank ++ [s] }) x= { x with Flank:=x.Flank ++ bs } :=by
 induction bs generalizing x with
 | nil=>simp
 | cons b bs ih=>rw[List.foldl_cons,ih];simp
theorem a_jp (bs:List Int)(x:Rt) :bs.foldl (fun x s=> { x with Overlap:=x.Overlap ++ [s] }) x= { x with Overlap:=x.Overlap ++ bs } :=by
 induction bs generalizing x with
 | nil=>simp
 | cons b bs ih=>rw[List.foldl_cons,ih];simp
theorem a_fx {x:Rt}(h:rt64 x) :c_r ((rtW x).map a_q,false) =(x,([],false)):=by
 obtain ⟨h1,h2,h3,h4,h5⟩:=h
 have hsh:i64 (if x.Shunt then 1 else 0):=by split <;> exact ⟨by decide,by decide⟩
 have e:(rtW x).map a_q=m_z [x.Entry,x.Exit,if x.Shunt then 1 else 0] ++ a_q (wPath.drop 1) :: ((x.Path.map fun s=>m_z [s.Sec,s.In,s.Out]).flatten ++ a_q (wFlank.drop 1) :: ((x.Flank.map fun s=>m_z [s.Sec,s.Pos]).flatten ++ a_q (wOver.drop 1) :: (x.Overlap.map fun s=>m_z [s]).flatten)):=by
   have e1:=a_ey (fun s:St=> [s.Sec,s.In,s.Out]) x.Path
   have e2:=a_ey (fun s:Nd=> [s.Sec,s.Pos]) x.Flank
   have e3:(x.Overlap.map Lib.itoa).map a_q=(x.Overlap.map fun s=>m_z [s]).flatten:=by
     rw[List.map_map]
     generalize x.Overlap=l
     induction l with
     | nil=>rfl
     | cons a l ih=>rw[List.map_cons,ih];rfl
   have e4:(a_lc [x.Entry,x.Exit,if x.Shunt then 1 else 0]).map a_q=m_z [x.Entry,x.Exit,if x.Shunt then 1 else 0]:=rfl
   unfold rtW
   rw[List.map_append,List.map_cons,List.map_append,List.map_cons,List.map_append,List.map_cons,e1,e2,e3,e4]
 rw[e]
 unfold c_r
 have n32:∀n:Int,Lib.itoa n≠wFlank.drop 1:=fun n=>a_h4 (by decide) (by decide)
 have n33:∀n:Int,Lib.itoa n≠wOver.drop 1:=fun n=>a_h4 (by decide) (by decide)
 simp only[i_7 h1,i_7 h2,i_7 hsh,a_ly]
 have hb:(false || !(decide (0≤(if x.Shunt then (1:Int) else 0)) && decide ((if x.Shunt then (1:Int) else 0)≤1))) =false:=by cases x.Shunt <;> rfl
 rw[hb]
 simp only[c_i,List.headD_cons,List.tail_cons,Bool.false_eq_true,if_false]
 have hp:(!((a_q (wPath.drop 1)).data.toList == [112,97,116,104])) =false:=by decide
 rw[hp,x_p (f:=fun (x:Rt) s=> { x with Path:=x.Path ++ [s] }) rfl x.Path _ (fun b hb=>by simp[m_z]) (fun b hb y ws=>?_),a_jh]
 · simp only
   rw[x_p (f:=fun (x:Rt) s=> { x with Flank:=x.Flank ++ [s] }) rfl x.Flank _ (fun b hb=>by simp[m_z]) (fun b hb y ws=>?_),a_gg]
   · simp only
     rw[a_g4 (f:=fun (x:Rt) s=> { x with Overlap:=x.Overlap ++ [s] }) x.Overlap _ (fun b hb=>by simp[m_z]) (fun b hb y ws=>?_),a_jp]
     · have:((if x.Shunt then (1:Int) else 0) == 1) =x.Shunt:=by cases x.Shunt <;> rfl
       rw[this];rfl
     · exact ⟨by unfold m_3;rw[i_7 (h5 b hb)];rfl,x_l (.inl rfl) _ _⟩
   · obtain ⟨g1,g2⟩:=h4 b hb
     exact ⟨by unfold o_b;simp only[i_7 g1,i_7 g2];rfl,x_l (.inr (n33 _)) _ _⟩
 · obtain ⟨g1,g2,g3⟩:=h3 b hb
   exact ⟨by unfold n_z;simp only[i_7 g1,i_7 g2,i_7 g3];rfl,x_l (.inr (n32 _)) _ _⟩
def rtT (x:Rt) :List UInt8:=b_1 ++ f_n (rtW x)
theorem a_mt (c:Cf){x:Rt}(h:rt64 x) :c_8 c (pieces 32 (a_q (rtT x)),false) =(5,{ c with Rts:=c.Rts ++ [x] },([],false)):=by
 unfold rtT
 rw[t_i,j_3 (by decide) (a_k7 x),List.map_cons]
 unfold c_8
 simp only[c_i,List.headD_cons,List.tail_cons,List.isEmpty_cons,Bool.or_false]
 rw[if_neg (show ¬(a_q b_1).data.toList=l_8 from (by decide:¬b_1=l_8)),if_neg (show ¬(a_q b_1).data.toList=wJt from (by decide:¬b_1=wJt)),if_neg (show ¬(a_q b_1).data.toList=wSg from (by decide:¬b_1=wSg)),if_neg (show ¬(a_q b_1).data.toList=wX from (by decide:¬b_1=wX)),if_pos (show (a_q b_1).data.toList=b_1 from rfl),a_fx h]
end Go.Proofs.YtfdffboelecgoaaGreatDoor
end
section
set_option maxRecDepth 20000
namespace Go.Proofs.YtfdffboelecgoaaGreatDoor
open Go.Fw Go.Proofs
def secT (s:Sec) :List UInt8:=b_y l_8 [s.Kind,s.OC,s.Line]
def jtT (s:Jt) :List UInt8:=b_y wJt [s.A,s.AEnd,s.B,s.BEnd]
def sgT (s:Sg) :List UInt8:=b_y wSg [s.Sec,s.End_]
def xT (s:Int) :List UInt8:=b_y wX [s]
def timT (c:Cf) :List UInt8:=b_y j_g [c.Age,c.Brake,c.Hold,c.Budget]
def w_w (c:Cf) :List (List UInt8):=c.Secs.map secT ++ c.Jts.map jtT ++ c.Sigs.map sgT ++ c.Xs.map xT ++ c.Rts.map rtT
theorem l_f {α:Type}(f:α→List UInt8)(l:List α) :cat (fun s=>f s ++ [10]) l=((l.map f).map (· ++ [10])).flatten:=by
 unfold cat;rw[List.map_map];rfl
theorem a_jm (l:List (List UInt8))(t:List UInt8) :z_w 10 (l ++ [t]) =(l.map (· ++ [10])).flatten ++ t:=by
 induction l with
 | nil=>rfl
 | cons a l ih=>rw[List.cons_append,w_h (by simp),ih];simp
theorem a_dh (c:Cf) :d_o c=z_w 10 (w_w c ++ [timT c]) ++ [10]:=by
 rw[a_jm]
 have e5:cat rtL c.Rts=((c.Rts.map rtT).map (· ++ [10])).flatten:=by
   rw[←l_f]
   have:rtL=fun s=>rtT s ++ [10]:=funext fun x=>a_gn x
   rw[this]
 unfold d_o w_w
 rw[e5,show cat g_7 c.Secs=_ from l_f secT c.Secs,show cat jtL c.Jts=_ from l_f jtT c.Jts,show cat sgL c.Sigs=_ from l_f sgT c.Sigs,show cat xL c.Xs=_ from l_f xT c.Xs]
 simp only[List.map_append,List.flatten_append,List.append_assoc]
 rfl
theorem a_dz {w:List UInt8}(hw:(10:UInt8) ∉ w)(ws:List (List UInt8))(h:∀x ∈ ws,(10:UInt8) ∉ x) :(10:UInt8) ∉ w ++ f_n ws:=by
 intro hm
 rcases List.mem_append.1 hm with hm | hm
 · exact hw hm
 · obtain ⟨l,hl,hm⟩:=List.mem_flatten.1 hm
   obtain ⟨x,hx,rfl⟩:=List.mem_map.1 hl
   rcases List.mem_cons.1 hm with e | hm
   · revert e;decide
   · exact h x hx hm
theorem w_m (ns:List Int) :∀x ∈ ns.map Lib.itoa,(10:UInt8) ∉ x:=fun x hx=>by
 obtain ⟨n,_,rfl⟩:=List.mem_map.1 hx;exact a_je n
theorem l_b {w:List UInt8}(hw:(10:UInt8) ∉ w)(ns:List Int) :(10:UInt8) ∉ b_y w ns:=by
 rw[g_9];exact a_dz hw _ (w_m ns)
theorem a_lt (x:Rt) :∀w ∈ rtW x,(10:UInt8) ∉ w:=by
 intro w hw
 have it:∀{l:List Int},w ∈ l.map Lib.itoa→(10:UInt8) ∉ w:=fun h=>w_m _ _ h
 unfold rtW at hw
 rcases List.mem_append.1 hw with h | h
 · exact it (l:= [x.Entry,x.Exit,if x.Shunt then 1 else 0]) h
 rcases List.mem_cons.1 h with h | h
 · rw[h];decide
 rcases List.mem_append.1 h with h | h
 · obtain ⟨l,hl,h⟩:=List.mem_flatten.1 h
   obtain ⟨s,_,rfl⟩:=List.mem_map.1 hl
   exact it h
 rcases List.mem_cons.1 h with h | h
 · rw[h];decide
 rcases List.mem_append.1 h with h | h
 · obtain ⟨l,hl,h⟩:=List.mem_flatten.1 h
   obtain ⟨s,_,rfl⟩:=List.mem_map.1 hl
   exact it h
 rcases List.mem_cons.1 h with h | h
 · rw[h];decide
 · exact it h
theorem a_gt (c:Cf) :∀l ∈ w_w c ++ [timT c],(10:UInt8) ∉ l:=by
 intro l hl
 unfold w_w at hl
 simp only[List.mem_append,List.mem_map,List.mem_singleton] at hl
 rcases hl with ((((⟨x,_,rfl⟩ | ⟨x,_,rfl⟩) | ⟨x,_,rfl⟩) | ⟨x,_,rfl⟩) | ⟨x,_,rfl⟩) | rfl
 · exact l_b (by decide) _
 · exact l_b (by decide) _
 · exact l_b (by decide) _
 · exact l_b (by decide) _
 · exact a_dz (by decide) _ (a_lt x)
 · exact l_b (by decide) _
theorem u_1:∀{ls:List (List UInt8)},ls≠[]→(∀l ∈ ls,(10:UInt8) ∉ l)→c_o 10 (z_w 10 ls) =ls
 | [],h,_=>absurd rfl h
 | [l],_,h=>p_6 (h l (by simp))
 | l::m::r,_,h=>by
   rw[w_h (by simp),q_q (h l (by simp)),u_1 (by simp) fun x hx=>h x (by simp[hx])]
theorem a_d4 (l:List UInt8)(c:UInt8) :w_k c (a_q (l ++ [c])) =true:=by
 have hs:(a_q (l ++ [c])).size=l.length+1:=by rw[g_s,List.length_append];rfl
 unfold w_k
 rw[Lib.toList_data,Lib.toList_data,Lib.extract_data,hs]
 simp[a_q]
theorem a_hb (l:List UInt8)(c:UInt8) :c_v c (a_q (l ++ [c])) =a_q l:=by
 have hs:(a_q (l ++ [c])).size=l.length+1:=by rw[g_s,List.length_append];rfl
 unfold c_v
 rw[a_d4,if_pos rfl,hs]
 rw[←a_ac ((a_q (l ++ [c])).extract 0 (l.length+1 - 1)),Lib.extract_data]
 congr 1
 simp[a_q]
theorem f_w {β:Type}{txt:β→List UInt8}{k:Int}{add:Cf→β→Cf}(hk:k≠6)(rest:List ByteArray) :∀(bs:List β),(∀b ∈ bs,∀c,c_8 c (pieces 32 (a_q (txt b)),false) =(k,add c b,([],false)))→
   ∀(c:Cf) (last:Int),last≤k→∃last',last'≤k∧c_6 ((bs.map txt).map a_q ++ rest) c last=c_6 rest (bs.foldl add c) last'
 | [],_,c,last,hl=>⟨last,hl,rfl⟩
 | b::bs,hb,c,last,hl=>by
   obtain ⟨last',h1,h2⟩:=f_w hk rest bs (fun x hx=>hb x (by simp[hx])) (add c b) k (Int.le_refl _)
   refine ⟨last',h1,?_⟩
   rw[List.foldl_cons,←h2,List.map_cons,List.map_cons,List.cons_append,c_6,hb b (by simp) c]
   have e1:decide (k < last) =false:=decide_eq_false (by omega)
   have e2:(k == 6) =false:=beq_eq_false_iff_ne.2 hk
   simp only[e1,e2,List.isEmpty_nil,Bool.not_true,Bool.and_false,Bool.or_false,Bool.false_eq_true,if_false]
theorem a_jb (bs:List Sec)(c:Cf) :bs.foldl (fun c s=> { c with Secs:=c.Secs ++ [s] }) c= { c with Secs:=c.Secs ++ bs } :=by
 induction bs generalizing c with
 | nil=>simp
 | cons b bs ih=>rw[List.foldl_cons,ih];simp
theorem a_l5 (bs:List Jt)(c:Cf) :bs.foldl (fun c s=> { c with Jts:=c.Jts ++ [s] }) c= { c with Jts:=c.Jts ++ bs } :=by
 induction bs generalizing c with
 | nil=>simp
 | cons b bs ih=>rw[List.foldl_cons,ih];simp
theorem a_i1 (bs:List Sg)(c:Cf) :bs.foldl (fun c s=> { c with Sigs:=c.Sigs ++ [s] }) c= { c with Sigs:=c.Sigs ++ bs } :=by
 induction bs generalizing c with
 | nil=>simp
 | cons b bs ih=>rw[List.foldl_cons,ih];simp
theorem a_nr (bs:List Int)(c:Cf) :bs.foldl (fun c s=> { c with Xs:=c.Xs ++ [s] }) c= { c with Xs:=c.Xs ++ bs } :=by
 induction bs generalizing c with
 | nil=>simp
 | cons b bs ih=>rw[List.foldl_cons,ih];simp
theorem a_lo (bs:List Rt)(c:Cf) :bs.foldl (fun c s=> { c with Rts:=c.Rts ++ [s] }) c= { c with Rts:=c.Rts ++ bs } :=by
 induction bs generalizing c with
 | nil=>simp
 | cons b bs ih=>rw[List.foldl_cons,ih];simp
theorem a_gf {c:Cf}(h:cf64 c) :d_u (a_q (d_o c)) =some c:=by
 unfold d_u
 rw[a_dh,a_d4,a_hb,t_i,u_1 (by simp) (a_gt c)]
 unfold w_w
 simp only[List.map_append,List.append_assoc]
 obtain ⟨l1,k1,e1⟩:=f_w (txt:=secT) (add:=fun (c:Cf) (s:Sec)=> { c with Secs:=c.Secs ++ [s] }) (k:=1) (by decide) ((c.Jts.map jtT).map a_q ++ ((c.Sigs.map sgT).map a_q ++ ((c.Xs.map xT).map a_q ++ ((c.Rts.map rtT).map a_q ++ [timT c].map a_q)))) c.Secs (fun b hb d=>a_kv d (h.secs b hb)) h_k 0 (by decide)
 rw[e1]
 obtain ⟨l2,k2,e2⟩:=f_w (txt:=jtT) (add:=fun (c:Cf) (s:Jt)=> { c with Jts:=c.Jts ++ [s] }) (k:=2) (by decide) ((c.Sigs.map sgT).map a_q ++ ((c.Xs.map xT).map a_q ++ ((c.Rts.map rtT).map a_q ++ [timT c].map a_q))) c.Jts (fun b hb d=>a_ob d (h.jts b hb)) (c.Secs.foldl (fun c s=> { c with Secs:=c.Secs ++ [s] }) h_k) l1 (by omega)
 rw[e2]
 obtain ⟨l3,k3,e3⟩:=f_w (txt:=sgT) (add:=fun (c:Cf) (s:Sg)=> { c with Sigs:=c.Sigs ++ [s] }) (k:=3) (by decide) ((c.Xs.map xT).map a_q ++ ((c.Rts.map rtT).map a_q ++ [timT c].map a_q)) c.Sigs (fun b hb d=>a_n3 d (h.sigs b hb)) (c.Jts.foldl (fun c s=> { c with Jts:=c.Jts ++ [s] }) (c.Secs.foldl (fun c s=> { c with Secs:=c.Secs ++ [s] }) h_k)) l2 (by omega)
 rw[e3]
 obtain ⟨l4,k4,e4⟩:=f_w (txt:=xT) (add:=fun (c:Cf) (s:Int)=> { c with Xs:=c.Xs ++ [s] }) (k:=4) (by decide) ((c.Rts.map rtT).map a_q ++ [timT c].map a_q) c.Xs (fun b hb d=>a_ov d (h.xs b hb)) (c.Sigs.foldl (fun c s=> { c with Sigs:=c.Sigs ++ [s] }) (c.Jts.foldl (fun c s=> { c with Jts:=c.Jts ++ [s] }) (c.Secs.foldl (fun c s=> { c with Secs:=c.Secs ++ [s] }) h_k))) l3 (by omega)
 rw[e4]
 obtain ⟨l5,k5,e5⟩:=f_w (txt:=rtT) (add:=fun (c:Cf) (s:Rt)=> { c with Rts:=c.Rts ++ [s] }) (k:=5) (by decide) ([timT c].map a_q) c.Rts (fun b hb d=>a_mt d (h.rts b hb)) (c.Xs.foldl (fun c s=> { c with Xs:=c.Xs ++ [s] }) (c.Sigs.foldl (fun c s=> { c with Sigs:=c.Sigs ++ [s] }) (c.Jts.foldl (fun c s=> { c with Jts:=c.Jts ++ [s] }) (c.Secs.foldl (fun c s=> { c with Secs:=c.Secs ++ [s] }) h_k)))) l4 (by omega)
 rw[e5,a_jb,a_l5,a_i1,a_nr,a_lo]
 rw[List.map_cons,List.map_nil,c_6,show timT c=b_y j_g [c.Age,c.Brake,c.Hold,c.Budget] from rfl,a_me _ (d:=c) h.tim]
 have q1:decide ((6:Int) < l5) =false:=decide_eq_false (by omega)
 have q2:((6:Int) == l5) =false:=beq_eq_false_iff_ne.2 (by omega)
 simp only[q1,q2,List.isEmpty_nil,Bool.not_true,Bool.false_and,Bool.or_false,Bool.false_eq_true,if_false,c_6,h_k,List.nil_append]
 rfl
end Go.Proofs.YtfdffboelecgoaaGreatDoor
end
section
set_option maxRecDepth 20000
namespace Go.Proofs.YtfdffboelecgoaaGreatDoor
open Go.Fw Go.Proofs Go.RowKit
open Go.Proofs.Tryz (prog)
variable {σ σ0:Store} {F:Nat→Prop} {wid cid:Nat}
theorem a_ad (c:UInt8) :∀l:List UInt8,(c_o c l).length≤l.length+1∧∀w ∈ c_o c l,w.length≤l.length
 | []=>by simp[c_o]
 | x::l=>by
   obtain ⟨h1,h2⟩:=a_ad c l
   rw[c_o]
   split
   · refine ⟨by simp only[List.length_cons];omega,fun w hw=>?_⟩
     rcases List.mem_cons.1 hw with rfl | hw
     · simp
     · have:=h2 w hw;simp only[List.length_cons];omega
   · cases hs:c_o c l with
     | nil=>exact absurd hs (a_i0 c l)
     | cons a t=>
       rw[hs] at h1 h2
       refine ⟨by simp only[List.length_cons,List.tail_cons] at h1 ⊢;omega,fun w hw=>?_⟩
       rcases List.mem_cons.1 hw with rfl | hw
       · have:=h2 a (by simp);simp only[List.headD_cons,List.length_cons];omega
       · have:=h2 w (by simp only[List.tail_cons] at hw;simp[hw]);simp only[List.length_cons];omega
theorem z_r (c:UInt8)(s:ByteArray) :(pieces c s).length≤s.size+1∧∀w ∈ pieces c s,w.size≤s.size:=by
 have hl:s.data.toList.length=s.size:=by simp
 obtain ⟨h1,h2⟩:=a_ad c s.data.toList
 rw[hl] at h1 h2
 rw[a_ao]
 refine ⟨by rw[List.length_map];exact h1,fun w hw=>?_⟩
 obtain ⟨l,hm,rfl⟩:=List.mem_map.1 hw
 rw[g_s];exact h2 l hm
theorem a_it (c:UInt8)(s:ByteArray) :(c_v c s).size≤s.size:=by
 unfold c_v
 split
 · rw[ByteArray.size_extract];omega
 · exact Nat.le_refl _
theorem a_en {s:Store}{el:TypeId}{d:D}{rs:List (List D)}{i:Nat}(h:At prog s el d rs)(hi:b_e d=some i) :s i≠ .free:=by
 cases d with
 | osl a b c=>
   simp only[b_e,Option.some.injEq] at hi
   subst hi
   obtain ⟨t,rows,g1,_⟩:=h.lt_live
   rw[g1];intro e;cases e
 | _=>simp[b_e] at hi
theorem ObD.base {s s2:Store}{oid sid:Nat}{so:SO}{t:TypeId}{row:List D}{ls:List Lst}(h:ObD σ F s oid t row ls)(hs:s sid= .free)(he:Ext (s.set sid so) s2)(hso:so≠ .free)(hw:s wid= .free)(hw2:s2 wid≠ .free)(he0:Ext σ s) :
   ObD (σ.set sid so) (fun i=>i=wid∨F i) s2 oid t row ls where
 new:=by
   have hne:oid≠sid:=fun e=>by rw[←e,h.cell] at hs;cases hs
   rw[Store.set_ne _ _ hne];exact h.new
 nf hx:=by
   rcases hx with rfl | hx
   · rw[h.cell] at hw;cases hw
   · exact h.nf hx
 fl i hi:=by
   rcases hi with rfl | hi
   · exact hw2
   · have h1:=h.fl i hi
     have hne:i≠sid:=fun e=>by rw[e] at h1;exact h1 hs
     rw[he i (by rw[Store.set_ne _ _ hne];exact h1),Store.set_ne _ _ hne];exact h1
 cell:=by
   have hne:oid≠sid:=fun e=>by rw[←e,h.cell] at hs;cases hs
   rw[he oid (by rw[Store.set_ne _ _ hne,h.cell];intro e;cases e),Store.set_ne _ _ hne,h.cell]
 own l hl:=by
   obtain ⟨h1,h2,h3⟩:=h.own l hl
   refine ⟨⟨h1.at_.ext ((Ext.new hs so).trans he),fun i hi=>?_,fun i a n e=>?_,h1.nsl,h1.nz⟩,fun i hi e=>?_,h3⟩
   · by_cases e:i=sid
     · subst e
       rw[he i (by rw[Store.set_same];exact hso),Store.set_same,Store.set_same]
     · rw[Store.set_ne _ _ e] at hi
       have h4:=he0 i hi
       rw[he i (by rw[Store.set_ne _ _ e,h4];exact hi),Store.set_ne _ _ e,h4,Store.set_ne _ _ e]
   · have hne:i≠sid:=fun e2=>a_en h1.at_ (by rw[e];rfl) (by rw[e2];exact hs)
     rw[Store.set_ne _ _ hne];exact h1.new i a n e
   · rcases hi with rfl | hi
     · exact a_en h1.at_ e hw
     · exact h2 i hi e
theorem ObD.unbase {s:Store}{oid:Nat}{G:Nat→Prop}{t:TypeId}{row:List D}{ls:List Lst}(h:ObD σ0 F s oid t row ls)(he:Ext σ σ0)(hG:∀i,G i→F i) :ObD σ G s oid t row ls where
 new:=by
   by_cases hf:σ oid= .free
   · exact hf
   · have:=he oid hf;rw[h.new] at this;exact this.symm
 nf hx:=h.nf (hG _ hx)
 fl i hi:=h.fl i (hG i hi)
 cell:=h.cell
 own l hl:=⟨Own.from he (h.own l hl).1,fun i hi=>(h.own l hl).2.1 i (hG i hi),(h.own l hl).2.2⟩
theorem a_gw (c:Cf)(s:Ws)(n:Nat)(h:a_d8 c n) :a_d8 (c_8 c s).2.1 (n+1):=by
 obtain ⟨h1,h2,h3,h4,h5⟩:=h
 unfold c_8
 simp only
 repeat' split
 all_goals
   refine ⟨?_,?_,?_,?_,?_⟩ <;> simp only[List.length_append,List.length_cons,List.length_nil] <;> omega
def zRow:List D:=i_3 h_k .nils .nils .nils .nils .nils
theorem a_ix {text:ByteArray}(ht:text.size≤2 ^ 31) :
   DCalls prog j_o [sA text] σ fun r s'=>∃d0 d1 d2 d3 d4 rows,r= .tup [.agg (i_3 ((d_u text).getD h_k) d0 d1 d2 d3 d4),iA (if (d_u text).isSome then 0 else 13)]∧RtRows rows ((d_u text).getD h_k).Rts∧
     Ext σ s'∧∀l ∈ c_7 ((d_u text).getD h_k) d0 d1 d2 d3 d4 rows,Own prog σ s' l.el l.d l.rs:=by
 refine a_ed text σ _ (a_f fun id s1 hid1 _ he1 hc1=>a_f fun ie s2 hid2 _ he2 hc2=>a_f fun ic s3 hid3 _ he3 hc3=>a_f fun il s4 hid4 _ he4 hc4=>?_)
 have lv:∀{s:Store} {i:Nat} {t:TypeId} {rows:List (List D)},s i= .live t rows→s i≠ .free:=fun h=>by rw[h];intro e;cases e
 have n12:id≠ie:=fun e=>lv hc1 (by rw[e];exact hid2)
 have c1':=(he2 id (lv hc1)).trans hc1
 have n13:id≠ic:=fun e=>lv c1' (by rw[e];exact hid3)
 have n23:ie≠ic:=fun e=>lv hc2 (by rw[e];exact hid3)
 have c1'':=(he3 id (lv c1')).trans c1'
 have c2':=(he3 ie (lv hc2)).trans hc2
 have n14:id≠il:=fun e=>lv c1'' (by rw[e];exact hid4)
 have n24:ie≠il:=fun e=>lv c2' (by rw[e];exact hid4)
 have n34:ic≠il:=fun e=>lv hc3 (by rw[e];exact hid4)
 have d1:=(he4 id (lv c1'')).trans c1''
 have d2:=(he4 ie (lv c2')).trans c2'
 have d3:=(he4 ic (lv hc3)).trans hc3
 have f1:=hid1
 have f2:σ ie= .free:=by
   by_cases h:σ ie= .free
   · exact h
   · rw[he1 ie h] at hid2;exact hid2
 have f3:σ ic= .free:=by
   by_cases h:σ ic= .free
   · exact h
   · rw[he2 ic (by rw[he1 ic h];exact h),he1 ic h] at hid3;exact hid3
 have f4:σ il= .free:=by
   by_cases h:σ il= .free
   · exact h
   · rw[he3 il (by rw[he2 il (by rw[he1 il h];exact h),he1 il h];exact h),he2 il (by rw[he1 il h];exact h),he1 il h] at hid4;exact hid4
 refine b_d hc4 (by simp) fun s5 hc5 ho5=>(a_a5 (by omega)).use ⟨_,_,rfl,(a_a9).mono ?_⟩
 have e5:Ext σ s5:=d_d (((he1.trans he2).trans he3).trans he4) f4 ho5
 have d1:=(ho5 id n14).trans d1
 have d2:=(ho5 ie n24).trans d2
 have d3:=(ho5 ic n34).trans d3
 rintro _ s6 ⟨i1,i2,i3,m12,m13,m23,g1,g2,g3,rfl,rfl⟩
 generalize hs6:((s5.set i2 (.live c_g [[.str (c_v 10 text)]])).set i1 (.live c_g [[.str ⟨#[10]⟩]])).set i3 (.live t_int [[.int .i64 0]]) =s6
 have hx1:s6 i1= .live c_g [[.str ⟨#[10]⟩]]:=by rw[←hs6,Store.set_ne _ _ m13,Store.set_same]
 have hx2:s6 i2= .live c_g [[.str (c_v 10 text)]]:=by rw[←hs6,Store.set_ne _ _ m23,Store.set_ne _ _ m12.symm,Store.set_same]
 have hx3:s6 i3= .live t_int [[.int .i64 0]]:=by rw[←hs6,Store.set_same]
 have hcl:=a_it 10 text
 have done : ∀ s12, d_u text = none → s12 id = .live t_Config [zRow] → s12 ie = .live l_r [[iD 13]] → Ext σ s12 → ∃ row : List D, (Row s12 (.osl id 0 1) 0 row) ∧ ∃ x1 x2 x3 x4 x5 : D, ∃ n n1 n2 n3 : Int, ((List.take 9 row) = ([x1, x2, x3, x4, x5, .int .i64 n, .int .i64 n1, .int .i64 n2, .int .i64 n3] : List D)) ∧
     ∃row1:List D,(Row s12 (.osl ie 0 1) 0 row1)∧∃n4:Int,((List.take 1 row1) =([.int .i64 n4]:List D))∧∃d0 d1 d2 d3 d4 rows,RV.tup [.agg [x1,x2,x3,x4,x5, .int .i64 n, .int .i64 n1, .int .i64 n2, .int .i64 n3], .one (.int .i64 n4)]= .tup [.agg (i_3 ((d_u text).getD h_k) d0 d1 d2 d3 d4),iA (if (d_u text).isSome then 0 else 13)]∧
     RtRows rows ((d_u text).getD h_k).Rts∧Ext σ s12∧∀l ∈ c_7 ((d_u text).getD h_k) d0 d1 d2 d3 d4 rows,Own prog σ s12 l.el l.d l.rs:=by
   intro s12 hn g1 g2 g3
   refine ⟨_,a_j g1,_,_,_,_,_,_,_,_,_,rfl,_,a_j g2,_,rfl, .nils, .nils, .nils, .nils, .nils,[],by rw[hn];rfl,?_,g3,fun l hl=>?_⟩
   · rw[hn];exact ⟨rfl,fun j row x h _=>by simp at h⟩
   · rw[hn] at hl
     simp only[c_7,List.mem_cons,List.not_mem_nil,or_false] at hl
     rcases hl with rfl | rfl | rfl | rfl | rfl <;> exact .nil _ g3
 refine ⟨_,rfl,_,_,_,_,fun i s=>∃c last,c_6 (pieces 10 (c_v 10 text)) h_k 0=c_6 ((pieces 10 (c_v 10 text)).drop i) c last∧CfIn σ (fun j=>j=id∨j=ie∨j=il) s ic c∧s id= .live t_Config [zRow]∧s ie= .live l_r [[iD 0]]∧s il= .live t_int [[iD last]]∧a_d8 c i∧Ext σ s,
   fun s=>c_6 (pieces 10 (c_v 10 text)) h_k 0=none∧s id= .live t_Config [zRow]∧s ie= .live l_r [[iD 13]]∧Ext σ s,rfl,a_eg hx1 hx2 hx3 m12 m13 m23 (by omega),?_,?_,?_,?_⟩
 · generalize hsd:(((s6.set i1 .dead).set i2 .dead).set i3 .dead) =sd
   have same:∀i,s5 i≠ .free→sd i=s5 i:=fun i hi=>by
     have k1:i≠i1:=fun e=>hi (e ▸ g1)
     have k2:i≠i2:=fun e=>hi (e ▸ g2)
     have k3:i≠i3:=fun e=>hi (e ▸ g3)
     rw[←hsd,←hs6,Store.set_ne _ _ k3,Store.set_ne _ _ k2,Store.set_ne _ _ k1,Store.set_ne _ _ k3,Store.set_ne _ _ k1,Store.set_ne _ _ k2]
   have q1:=(same id (lv d1)).trans d1
   have q2:=(same ie (lv d2)).trans d2
   have q3:=(same ic (lv d3)).trans d3
   have q4:=(same il (lv hc5)).trans hc5
   have qe:Ext σ sd:=e5.trans same
   refine ⟨h_k,0,by rw[List.drop_zero],⟨.nils, .nils, .nils, .nils, .nils,[],⟨⟨f3,fun h=>?_,fun i hi=>?_,q3,fun l hl=>?_⟩,⟨rfl,fun j row x h _=>by simp at h⟩⟩⟩,q1,q2,q4,⟨Nat.le_refl _,Nat.le_refl _,Nat.le_refl _,Nat.le_refl _,Nat.le_refl _⟩,qe⟩
   · rcases h with h | h | h
     · exact n13 h.symm
     · exact n23 h.symm
     · exact n34 h
   · rcases hi with rfl | rfl | rfl
     · exact lv q1
     · exact lv q2
     · exact lv q4
   · simp only[c_7,List.mem_cons,List.not_mem_nil,or_false] at hl
     rcases hl with rfl | rfl | rfl | rfl | rfl
     · exact ⟨.nil _ qe,fun i _ h=>by simp[b_e] at h,d_0 b_2 m_y (by decide)⟩
     · exact ⟨.nil _ qe,fun i _ h=>by simp[b_e] at h,d_0 d_3 m_y (by decide)⟩
     · exact ⟨.nil _ qe,fun i _ h=>by simp[b_e] at h,d_0 c_h m_y (by decide)⟩
     · exact ⟨.nil _ qe,fun i _ h=>by simp[b_e] at h,d_0 c_int m_y (by decide)⟩
     · exact ⟨.nil _ qe,fun i _ h=>by simp[b_e] at h,d_0 b_h m_y (by decide)⟩
 · rintro i l s7 hl ⟨c,last,hrd,⟨k0,k1,k2,k3,k4,rows,hcf⟩,q1,q2,q4,hlen,qe⟩
   have hl:(pieces 10 (c_v 10 text))[i]? =some l:=hl
   have hpl:=z_r 10 (c_v 10 text)
   have hsz:=hpl.2 l (List.mem_of_getElem? hl)
   have hil:i < (pieces 10 (c_v 10 text)).length:=(List.getElem?_eq_some_iff.1 hl).1
   rw[r_t hl,c_6] at hrd
   refine (a_lm (c:=32) (by omega)).mono ?_
   rintro _ s8 ⟨sid,hsid,rfl,rfl⟩
   refine ⟨_,rfl,a_f fun wid s9 hwid _ he9 hw9=>?_⟩
   have hws:s7 wid= .free:=by
     by_cases e:wid=sid
     · rw[e,Store.set_same] at hwid;cases hwid
     · rwa [Store.set_ne _ _ e] at hwid
   have hwsid:wid≠sid:=fun e=>by rw[e,Store.set_same] at hwid;cases hwid
   have hws0:σ wid= .free:=by
     by_cases h:σ wid= .free
     · exact h
     · rw[qe wid h] at hws;exact hws
   have hs0:σ sid= .free:=by
     by_cases h:σ sid= .free
     · exact h
     · rw[qe sid h] at hsid;exact hsid
   have hob:=hcf.ob.base (wid:=wid) (s2:=s9) hsid he9 (by intro e;cases e) hws (lv hw9) qe
   have hp32:=z_r 32 l
   have hext9:Ext (σ.set sid (.live c_g ((pieces 32 l).map g_j))) s9:=(hob.own ⟨a_2,0,k0,c.Secs.map Sec.enc⟩ (by simp[c_7])).1.ext
   have hwx:Wx (σ.set sid (.live c_g ((pieces 32 l).map g_j))) s9 wid (pieces 32 l) false:=⟨⟨by rw[Store.set_ne _ _ hwsid];exact hws0,hext9,_,hw9,At.fresh (Store.set_same _ _ _) (by rw[List.length_map];omega) (by rw[List.length_map])⟩,fun w hw=>by have:=hp32.2 w hw;omega⟩
   obtain ⟨l0,l1,l2,l3,l4⟩:=hlen
   refine (a_iu hwx ⟨k0,k1,k2,k3,k4,rows,⟨hob,hcf.rts⟩⟩ (.inl rfl) ⟨by omega,by omega,by omega,by omega,by omega⟩ (by omega)).mono ?_
   rintro _ s10 ⟨rfl,hw10,hc10,hsame⟩
   have hlen':=a_gw c (pieces 32 l,false) i ⟨l0,l1,l2,l3,l4⟩
   generalize c_8 c (pieces 32 l,false) =x at *
   have toS:∀{j t r},s7 j= .live t r→(j=id∨j=ie∨j=il)→s10 j= .live t r:=fun {j t r} hj hF=>by
     have hne:j≠sid:=fun e=>lv hj (by rw[e];exact hsid)
     have hnw:j≠wid:=fun e=>lv hj (by rw[e];exact hws)
     rw[hsame j (.inr hF) hnw,he9 j (by rw[Store.set_ne _ _ hne];exact lv hj),Store.set_ne _ _ hne,hj]
   have p1:=toS q1 (.inl rfl)
   have p2:=toS q2 (.inr (.inl rfl))
   have p4:=toS q4 (.inr (.inr rfl))
   obtain ⟨hn,he,dw,hcw,hAw⟩:=hw10.1
   have e10:Ext σ s10:=(Ext.new hs0 _).trans he
   have fail : c_6 (pieces 10 (c_v 10 text)) h_k 0 = none → a_d [.nils, .nils, .nils, .nils, .nils, .int .i64 0, .int .i64 0, .int .i64 0, .int .i64 0] s10 (.osl id 0 1) 0 0 fun s11 => a_d [.int .i64 13] s11 (.osl ie 0 1) 0 0 fun s12 =>
       c_6 (pieces 10 (c_v 10 text)) h_k 0=none∧s12 id= .live t_Config [zRow]∧s12 ie= .live l_r [[iD 13]]∧Ext σ s12:=fun hnone=>
     b_d p1 (by simp[zRow,i_3]) fun s11 hs11 ho11=>b_d ((ho11 ie n12.symm).trans p2) (by simp) fun s12 hs12 ho12=>⟨hnone,by rw[ho12 id n12,hs11];rfl,by rw[hs12];rfl,d_d (d_d e10 f1 ho11) f2 ho12⟩
   have cont : c_6 (pieces 10 (c_v 10 text)) h_k 0 = c_6 ((pieces 10 (c_v 10 text)).drop (i + 1)) x.2.1 x.1 → a_d [.int .i64 x.1] s10 (.osl il 0 1) 0 0 fun s11 =>
       ∃c last,c_6 (pieces 10 (c_v 10 text)) h_k 0=c_6 ((pieces 10 (c_v 10 text)).drop (i+1)) c last∧CfIn σ (fun j=>j=id∨j=ie∨j=il) s11 ic c∧s11 id= .live t_Config [zRow]∧s11 ie= .live l_r [[iD 0]]∧s11 il= .live t_int [[iD last]]∧a_d8 c (i+1)∧Ext σ s11:=fun hgo=>
     b_d p4 (by simp) fun s11 hs11 ho11=>by
       obtain ⟨r0,r1,r2,r3,r4,rows',hcf'⟩:=hc10
       refine ⟨x.2.1,x.1,hgo,⟨r0,r1,r2,r3,r4,rows',⟨(hcf'.ob.unbase (Ext.new hs0 _) (G:=fun j=>j=id∨j=ie∨j=il) fun i hi=> .inr hi).away (wid:=il) (.inr (.inr rfl)) f4 (by rw[hs11];intro e;cases e) ho11,hcf'.rts⟩⟩,(ho11 id n14).trans p1,(ho11 ie n24).trans p2,by rw[hs11];rfl,hlen',d_d e10 f4 ho11⟩
   refine ⟨_,rfl,_,a_j hcw,_,rfl,bc (fun e=>fail ?_) (fun eb=>⟨_,a_j hcw,_,rfl,(hAw.ext he).lenK ?_⟩)⟩
   · rw[hrd,e];rfl
   rw[List.length_map]
   refine bcd (fun hgt=>fail ?_) (fun hle=>⟨_,a_j p4,_,rfl,bcd (fun hlt=>fail ?_) (fun hnlt=>⟨_,a_j p4,_,rfl,bce (fun h1=>bce (fun h2=>fail ?_) (fun h2=>cont ?_)) (fun h1=>cont ?_)⟩)⟩)
   · have : x.2.2.1.isEmpty = false := by
       cases hh:x.2.2.1 with
       | nil=>rw[hh] at hgt;simp at hgt
       | cons _ _=>rfl
     rw[hrd,eb,this];rfl
   all_goals
     have hem:x.2.2.1.isEmpty=true:=by
       rw[List.isEmpty_iff];exact List.length_eq_zero_iff.1 (by omega)
     rw[hrd]
     simp only[eb,hem,Bool.not_true,Bool.false_or]
   · rw[decide_eq_true hlt];rfl
   · rw[decide_eq_false hnlt,h1,beq_self_eq_true,←h1,h2];rfl
   · rw[decide_eq_false hnlt,beq_eq_false_iff_ne.2 h2,Bool.and_false];rfl
   · rw[decide_eq_false hnlt,beq_eq_false_iff_ne.2 h1];rfl
 · rintro s7 ⟨c,last,hrd,hcf,q1,q2,q4,hlen,qe⟩
   rw[List.drop_length] at hrd
   have hrd:c_6 (pieces 10 (c_v 10 text)) h_k 0=some (c,last):=hrd
   have hrt:d_u text=if w_k 10 text && last == 6 then some c else none:=by unfold d_u;rw[hrd]
   refine b_g (fun eb=>?_) (fun eb=>⟨_,a_j q4,_,rfl,bcn (fun n6=>?_) (fun n6=>?_)⟩)
   · exact b_d q1 (by simp[zRow,i_3]) fun s11 hs11 ho11=>b_d ((ho11 ie n12.symm).trans q2) (by simp) fun s12 hs12 ho12=>done s12 (by rw[hrt,eb];rfl) (by rw[ho12 id n12,hs11];rfl) (by rw[hs12];rfl) (d_d (d_d qe f1 ho11) f2 ho12)
   · exact b_d q1 (by simp[zRow,i_3]) fun s11 hs11 ho11=>b_d ((ho11 ie n12.symm).trans q2) (by simp) fun s12 hs12 ho12=>done s12 (by rw[hrt,beq_eq_false_iff_ne.2 n6,Bool.and_false];rfl) (by rw[ho12 id n12,hs11];rfl) (by rw[hs12];rfl) (d_d (d_d qe f1 ho11) f2 ho12)
   · obtain ⟨k0,k1,k2,k3,k4,rows,hcf⟩:=hcf
     have hsome:d_u text=some c:=by rw[hrt,eb,n6];rfl
     have nid:∀l ∈ c_7 c k0 k1 k2 k3 k4 rows,b_e l.d≠some id∧b_e l.d≠some ie:=fun l hl=>⟨(hcf.ob.own l hl).2.1 id (.inl rfl),(hcf.ob.own l hl).2.1 ie (.inr (.inl rfl))⟩
     refine ⟨_,a_j hcf.ob.cell,_,_,_,_,_,_,_,_,_,rfl,b_d q1 (by simp[zRow,i_3]) fun s11 hs11 ho11=>b_d ((ho11 ie n12.symm).trans q2) (by simp) fun s12 hs12 ho12=>?_⟩
     have g1:s12 id= .live t_Config [i_3 c k0 k1 k2 k3 k4]:=by rw[ho12 id n12,hs11];rfl
     have g2:s12 ie= .live l_r [[iD 0]]:=by rw[hs12];rfl
     refine ⟨_,a_j g1,_,_,_,_,_,_,_,_,_,rfl,_,a_j g2,_,rfl,k0,k1,k2,k3,k4,rows,?_,?_,d_d (d_d qe f1 ho11) f2 ho12,?_⟩
     · rw[hsome];rfl
     · rw[hsome];exact hcf.rts
     · rw[hsome]
       exact fun l hl=>d_g (d_g (hcf.ob.own l hl).1 f1 (nid l hl).1 ho11) f2 (nid l hl).2 ho12
 · rintro s7 ⟨hnone,q1,q2,qe⟩
   exact done s7 (by unfold d_u;rw[hnone]) q1 q2 qe
theorem a_cc {text:ByteArray}(ht:text.size≤2 ^ 31) :
   DCalls prog j_o [sA text] σ fun r s'=>s'=σ∧∃c0 c1 c2 c3 c4,r= .tup [cfA c0 c1 c2 c3 c4 ((d_u text).getD h_k),iA (if (d_u text).isSome then 0 else 13)]∧∀s,CfAt s c0 c1 c2 c3 c4 ((d_u text).getD h_k):=by
 refine (a_ix ht).ret ?_
 rintro r s1 ⟨d0,d1,d2,d3,d4,rows,rfl,hr,he,hown⟩
 generalize (d_u text).getD h_k=c at *
 have fz:∀l ∈ c_7 c d0 d1 d2 d3 d4 rows,(∀row ∈ l.rs,∀x ∈ row,Sf x)→∃d',Fz prog s1 (fun i=>σ i≠ .free) l.d d'∧(∀s',At prog s' l.el d' l.rs)∧Sf d':=fun l hl hf=>
   v_7 (hown l hl).at_ (fun id hi hn=>hn (a_im (hown l hl) hi)) hf
 obtain ⟨e0,a0,b0,_⟩:=fz ⟨a_2,0,d0,c.Secs.map Sec.enc⟩ (by simp[c_7]) (n_f (fun a x hx=>by
   simp only[Sec.enc,List.mem_cons,List.not_mem_nil,or_false] at hx;rcases hx with rfl | rfl | rfl <;> exact .int _ _) _)
 obtain ⟨e1,a1,b1,_⟩:=fz ⟨b_v,1,d1,c.Jts.map Jt.enc⟩ (by simp[c_7]) (n_f (fun a x hx=>by
   simp only[Jt.enc,List.mem_cons,List.not_mem_nil,or_false] at hx;rcases hx with rfl | rfl | rfl | rfl <;> exact .int _ _) _)
 obtain ⟨e2,a2,b2,_⟩:=fz ⟨b_b,2,d2,c.Sigs.map Sg.enc⟩ (by simp[c_7]) (n_f (fun a x hx=>by
   simp only[Sg.enc,List.mem_cons,List.not_mem_nil,or_false] at hx;rcases hx with rfl | rfl <;> exact .int _ _) _)
 obtain ⟨e3,a3,b3,_⟩:=fz ⟨t_int,3,d3,c.Xs.map Go.Fw.encI⟩ (by simp[c_7]) (n_f a_kd _)
 obtain ⟨e4,a4,b4,_⟩:=fz ⟨a_w,4,d4,rows⟩ (by simp[c_7]) (fun row hrow=>by
   obtain ⟨j,hj⟩:=List.getElem?_of_mem hrow
   obtain ⟨x,hx⟩:=a_h (l:=c.Rts) (j:=j) (by rw[←hr.1];exact (List.getElem?_eq_some_iff.1 hj).1)
   exact (hr.2 j row x hj hx).sf)
 refine ⟨.tup [cfA e0 e1 e2 e3 e4 c,iA (if (d_u text).isSome then 0 else 13)],σ, .pure he ⟨rfl,fun i x y h1 h2=>?_⟩,rfl,e0,e1,e2,e3,e4,rfl,fun s=>⟨b0 s,b1 s,b2 s,b3 s,rows,b4 s,hr.1,fun i row x h1 h2=>?_⟩⟩
 · match i,h1,h2 with
   | 0,h1,h2=>
     injection h1 with h1;injection h2 with h2;subst h1 h2
     exact .cons a0 (.cons a1 (.cons a2 (.cons a3 (.cons a4 (.cons (.int _ _) (.cons (.int _ _) (.cons (.int _ _) (.cons (.int _ _) .nil))))))))
   | 1,h1,h2=>
     injection h1 with h1;injection h2 with h2;subst h1 h2
     exact .int _ _
   | i+2,h1,h2=>simp at h1
 · obtain ⟨x1,x2,x3,rfl,y1,y2,y3,_⟩:=hr.2 i row x h1 h2
   exact ⟨x1,x2,x3,rfl,y1 s,y2 s,y3 s⟩
end Go.Proofs.YtfdffboelecgoaaGreatDoor
end
namespace Go.Proofs.YtfdffboelecgoaaGreatDoor
open Go.Fw Go.Proofs Go.RowKit
open Go.Proofs.Tryz (prog)
section
theorem ty_i {row:List D}{n:Nat}(h:tyD prog n t_int row) :∃m,row=Go.Fw.encI m∧I64 m:=by
 obtain ⟨_,_,rfl,⟨m,rfl,hm⟩,rfl⟩:=r_u n 2 _ _ [.int .i64] h (by kernel_rfl)
 exact ⟨m,rfl,e_h hm⟩
theorem a_oj {t:TypeId}{row:List D}{n:Nat}(h:tyD prog n t row)(hs:g_4 prog 5 t=some [.int .i64, .int .i64]) :∃a b,row=[iD a,iD b]∧I64 a∧I64 b:=by
 obtain ⟨_,_,rfl,⟨a,rfl,ha⟩,_,_,rfl,⟨b,rfl,hb⟩,rfl⟩:=r_u n 5 _ _ _ h hs
 exact ⟨a,b,rfl,e_h ha,e_h hb⟩
theorem a_oh {t:TypeId}{row:List D}{n:Nat}(h:tyD prog n t row)(hs:g_4 prog 5 t=some [.int .i64, .int .i64, .int .i64]) :∃a b c,row=[iD a,iD b,iD c]∧I64 a∧I64 b∧I64 c:=by
 obtain ⟨_,_,rfl,⟨a,rfl,ha⟩,_,_,rfl,⟨b,rfl,hb⟩,_,_,rfl,⟨c,rfl,hc⟩,rfl⟩:=r_u n 5 _ _ _ h hs
 exact ⟨a,b,c,rfl,e_h ha,e_h hb,e_h hc⟩
theorem a_pi {t:TypeId}{row:List D}{n:Nat}(h:tyD prog n t row)(hs:g_4 prog 5 t=some [.int .i64, .int .i64, .int .i64, .int .i64]) :∃a b c d,row=[iD a,iD b,iD c,iD d]∧I64 a∧I64 b∧I64 c∧I64 d:=by
 obtain ⟨_,_,rfl,⟨a,rfl,ha⟩,_,_,rfl,⟨b,rfl,hb⟩,_,_,rfl,⟨c,rfl,hc⟩,_,_,rfl,⟨d,rfl,hd⟩,rfl⟩:=r_u n 5 _ _ _ h hs
 exact ⟨a,b,c,d,rfl,e_h ha,e_h hb,e_h hc,e_h hd⟩
theorem a_gm {row:List D}{n:Nat}(h:tyD prog n a_2 row) :∃s:Sec,row=s.enc∧I64 s.Kind∧I64 s.OC∧I64 s.Line:=by
 obtain ⟨a,b,c,rfl,q⟩:=a_oh h (by kernel_rfl)
 exact ⟨⟨a,b,c⟩,rfl,q⟩
theorem a_lf {row:List D}{n:Nat}(h:tyD prog n b_v row) :∃s:Jt,row=s.enc∧I64 s.A∧I64 s.AEnd∧I64 s.B∧I64 s.BEnd:=by
 obtain ⟨a,b,c,d,rfl,q⟩:=a_pi h (by kernel_rfl)
 exact ⟨⟨a,b,c,d⟩,rfl,q⟩
theorem a_jv {row:List D}{n:Nat}(h:tyD prog n b_b row) :∃s:Sg,row=s.enc∧I64 s.Sec∧I64 s.End_:=by
 obtain ⟨a,b,rfl,q⟩:=a_oj h (by kernel_rfl)
 exact ⟨⟨a,b⟩,rfl,q⟩
theorem a_m9 {row:List D}{n:Nat}(h:tyD prog n a_i row) :∃s:St,row=s.enc∧I64 s.Sec∧I64 s.In∧I64 s.Out:=by
 obtain ⟨a,b,c,rfl,q⟩:=a_oh h (by kernel_rfl)
 exact ⟨⟨a,b,c⟩,rfl,q⟩
theorem a_mr {row:List D}{n:Nat}(h:tyD prog n a_r row) :∃s:Nd,row=s.enc∧I64 s.Sec∧I64 s.Pos:=by
 obtain ⟨a,b,rfl,q⟩:=a_oj h (by kernel_rfl)
 exact ⟨⟨a,b⟩,rfl,q⟩
structure RtI (r:Rt) :Prop where
 entry:I64 r.Entry
 exit:I64 r.Exit
 path:∀s ∈ r.Path,I64 s.Sec∧I64 s.In∧I64 s.Out
 flank:∀s ∈ r.Flank,I64 s.Sec∧I64 s.Pos
 over:∀o ∈ r.Overlap,I64 o
 np:24 * r.Path.length≤140737488351232
 nf:16 * r.Flank.length≤140737488351232
 no:8 * r.Overlap.length≤140737488351232
structure CfI (c:Cf) :Prop where
 secs:∀s ∈ c.Secs,I64 s.Kind∧I64 s.OC∧I64 s.Line
 jts:∀s ∈ c.Jts,I64 s.A∧I64 s.AEnd∧I64 s.B∧I64 s.BEnd
 sigs:∀s ∈ c.Sigs,I64 s.Sec∧I64 s.End_
 xs:∀s ∈ c.Xs,I64 s
 rts:∀r ∈ c.Rts,RtI r
 age:I64 c.Age
 brake:I64 c.Brake
 hold:I64 c.Hold
 budget:I64 c.Budget
 nsecs:24 * c.Secs.length≤140737488351232
 njts:32 * c.Jts.length≤140737488351232
 nsigs:16 * c.Sigs.length≤140737488351232
 nxs:8 * c.Xs.length≤140737488351232
 nrts:96 * c.Rts.length≤140737488351232
theorem a_is {row:List D}{n:Nat}(h:tyD prog n a_w row) :∃r:Rt,((∀s,RtAt prog a_i a_r t_int s row r)∧RtI r)∧row[4]?≠some .zsl:=by
 obtain ⟨_,_,rfl,⟨a,rfl,ha⟩,_,_,rfl,⟨b,rfl,hb⟩,d1,_,rfl,h1,d2,_,rfl,h2,d3,_,rfl,h3,_,_,rfl,⟨sh,rfl⟩,rfl⟩:=r_u n 5 _ _ [.int .i64, .int .i64, .sl a_i, .sl a_r, .sl t_int, .bool] h (by kernel_rfl)
 obtain ⟨l1,a1,b1,_,e1⟩:=l_t (bytes:=24) St.enc _ (fun row n h=>a_m9 h) (by kernel_rfl) (by omega) h1
 obtain ⟨l2,a2,b2,_,e2⟩:=l_t (bytes:=16) Nd.enc _ (fun row n h=>a_mr h) (by kernel_rfl) (by omega) h2
 obtain ⟨l3,a3,b3,z3,e3⟩:=l_t (bytes:=8) Go.Fw.encI _ (fun row n h=>ty_i h) (by kernel_rfl) (by omega) h3
 exact ⟨⟨a,b,l1,l2,l3,sh⟩,⟨fun s=>⟨d1,d2,d3,rfl,a1 s,a2 s,a3 s⟩,e_h ha,e_h hb,b1,b2,b3,e1,e2,e3⟩,fun e=>z3 (by injection e)⟩
theorem a_he {cs:List D}{n:Nat}(h:tyD prog n t_Config cs) :∃c0 c1 c2 c3 c4 c,cs=[c0,c1,c2,c3,c4,iD c.Age,iD c.Brake,iD c.Hold,iD c.Budget]∧(∀s,CfAt s c0 c1 c2 c3 c4 c)∧CfI c∧x_t c4:=by
 obtain ⟨c0,_,rfl,h0,c1,_,rfl,h1,c2,_,rfl,h2,c3,_,rfl,h3,c4,_,rfl,h4,_,_,rfl,⟨a,rfl,ha⟩,_,_,rfl,⟨b,rfl,hb⟩,_,_,rfl,⟨ho,rfl,hho⟩,_,_,rfl,⟨bu,rfl,hbu⟩,rfl⟩:=
   r_u n 5 _ _ [.sl a_2, .sl b_v, .sl b_b, .sl t_int, .sl a_w, .int .i64, .int .i64, .int .i64, .int .i64] h (by kernel_rfl)
 obtain ⟨l0,a0,b0,_,e0⟩:=l_t (bytes:=24) Sec.enc _ (fun row n h=>a_gm h) (by kernel_rfl) (by omega) h0
 obtain ⟨l1,a1,b1,_,e1⟩:=l_t (bytes:=32) Jt.enc _ (fun row n h=>a_lf h) (by kernel_rfl) (by omega) h1
 obtain ⟨l2,a2,b2,_,e2⟩:=l_t (bytes:=16) Sg.enc _ (fun row n h=>a_jv h) (by kernel_rfl) (by omega) h2
 obtain ⟨l3,a3,b3,_,e3⟩:=l_t (bytes:=8) Go.Fw.encI _ (fun row n h=>ty_i h) (by kernel_rfl) (by omega) h3
 obtain ⟨rows,l4,a4,q4,b4,_,e4⟩:=a_ou (bytes:=96) (fun row r=>((∀s,RtAt prog a_i a_r t_int s row r)∧RtI r)∧row[4]?≠some .zsl) (fun row n h=>a_is h) (by kernel_rfl) (by omega) h4
 refine ⟨c0,c1,c2,c3,c4,⟨l0,l1,l2,l3,l4,a,b,ho,bu⟩,rfl,fun s=>⟨a0 s,a1 s,a2 s,a3 s,rows,a4 s,q4,fun i row r x y=>(b4 i row r x y).1.1 s⟩,⟨b0,b1,b2,b3,?_,e_h ha,e_h hb,e_h hho,e_h hbu,e0,e1,e2,e3,e4⟩,?_⟩
 · intro r hr
   obtain ⟨i,hi⟩:=List.mem_iff_getElem?.1 hr
   have hi:l4[i]? =some r:=hi
   have hlt:=(List.getElem?_eq_some_iff.1 hi).1
   obtain ⟨row,hrow⟩:=a_h (l:=rows) (j:=i) (by omega)
   exact (b4 i row r hrow hi).1.2
 · have hr:=(a4 noS).rows
   cases c4 <;> first | trivial | skip
   obtain ⟨rfl,_⟩:=hr
   intro row hrow
   obtain ⟨i,hi⟩:=List.mem_iff_getElem?.1 hrow
   have hlt:=(List.getElem?_eq_some_iff.1 hi).1
   obtain ⟨r,hr⟩:=a_h (l:=l4) (j:=i) (by omega)
   exact (b4 i row r hi hr).2
end
section
variable {σ σ0:Store}
theorem a_kq {s6:Store}{d5 d6:D}{all out:List Int}{v n5:Int}{m:Nat}{K:D→Store→Prop}(h5:Own prog σ s6 t_int d5 (all.map Go.Fw.encI))(h6:Own prog σ s6 t_int d6 (out.map Go.Fw.encI))(hn:n5=m)(hm:m≤out.length)
   (hb:out.length≤2 ^ 20) (hK:∀d s,Own prog σ s t_int d5 (all.map Go.Fw.encI)→Own prog σ s t_int d ((out.take m ++ [v] ++ out.drop m).map Go.Fw.encI)→K d s) :
   ∃len:Nat,(IdxN prog s6 d6 1 len)∧((0:Int)≤0)∧((0:Int)≤n5)∧(n5≤(len:Int))∧a_e prog s6 t_int 8 .nils (e_g d6 0 (Int.toNat n5)) (fun (d7:D)=>fun (s7:Store)=>Fw.newObj s7 (.live t_int [[.int .i64 v]]) (fun (id:Nat)=>fun (s8:Store)=>a_e prog s8 t_int 8 d7 (.osl id 0 1) (fun (d8:D)=>fun (s9:Store)=>
     ∃len7:Nat,(IdxN prog s9 d6 1 len7)∧((0:Int)≤n5)∧(n5≤(len7:Int))∧a_e prog s9 t_int 8 d8 (e_g d6 (Int.toNat n5) len7) K))):=by
 subst hn
 have i6:=h6.at_.idxN c_int
 rw[List.length_map] at i6
 refine ⟨out.length,i6,by omega,by omega,by omega,?_⟩
 rw[Int.toNat_natCast]
 have hsub:=h6.at_.sub (lo:=0) (hi:=m) (by omega) (by simpa using hm)
 refine (Own.nil (P:=prog) (el:=t_int) (σ:=s6) s6 (.refl _)).append hsub (by simp;omega) (by simp;omega) fun d7 s7 o7 _ _=>?_
 refine a_f fun id s8 hid _ he hs8=>?_
 refine (o7.ext' he).append (At.fresh hs8 (by simp) rfl) (by simp;omega) (by simp;omega) fun d8 s9 o8 _ _=>?_
 have h69:=h6.at_.ext o8.ext
 have i9:=h69.idxN c_int
 rw[List.length_map] at i9
 refine ⟨out.length,i9,by omega,by omega,?_⟩
 have hsub2:=h69.sub (lo:=m) (hi:=out.length) hm (by simp)
 refine o8.append hsub2 (by simp;omega) (by simp;omega) fun d9 s10 o9 _ _=>hK d9 s10 (h5.ext' o9.ext) ?_
 have o:=Own.from h6.ext o9
 have e:([] ++ ((out.map Go.Fw.encI).drop 0).take (m - 0) ++ [[D.int .i64 v]]) ++ ((out.map Go.Fw.encI).drop m).take (out.length - m) =(out.take m ++ [v] ++ out.drop m).map Go.Fw.encI:=by
   have a1:((out.map Go.Fw.encI).drop m).take (out.length - m) =(out.map Go.Fw.encI).drop m:=List.take_of_length_le (by simp)
   rw[List.nil_append,List.drop_zero,Nat.sub_zero,a1,←List.map_take,←List.map_drop,List.map_append,List.map_append]
   rfl
 rw[e] at o;exact o
theorem q_a {d:D}{path:List St}(h:∀s,At prog s a_i d (path.map St.enc))(hb:path.length≤2 ^ 20) :
   DCalls prog b_3 [.one d] σ fun r s=>∃d',r= .a (.one d')∧Own prog σ s t_int d' ((path.map St.Sec).map Go.Fw.encI):=by
 refine k_q d σ _ ?_
 refine (h σ).lenK ⟨fun d n s=>∃j:Nat,n=j∧j≤path.length∧Own prog σ s t_int d (((path.take j).map St.Sec).map Go.Fw.encI),fun _ n _=>path.length - n.toNat,⟨0,rfl,by omega, .nil _ (.refl _)⟩,?_⟩
 rintro d1 _ s ⟨j,rfl,hj,ho⟩
 rw[List.length_map]
 refine bcd (fun hlt=>?_) (fun hge=>?_)
 · obtain ⟨x,hx⟩:=a_h (l:=path) (j:=j) (by omega)
   refine (h s).load (a_m hx) c_s rfl ⟨x.Sec,x.In,x.Out,rfl,a_f fun id s2 hid _ he hs2=>?_⟩
   have hl:(((path.take j).map St.Sec).map Go.Fw.encI).length=j:=by simp;omega
   refine (ho.ext' he).append (At.fresh hs2 (by simp) rfl) (by simp;omega) (by simp;omega) fun d4 s5 ho5 _ _=>?_
   rw[a_g (by omega)]
   refine ⟨⟨j+1,rfl,by omega,?_⟩,by show path.length - ((j+1:Nat) :Int).toNat < path.length - ((j:Nat) :Int).toNat;omega⟩
   have e:path.take (j+1) =path.take j ++ [x]:=by rw[List.take_add_one,hx];rfl
   rw[e,List.map_append,List.map_append];exact ho5
 · have e:j=path.length:=by omega
   rw[e,List.take_length] at ho
   exact ⟨_,rfl,ho⟩
theorem a_ez:∀(l out:List Int),(l.foldl k_w out).length≤out.length+l.length
 | [],out=>by simp
 | s::r,out=>by
   rw[List.foldl_cons]
   have:=a_ez r (k_w out s)
   have h1:(k_w out s).length≤out.length+1:=by
     unfold k_w;split
     · omega
     · simp;omega
   simp;omega
section
variable {c0 c1 c2 c3 c4:D} {c:Cf} (h:∀s,CfAt s c0 c1 c2 c3 c4 c) (hok:c.check=0)
include h hok
end
end
end Go.Proofs.YtfdffboelecgoaaGreatDoor
section
set_option maxRecDepth 20000
namespace Go.Proofs.YtfdffboelecgoaaGreatDoor
open Go.Fw Go.Proofs Go.RowKit
open Go.Proofs.Tryz (prog)
variable {σ σ0:Store}
theorem t_y {d f:D}{l:List Int}{p:Int→Bool}(h:At prog σ t_int d (l.map Go.Fw.encI))(hf:FnIs prog σ f (fun x:Int=>iA x) l p) :
   Pure prog d_4 [.one d, .one f] σ (.a (iA (j_5 p l 0))):=by
 have hl:=h.size
 rw[List.length_map] at hl
 obtain ⟨f1,a,b,as0',bs,rfl,ha,hb,hf⟩:=hf
 refine l_i d _ σ _ (h.lenK ⟨fun n s=>s=σ∧Rng l (fun r=>∀j:Nat,n=j→j_5 p r j=j_5 p l 0) n,fun n _=>l.length - n.toNat,⟨rfl, .start fun j hj=>by cases j with | zero=>rfl | succ j=>omega⟩,?_⟩)
 rintro n τ ⟨rfl,hr⟩
 refine bcd (fun hlt=>?_) (fun hge=>?_)
 · obtain ⟨j,x,rfl,hx,hj,hF,nx⟩:=hr.step (by simp) hl hlt
   refine h.load (a_m hx) c_int rfl ⟨x,rfl,f1,a,b,as0',bs,rfl,ha,hb,?_⟩
   have hF:=hF j rfl
   rw[j_5] at hF
   refine (hf x (List.mem_of_getElem? hx)).mono ?_
   rintro r s ⟨rfl,rfl⟩
   refine ⟨p x,rfl,bc (fun hp=>?_) (fun hp=>?_)⟩
   · rw[if_pos hp] at hF;exact ⟨by rw[←hF],rfl⟩
   · refine m_t rfl (nx _ fun j' hj'=>?_)
     rw[a_g (by omega)] at hj'
     have:j'=j+1:=by omega
     subst this
     rw[if_neg (by rw[hp];simp)] at hF
     exact hF
 · refine ⟨?_,rfl⟩
   obtain ⟨j,hj,hj2,hF⟩:=hr
   have hF:=hF j hj
   rw[List.length_map] at hge
   rw[e_u (by omega)] at hF
   rw[←hF];rfl
theorem o_0 {d f:D}{l:List Int}{p:Int→Bool}(h:At prog σ t_int d (l.map Go.Fw.encI))(hf:FnIs prog σ f (fun x:Int=>iA x) l p) :
   Pure prog d_a [.one d, .one f] σ (.a (bA (l.any p))):=
 j_h d f σ _ ((t_y h hf).use ⟨_,rfl,by rw[s_r];exact ⟨rfl,rfl⟩⟩)
theorem g_m {a b:D}{la lb:List Int}(ha:At prog σ t_int a (la.map Go.Fw.encI))(hb:At prog σ t_int b (lb.map Go.Fw.encI)) :Pure prog d_t [.one a, .one b] σ (.a (bA (decide (la=lb)))):=by
 have hs:=ha.size
 rw[List.length_map] at hs
 refine s_2 a b σ _ (ha.lenK (hb.lenK ?_))
 rw[List.length_map,List.length_map]
 refine bcn (fun hne=>⟨?_,rfl⟩) (fun he=>ha.lenK ?_)
 · rw[decide_eq_false (fun e=>hne (by rw[e]))]
 have hl:la.length=lb.length:=by omega
 rw[List.length_map]
 refine ⟨fun n s=>s=σ∧EqR la lb n,fun n _=>la.length - n.toNat,⟨rfl, .start _ _⟩,?_⟩
 rintro n s ⟨rfl,hr⟩
 refine bcd (fun hlt=>?_) (fun hge=>⟨?_,rfl⟩)
 · obtain ⟨j,x,y,rfl,hx,hy,hn,hy2⟩:=hr.step hl rfl hs hlt
   refine ha.load (a_m hx) c_int rfl ⟨x,rfl,hb.load (a_m hy) c_int rfl ⟨y,rfl,bcn (fun e=>⟨?_,rfl⟩) (fun e=>m_t rfl (hy2 e))⟩⟩
   rw[decide_eq_false (hn e)]
 · rw[decide_eq_true (hr.done hl rfl hge)]
theorem v_v {d:D}{l:List Int}(v:Int)(h:At prog σ t_int d (l.map Go.Fw.encI)) :Pure prog e_b [.one d,iA v] σ (.a (bA (inL l v))):=by
 refine m_k d v σ _ ((h_z v h).use ⟨_,rfl,?_,rfl⟩)
 have key:∀(l:List Int) (j:Nat),decide (i_4 l v j≥0) =inL l v:=by
   intro l
   induction l with
   | nil=>intro j;simp[i_4,inL]
   | cons x r ih=>
     intro j
     rw[i_4]
     by_cases hx:v=x
     · rw[if_pos hx];simp[inL,hx]
     · rw[if_neg hx,ih,inL,inL];simp[hx]
 rw[key]
def t_a (c:Cf)(a b:Int) :Bool:=(c.lockL a).any fun s=>inL (c.lockL b) s
theorem k_7 {c0 c1 c2 c3 c4:D}{c:Cf}{a b:Int}(hL:∀(s:Store) (i:Int),DCalls prog b_9 [cfA c0 c1 c2 c3 c4 c,iA i] s (c_n s t_int ((c.lockL i).map Go.Fw.encI))) :
   Fw.Pure prog f_g [cfA c0 c1 c2 c3 c4 c,iA a,iA b] σ (.a (bA (t_a c a b))):=by
 refine .of (v_j _ _ _ _ _ _ _ _ _ a b σ _ ((hL σ b).mono ?_)) (t_q _)
 rintro r s ⟨rfl,d,rfl,hd⟩
 refine ⟨d,rfl,a_f fun id s1 hid _ he hs=>b_d hs (by simp) fun s2 hs2 ho2=>(hL s2 a).mono ?_⟩
 rintro r s3 ⟨rfl,d1,rfl,hd1⟩
 have hs2:s3 id= .live a_c0 [[d]]:=hs2
 refine ⟨d1,rfl,(o_0 (hd1 s3) (p:=fun x=>inL (c.lockL b) x) ⟨f_7,_,_,[],[.one (.el (.osl id 0 1) 0 0)],rfl,rfl,rfl,fun x _=>?_⟩).use ⟨_,rfl,rfl,d_d he hid ho2⟩⟩
 exact r_s x _ s3 _ ⟨_,_,_,rfl,_,a_j hs2,d,rfl,(v_v x (hd s3)).use ⟨_,rfl,rfl,rfl⟩⟩
def litS:Cf:=⟨[⟨0,0,0⟩,⟨1,0,0⟩,⟨0,0,0⟩,⟨0,0,0⟩,⟨0,0,1⟩],[⟨0,1,1,0⟩,⟨1,1,2,0⟩,⟨1,2,3,0⟩,⟨2,1,4,0⟩],[⟨0,1⟩,⟨2,1⟩],[],[⟨0,1,[⟨1,0,1⟩,⟨2,0,1⟩],[],[],false⟩,⟨1,-1,[⟨4,0,1⟩],[],[],false⟩],2,1,4,1000⟩
def sD0:D:= .sl 3 [[iD 0,iD 0,iD 0],[iD 1,iD 0,iD 0],[iD 0,iD 0,iD 0],[iD 0,iD 0,iD 0],[iD 0,iD 0,iD 1]]
def sD1:D:= .sl 4 [[iD 0,iD 1,iD 1,iD 0],[iD 1,iD 1,iD 2,iD 0],[iD 1,iD 2,iD 3,iD 0],[iD 2,iD 1,iD 4,iD 0]]
def sD2:D:= .sl 2 [[iD 0,iD 1],[iD 2,iD 1]]
def sD4:D:= .sl 6 [[iD 0,iD 1, .sl 3 [[iD 1,iD 0,iD 1],[iD 2,iD 0,iD 1]], .nils, .nils, .bool false],[iD 1,iD (-1), .sl 3 [[iD 4,iD 0,iD 1]], .nils, .nils, .bool false]]
theorem o_t (s:Store) :CfAt s sD0 sD1 sD2 .nils sD4 litS:=
 ⟨q_r b_2 (by simp),q_r d_3 (by simp),q_r c_h (by simp), .nil,⟨_,q_r b_h (by simp),rfl,fun i row r h1 h2=>by
   have hi:i=0∨i=1:=by have:=(List.getElem?_eq_some_iff.1 h1).1;simp at this;omega
   rcases hi with rfl | rfl
   · simp at h1;subst h1
     simp[litS] at h2;subst h2
     exact ⟨_,_,_,rfl,q_r c_s (by simp), .nil, .nil⟩
   · simp at h1;subst h1
     simp[litS] at h2;subst h2
     exact ⟨_,_,_,rfl,q_r c_s (by simp), .nil, .nil⟩⟩⟩
theorem a_io:x_t sD4:=by
 intro row hr
 simp only[List.mem_cons,List.not_mem_nil,or_false] at hr
 rcases hr with rfl | rfl <;> (intro e;cases e)
theorem v_3:cf64 litS:=by
 constructor <;> simp[litS,rt64,i64]
theorem a_l1:litS.lockL 0=[1,2]:=by
 show Cf.lockR ⟨0,1,[⟨1,0,1⟩,⟨2,0,1⟩],[],[],false⟩ =[1,2]
 rw[←x_1];decide +kernel
theorem r_b:litS.check=0:=by decide +kernel
theorem a_k6:(d_o litS).length≤2 ^ 20:=by decide +kernel
theorem law06_small_ok:Pure prog k_e [] σ (.a (cfA sD0 sD1 sD2 .nils sD4 litS)):=z_b σ _ ⟨rfl,rfl⟩
theorem law06_lives_ok:Pure prog j_8 [] σ (.a (bA true)):=by
 have hl:=a_k6
 refine y_o σ _ (law06_small_ok.use ⟨_,_,_,_,_,_,_,_,_,rfl,(p_l o_t r_b a_io 0).mono ?_⟩)
 rintro r s ⟨rfl,d5,rfl,hd5⟩
 rw[a_l1] at hd5
 refine ⟨d5,rfl,(a_ar (o_t s) v_3 (by omega)).use ⟨_,rfl,(a_cc (text:=a_q (d_o litS)) (by rw[g_s];omega)).mono ?_⟩⟩
 rintro r s1 ⟨rfl,e0,e1,e2,e3,e4,rfl,he⟩
 rw[a_gf v_3] at he ⊢
 refine ⟨_,_,_,_,_,_,_,_,_,_,rfl,(y_y o_t).use ⟨_,rfl,?_⟩⟩
 rw[r_b]
 refine bce (fun _=>(g_m (hd5 s1) (lb:= [1,2]) (q_r c_int (by simp))).use ⟨_,rfl,bc (fun _=>bce (fun _=>(y_p (he s1) (o_t s1) v_3 v_3 (by show (d_o litS).length≤_;omega) (by omega)).use ⟨_,rfl,bc (fun _=>(k_1 (o_t s1) 0).use ⟨_,rfl,?_⟩) (fun e=>?_)⟩) (fun e=>absurd rfl e)) (fun e=>by cases e)⟩) (fun e=>absurd rfl e)
 · rw[show litS.Approach 0=0 from by decide +kernel]
   refine bce (fun _=>(k_7 (a:=0) (b:=0) fun s i=>p_l o_t r_b a_io i).use ⟨_,rfl,?_,rfl⟩) (fun e=>absurd rfl e)
   have:t_a litS 0 0=true:=by unfold t_a;rw[a_l1];rfl
   rw[this]
 · rw[show (some litS).getD h_k=litS from rfl,beq_self_eq_true] at e;cases e
end Go.Proofs.YtfdffboelecgoaaGreatDoor
end
namespace Go.Fw
section
variable {P:Program} {σ:Store}
def a_pn:Store:=fun _=> .free
end
end Go.Fw
section
set_option maxRecDepth 20000
namespace Go.Proofs.YtfdffboelecgoaaGreatDoor
open Go.Fw Go.Proofs Go.RowKit
open Go.Proofs.Tryz (prog)
variable {σ σ0:Store}
def a_nn (f:FuncId)(xs:List A) :Prop:=DCalls prog f xs noS fun r _=>r= .a (.one (.bool true))
end Go.Proofs.YtfdffboelecgoaaGreatDoor
end
section
set_option maxRecDepth 20000
namespace Go.Proofs.YtfdffboelecgoaaGreatDoor
open Go.Fw Go.Proofs Go.RowKit
open Go.Proofs.Tryz (prog)
variable {σ σ0:Store}
structure FlI (σ:Store) (id:Nat) (N:Nat) (path:List St) (n n1:Int) (d:D) (b:Bool) (s:Store) (done:List St) (seen:List Int) (f:Int→Option A) :Prop where
 map:MapAt prog t_int iA s id f
 f:∀z,f z=if z ∈ seen then some (iA 1) else none
 own:Own prog σ s a_i d (done.map St.enc)
 nd:seen.Nodup
 rg:∀z ∈ seen,0≤z∧z < N
 len:seen.length=done.length
 ph:(∃st rest,path=done ++ st::rest∧b=true∧n=st.Sec∧n1=st.In∧∀z ∈ seen,z ∈ done.map St.Sec)∨path.length≤done.length∧done.take path.length=path
end Go.Proofs.YtfdffboelecgoaaGreatDoor
end
section
set_option maxRecDepth 20000
namespace Go.Proofs.YtfdffboelecgoaaGreatDoor
open Go.Fw Go.Proofs Go.RowKit
open Go.Proofs.Tryz (prog)
variable {σ σ0:Store}
theorem a_a6 {a b:D}{l:List St}(ha:At prog σ a_i a (l.map St.enc))(hb:At prog σ a_i b (l.map St.enc)) :Fw.Pure prog f_2 [.one a, .one b] σ (.a (bA true)):=by
 have hs:=ha.size
 rw[List.length_map] at hs
 refine r_y a b σ _ (ha.lenK (hb.lenK (bcn (fun hne=>absurd rfl hne) (fun _=>ha.lenK ⟨fun n s=>s=σ∧∃j:Nat,n=j∧j≤l.length,fun n _=>l.length - n.toNat,⟨rfl,0,rfl,by omega⟩,?_⟩))))
 rintro n s ⟨rfl,j,rfl,hj⟩
 rw[List.length_map]
 refine bcd (fun hlt=>?_) (fun hge=>⟨rfl,rfl⟩)
 obtain ⟨x,hx⟩:=a_h (l:=l) (j:=j) (by omega)
 refine ha.load (a_m hx) c_s rfl ⟨x.Sec,x.In,x.Out,rfl,hb.load (a_m hx) c_s rfl ⟨x.Sec,x.In,x.Out,rfl,b_g (fun e=>?_) (fun _=>?_)⟩⟩
 · simp at e
 · rw[a_g (by omega)]
   exact ⟨⟨rfl,j+1,rfl,by omega⟩,by show l.length - ((j+1:Nat) :Int).toNat < l.length - ((j:Nat) :Int).toNat;omega⟩
end Go.Proofs.YtfdffboelecgoaaGreatDoor
end
section
set_option maxRecDepth 20000
namespace Go.Proofs.YtfdffboelecgoaaGreatDoor
open Go.Fw Go.Proofs Go.RowKit
open Go.Proofs.Tryz (prog)
variable {σ σ0:Store}
def rtW8 (x:Rt) :Nat:=6+3 * x.Path.length+2 * x.Flank.length+x.Overlap.length
def cfW (c:Cf) :Nat:=3 * c.Secs.length+4 * c.Jts.length+2 * c.Sigs.length+c.Xs.length+ (c.Rts.map rtW8).sum
theorem j_1 {α:Type}{enc:α→List D}{k:Nat}(hk:∀a,wtL (enc a) =k) :∀l:List α,p_5 (l.map enc) =k * l.length
 | []=>by simp[p_5]
 | a::l=>by rw[List.map_cons,p_5,hk,j_1 hk l,List.length_cons,Nat.mul_add];omega
theorem u_w {el:TypeId}{d:D}{rows:List (List D)}(h:∀s,At prog s el d rows) :1+p_5 rows≤wtD d:=by
 have hx:=(h a_pn).rows
 cases d <;> simp only[Go.Fw.Rows] at hx <;> try exact hx.elim
 · subst hx;simp[p_5,wtD]
 · subst hx;simp[p_5,wtD]
 · obtain ⟨rfl,_⟩:=hx;simp only[wtD];omega
 · obtain ⟨t,rows',h1,_⟩:=hx;cases h1
theorem a_pk {c0 c1 c2 c3 c4:D}{c:Cf}(h:∀s,CfAt s c0 c1 c2 c3 c4 c) :cfW c≤wtA (cfA c0 c1 c2 c3 c4 c):=by
 have h0:=(u_w fun s=>(h s).secs)
 have h1:=(u_w fun s=>(h s).jts)
 have h2:=(u_w fun s=>(h s).sigs)
 have h3:=(u_w fun s=>(h s).xs)
 rw[j_1 (k:=3) (fun a=>rfl)] at h0
 rw[j_1 (k:=4) (fun a=>rfl)] at h1
 rw[j_1 (k:=2) (fun a=>rfl)] at h2
 rw[j_1 (k:=1) (fun a=>rfl)] at h3
 obtain ⟨rows,hat,hlen,hrow⟩:=r_1 fun s=>(h s).rts
 have h4:=u_w hat
 have key:∀(rows:List (List D)) (l:List Rt),rows.length=l.length→(∀(i:Nat) row x,rows[i]? =some row→l[i]? =some x→rtW8 x≤wtL row)→(l.map rtW8).sum≤p_5 rows:=by
   intro rows
   induction rows with
   | nil=>intro l hl _;rw[List.length_eq_zero_iff.1 hl.symm];simp
   | cons row rows ih=>
     intro l hl hr
     cases l with
     | nil=>simp
     | cons x l=>
       have a:=hr 0 row x rfl rfl
       have b:=ih l (by simpa using hl) fun i r y h1 h2=>hr (i+1) r y (by simpa using h1) (by simpa using h2)
       rw[List.map_cons,List.sum_cons,p_5];omega
 have h5:=key rows c.Rts hlen fun i row x hi hx=>by
   obtain ⟨d1,d2,d3,rfl,q1,q2,q3⟩:=hrow i row x hi hx
   have a1:=u_w q1
   have a2:=u_w q2
   have a3:=u_w q3
   rw[j_1 (k:=3) (fun a=>rfl)] at a1
   rw[j_1 (k:=2) (fun a=>rfl)] at a2
   rw[j_1 (k:=1) (fun a=>rfl)] at a3
   show rtW8 x≤1+ (1+ (wtD d1+ (wtD d2+ (wtD d3+ (1+0)))))
   unfold rtW8
   omega
 show cfW c≤wtD c0+ (wtD c1+ (wtD c2+ (wtD c3+ (wtD c4+ (1+ (1+ (1+ (1+0))))))))
 unfold cfW
 omega
end Go.Proofs.YtfdffboelecgoaaGreatDoor
end
section
set_option maxRecDepth 20000
namespace Go.Proofs.YtfdffboelecgoaaGreatDoor
open Go.Fw Go.Proofs Go.RowKit
open Go.Proofs.Tryz (prog)
variable {σ σ0:Store}
section
variable {c0 c1 c2 c3 c4:D} {c:Cf} (h:∀s,CfAt s c0 c1 c2 c3 c4 c)
include h
theorem v_m (a:Int){d:D}{path:List St}(hp:∀s,Ext σ s→At prog s a_i d (path.map St.enc))(hpl:path.length≤2 ^ 20) :
   DCalls prog d_j [cfA c0 c1 c2 c3 c4 c,iA a, .one d] σ (c_n σ a_r ((c.flank a path).map Nd.enc)):=by
 have hl:=(hp σ (.refl _)).size
 rw[List.length_map] at hl
 refine (j_q _ _ _ _ _ _ _ _ _ a d σ _ ?_).ret (Q:=fun r s=>∃r' σ',Ret prog σ s r σ' r'∧c_n σ a_r ((c.flank a path).map Nd.enc) r' σ') (fun r s h=>h)
 refine (hp σ (.refl _)).lenK ⟨fun d n s=>∃out:List Nd,Own prog σ s a_r d (out.map Nd.enc)∧out.length≤4 * n.toNat∧Rng path (fun r=>b_n c a path r out=c.flank a path) n,fun _ n _=>path.length - n.toNat,
   ⟨[], .nil _ (.refl _),by simp, .start rfl⟩,?_⟩
 rintro d1 n s ⟨out,ho,hol,hr⟩
 refine bcd (fun hlt=>?_) (fun hge=>?_)
 · obtain ⟨j,x,rfl,hx,hj,hF,nx⟩:=hr.step (by simp) hl hlt
   refine (hp s ho.ext).load (a_m hx) c_s rfl ⟨x.Sec,x.In,x.Out,rfl,(c_t (h s) x.Sec).use (q_f _ ?_)⟩
   rw[b_n] at hF
   refine b_g (fun hb=>?_) (fun hb=>?_)
   · cases hg:b_c c.Secs x.Sec with
     | some y=>rw[hg] at hb;cases hb
     | none=>
       rw[hg] at hF
       have hn:=nx (fun r=>b_n c a path r out=c.flank a path) hF
       exact ⟨⟨out,ho,by rw[a_g (by omega)];omega,hn.1⟩,hn.2⟩
   · obtain ⟨y,hg⟩:=Option.isSome_iff_exists.1 hb
     rw[hg] at hF
     simp only[hg,Option.getD_some] at hF ⊢
     refine (h_8 _).use ⟨_,rfl,?_⟩
     have hne:=n_e y.Kind
     refine ⟨fun d m s'=>∃out':List Nd,Own prog σ s' a_r d (out'.map Nd.enc)∧0≤m∧m≤a_x y.Kind∧out'.length≤4 * j+m.toNat∧a_y c a path x (a_x y.Kind - m).toNat m out'=a_y c a path x (a_x y.Kind).toNat 0 out,
       fun _ m _=>(a_x y.Kind - m).toNat,⟨out,ho,by omega,hne.1,by simp at hol ⊢;omega,by rw[Int.sub_zero]⟩,?_⟩
     rintro d2 m s' ⟨out',ho',hm0,hm1,hol',hE⟩
     refine bcd (fun hlt'=>?_) (fun hge'=>?_)
     · have hw:w64 (m+1) =m+1:=d_9 (by omega) (by omega)
       have hk:(a_x y.Kind - m).toNat=(a_x y.Kind - (m+1)).toNat+1:=by omega
       rw[hk,a_y] at hE
       have leaf : ∀ (out2 : List Nd) (d3 : D) (s2 : Store), a_1 c a path x out' m = out2 → Own prog σ s2 a_r d3 (out2.map Nd.enc) →
           (∃out':List Nd,Own prog σ s2 a_r d3 (out'.map Nd.enc)∧0≤w64 (m+1)∧w64 (m+1)≤a_x y.Kind∧out'.length≤4 * j+ (w64 (m+1)).toNat∧a_y c a path x (a_x y.Kind - w64 (m+1)).toNat (w64 (m+1)) out'=a_y c a path x (a_x y.Kind).toNat 0 out)∧
           (a_x y.Kind - w64 (m+1)).toNat < (a_x y.Kind - m).toNat:=by
         intro out2 d3 s2 h1 h2
         have hlen:=(g_5 c a path x out' m).2
         rw[hw]
         refine ⟨⟨out2,h2,by omega,by omega,by rw[←h1];omega,by rw[←h1];exact hE⟩,by omega⟩
       intro R hR
       refine bce (fun h1=>⟨trivial,leaf out' d2 s' (by rw[a_1,if_pos (.inl h1)]) ho'⟩) (fun h1=>bce (fun h2=>⟨trivial,leaf out' d2 s' (by rw[a_1,if_pos (.inr h2)]) ho'⟩) (fun h2=>⟨trivial,hR s' ?_⟩))
       have hst:a_1 c a path x out' m=match nxt c.Jts x.Sec m with
         | none=>out'
         | some (q,f)=>match b_c c.Secs q with
           | none=>out'
           | some y=>if y.Kind=1∧(1≤f∧f≤2)∧q≠a∧e_l path q=false∧(out'.any fun n=>n.Sec == q) =false then out' ++ [⟨q,3 - f⟩] else out':=by
         rw[a_1,if_neg (by rintro (e | e);exact h1 e;exact h2 e)] <;> rfl
       refine (e_w x.Sec m (h s').jts).use (j_z _ ?_)
       generalize nxt c.Jts x.Sec m=o at hst
       refine a_f fun id s2 hid _ he hs2=>z_6 hs2 fun s3 hs3 hs3'=>?_
       have he3:Ext s' s3:=fun i hi=>by
         rw[hs3' i (fun e=>hi (by rw[e];exact hid))];exact he i hi
       have ho3:=ho'.ext' he3
       refine ⟨_,a_j hs3,_,rfl,(c_t (h s3) _).use (q_f _ ?_)⟩
       intro R1 hR1
       refine b_g (fun hb1=>?_) (fun hb1=>?_)
       · cases o with
         | some p=>cases hb1
         | none=>exact ⟨trivial,leaf out' d2 s3 hst ho3⟩
       obtain ⟨⟨q,f⟩,rfl⟩:=Option.isSome_iff_exists.1 hb1
       simp only[Option.getD_some] at hst hR1 hs3 ⊢
       refine b_g (fun hb2=>?_) (fun hb2=>?_)
       · cases hg2:b_c c.Secs q with
         | some p=>rw[hg2] at hb2;cases hb2
         | none=>rw[hg2] at hst;exact ⟨trivial,leaf out' d2 s3 hst ho3⟩
       obtain ⟨y2,hg2⟩:=Option.isSome_iff_exists.1 hb2
       rw[hg2] at hst
       simp only[hg2,Option.getD_some] at hst ⊢
       have no:¬(y2.Kind=1∧(1≤f∧f≤2)∧q≠a∧e_l path q=false∧(out'.any fun n=>n.Sec == q) =false)→a_1 c a path x out' m=out':=fun hn=>by rw[hst,if_neg hn]
       refine bcn (fun h3=>⟨trivial,leaf out' d2 s3 (no fun h=>h3 h.1) ho3⟩) (fun h3=>?_)
       refine bcd (fun h4=>⟨trivial,leaf out' d2 s3 (no fun h=>by omega) ho3⟩) (fun h4=>?_)
       refine bcd (fun h5=>⟨trivial,leaf out' d2 s3 (no fun h=>by omega) ho3⟩) (fun h5=>?_)
       refine ⟨_,a_j hs3,q,rfl,bce (fun h6=>⟨trivial,leaf out' d2 s3 (no fun h=>h.2.2.1 h6) ho3⟩) (fun h6=>?_)⟩
       refine ⟨_,a_j hs3,q,rfl,(n_m q (hp s3 ho3.ext)).use ⟨_,rfl,bc (fun h7=>⟨trivial,leaf out' d2 s3 (no fun h=>by rw[h.2.2.2.1] at h7;cases h7) ho3⟩) (fun h7=>?_)⟩⟩
       refine (x_q ho3.at_ hs3).use ⟨_,rfl,bc (fun h8=>⟨trivial,leaf out' d2 s3 (no fun h=>by rw[h.2.2.2.2] at h8;cases h8) ho3⟩) (fun h8=>⟨trivial,hR1 s3 ?_⟩)⟩
       refine ⟨_,a_j hs3,q,rfl,a_f fun id1 s4 hid1 _ he4 hs4=>?_⟩
       have hw2:w64 (3 - f) =3 - f:=d_9 (by omega) (by omega)
       have ho4:=ho3.ext' he4
       refine ho4.append (At.fresh hs4 (by simp) rfl) (by simp;omega) (by simp;omega) fun d4 s5 ho5 _ _=>⟨trivial,leaf (out' ++ [⟨q,3 - f⟩]) d4 s5 (by rw[hst,if_pos ⟨h3,⟨by omega,by omega⟩,h6,h7,h8⟩]) ?_⟩
       rw[hw2] at ho5
       rw[List.map_append]
       exact ho5
     · have hz:(a_x y.Kind - m).toNat=0:=by omega
       rw[hz,a_y] at hE
       rw[←hE] at hF
       have hn:=nx (fun r=>b_n c a path r out'=c.flank a path) hF
       exact ⟨⟨out',ho',by rw[a_g (by omega)];omega,hn.1⟩,hn.2⟩
 · have hF:=hr.done (by simp) hge
   rw[b_n] at hF
   rw[←hF]
   exact e_y ho (a_gx _)
theorem v_i (a:Int){d:D}{path:List St}(hp:∀s,Ext σ s→At prog s a_i d (path.map St.enc))(hpl:path.length≤2 ^ 20) :
   DCalls prog l_w [cfA c0 c1 c2 c3 c4 c,iA a, .one d] σ (c_n σ a_r ((c.flank a path).map Nd.enc)):=by
 refine a_cd _ _ _ _ _ _ _ _ _ a d σ _ ((v_m h a hp hpl).mono ?_)
 rintro _ s ⟨rfl,d',rfl,h1⟩
 exact ⟨d',rfl,rfl,d',rfl,h1⟩
theorem t_7 (r:Rt){d1 d2 d3:D}(hp:∀s,At prog s a_i d1 (r.Path.map St.enc)) :
   DCalls prog j_d [cfA c0 c1 c2 c3 c4 c,rtA d1 d2 d3 r] σ (c_n σ t_int ((c.overlap r).map Go.Fw.encI)):=by
 refine x_2 _ _ _ _ _ _ _ _ _ _ _ d1 d2 d3 _ σ _ ((m_h h r hp).mono ?_)
 rintro _ s ⟨rfl,d',rfl,h1⟩
 exact ⟨d',rfl,rfl,d',rfl,h1⟩
end
section
variable {c0 c1 c2 c3 c4:D} {c:Cf} (h:∀s,z_q prog a_w a_i a_r t_int s c4 c.Rts) (hs:∀x ∈ c.Rts,RtUp x)
include h hs
theorem h_p (i:Int) :DCalls prog f_a [cfA c0 c1 c2 c3 c4 c,iA i] σ (c_n σ t_int ((c.lockL i).map Go.Fw.encI)):=by
 refine (z_f _ _ _ _ _ _ _ _ _ i σ _ ?_).ret (Q:=fun r s=>∃r' σ',Ret prog σ s r σ' r'∧c_n σ t_int ((c.lockL i).map Go.Fw.encI) r' σ') (fun r s h=>h)
 intro R hR
 have nil:b_c c.Rts i=none→∃r' σ',Ret prog σ σ (.a (.one .nils)) σ' r'∧c_n σ t_int ((c.lockL i).map Go.Fw.encI) r' σ':=fun e=>by
   have:c.lockL i=[]:=by unfold Cf.lockL;rw[e]
   rw[this];exact e_y (.nil _ (.refl _)) (p_o _)
 obtain ⟨rows,hat,hlen,_⟩:=h σ
 refine bcd (fun e=>nil (d_7 e)) (fun e0=>hat.lenK (bcd (fun e=>nil (f_h (by omega))) (fun e1=>hR σ ?_)))
 obtain ⟨x,hx⟩:=o_o (l:=c.Rts) (i:=i) e0 (by omega)
 clear hR nil hat
 have hll:c.lockL i=Cf.lockR x:=by unfold Cf.lockL;rw[hx]
 rw[hll,←x_1]
 obtain ⟨rows,d1,d2,d3,hat,hlen,hrow,q1,q2,q3⟩:=a_hm (c4:=c4) (c:=c) h (g_x hx).2.2
 have w0:=hs x (o_j hx)
 unfold RtUp at w0
 refine (hat σ).load hrow b_h (by omega) ⟨_,_,_,_,_,_,rfl,(q_a q1 (by omega)).mono ?_⟩
 rintro r s ⟨d,rfl,ho⟩
 refine ⟨d,rfl,(q2 s).lenK ⟨fun d' n s'=>∃j:Nat,n=j∧j≤x.Flank.length∧Own prog σ s' t_int d' ((x.Path.map St.Sec ++ (x.Flank.take j).map Nd.Sec).map Go.Fw.encI),fun _ n _=>x.Flank.length - n.toNat,⟨0,rfl,by omega,by simpa using ho⟩,?_⟩⟩
 rintro d n s' ⟨j,rfl,hj,ho⟩
 rw[List.length_map]
 refine bcd (fun hlt=>?_) (fun hge=>?_)
 · obtain ⟨y,hy⟩:=a_h (l:=x.Flank) (j:=j) (by omega)
   refine (q2 s').load (a_m hy) e_i rfl ⟨y.Sec,y.Pos,rfl,a_f fun id s2 hid _ he hs2=>?_⟩
   refine (ho.ext' he).append (At.fresh hs2 (by simp) rfl) (by simp;omega) (by simp;omega) fun d4 s5 ho5 _ _=>?_
   rw[a_g (by omega)]
   refine ⟨rfl,⟨j+1,rfl,by omega,?_⟩,o_l (by omega)⟩
   have e:x.Path.map St.Sec ++ (x.Flank.take (j+1)).map Nd.Sec=(x.Path.map St.Sec ++ (x.Flank.take j).map Nd.Sec) ++ [y.Sec]:=by rw[List.take_add_one,hy];simp
   rw[e,List.map_append];exact ho5
 have e:j=x.Flank.length:=by omega
 rw[e,List.take_length] at ho
 refine ho.append (q3 s') (by simp;omega) (by simp;omega) fun d5 s3 o5 _ _=>?_
 rw[←List.map_append] at o5
 generalize hall:x.Path.map St.Sec ++ x.Flank.map Nd.Sec ++ x.Overlap=all at o5
 have hal:all.length≤2 ^ 20:=by rw[←hall];simp;omega
 refine o5.at_.lenK ⟨fun d6 n s=>∃j:Nat,n=j∧j≤all.length∧Own prog σ s t_int d5 (all.map Go.Fw.encI)∧Own prog σ s t_int d6 (((all.take j).foldl k_w []).map Go.Fw.encI),fun _ n _=>all.length - n.toNat,⟨0,rfl,by omega,o5, .nil _ o5.ext⟩,?_⟩
 rintro d6 n s4 ⟨j,rfl,hj,o5,o6⟩
 rw[List.length_map]
 refine bcd (fun hlt=>?_) (fun hge=>?_)
 · obtain ⟨v,hv⟩:=a_h (l:=all) (j:=j) (by omega)
   have hlen6:=a_ez (all.take j) []
   have hstep:(all.take (j+1)).foldl k_w []=k_w ((all.take j).foldl k_w []) v:=by
     rw[List.take_add_one,hv,List.foldl_append];rfl
   generalize hout:(all.take j).foldl k_w []=out at o6 hstep hlen6
   have hol:out.length≤2 ^ 20:=by simp at hlen6;omega
   refine o5.at_.load (a_m hv) c_int rfl ⟨v,rfl,(g_8 v o6.at_).use ⟨_,rfl,bc (fun hin=>?_) (fun hin=>?_)⟩⟩
   · rw[a_g (by omega)]
     refine ⟨⟨j+1,rfl,by omega,o5,?_⟩,o_l (by omega)⟩
     rw[hstep,k_w,if_pos (by simpa[inL] using hin)];exact o6
   · have hni:v ∉ out:=by simpa[inL] using hin
     refine o6.at_.lenK ⟨fun n s=>∃m:Nat,n=m∧m≤out.length∧s=s4∧g_g out v out.length=g_g out v m,fun n _=>n.toNat,⟨out.length,by rw[List.length_map],Nat.le_refl _,rfl,rfl⟩,?_⟩
     rintro n s ⟨m,rfl,hm,rfl,he⟩
     have fin : g_g out v m = m → ∀ d' s', Own prog σ s' t_int d5 (all.map Go.Fw.encI) → Own prog σ s' t_int d' ((out.take m ++ [v] ++ out.drop m).map Go.Fw.encI) →
         (∃j':Nat,w64 ((j:Int) +1) =j'∧j'≤all.length∧Own prog σ s' t_int d5 (all.map Go.Fw.encI)∧Own prog σ s' t_int d' (((all.take j').foldl k_w []).map Go.Fw.encI))∧all.length - (w64 ((j:Int) +1)).toNat < all.length - ((j:Nat) :Int).toNat:=fun e d' s' a b=>by
       rw[a_g (by omega)]
       refine ⟨⟨j+1,rfl,by omega,a,?_⟩,o_l (by omega)⟩
       rw[hstep,k_w,if_neg hni,he,e];exact b
     refine bcd (fun hpos=>?_) (fun hz=>?_)
     · obtain ⟨m,rfl⟩ :∃m',m=m'+1:=⟨m - 1,by omega⟩
       obtain ⟨y,hy⟩:=a_h (l:=out) (j:=m) (by omega)
       have ew:w64 (((m+1:Nat) :Int) - 1) =m:=by rw[d_9 (by omega) (by omega)];omega
       rw[ew]
       refine o6.at_.load (a_m hy) c_int rfl ⟨y,rfl,bcd (fun hgt=>?_) (fun hle=>?_)⟩
       · refine ⟨⟨m,rfl,by omega,rfl,?_⟩,by show ((m:Nat) :Int).toNat < ((m+1:Nat) :Int).toNat;omega⟩
         rw[he,g_g,hy];exact if_pos hgt
       · exact a_kq o5 o6 rfl hm (by omega) (fin (by rw[g_g,hy];exact if_neg hle))
     · have hm0:m=0:=by omega
       subst hm0
       exact a_kq o5 o6 rfl hm (by omega) (fin rfl)
 · have e:j=all.length:=by omega
   rw[e,List.take_length] at o6
   exact e_y o6 (p_o _)
theorem p_y (a b:Int) :Fw.Pure prog g_0 [cfA c0 c1 c2 c3 c4 c,iA a,iA b] σ (.a (bA (t_a c a b))):=by
 refine .of (t_5 _ _ _ _ _ _ _ _ _ a b σ _ ((h_p h hs a).mono ?_)) (t_q _)
 rintro r s ⟨rfl,d,rfl,hd⟩
 have hl:=(hd s).size
 rw[List.length_map] at hl
 refine ⟨d,rfl,(hd s).lenK ⟨fun n s'=>s'=s∧Rng (c.lockL a) (fun r=>(r.any fun x=>inL (c.lockL b) x) =t_a c a b) n,fun n _=>(c.lockL a).length - n.toNat,⟨rfl, .start rfl⟩,?_⟩⟩
 rintro n s' ⟨rfl,hr⟩
 refine bcd (fun hlt=>?_) (fun hge=>?_)
 · obtain ⟨j,x,rfl,hx,hj,hF,nx⟩:=hr.step (by simp) hl hlt
   refine (hd s').load (a_m hx) c_int rfl ⟨x,rfl,(h_p h hs b).mono ?_⟩
   rintro _ s2 ⟨rfl,d1,rfl,hd1⟩
   refine ⟨d1,rfl,(g_8 x (hd1 s2)).use ⟨_,rfl,?_⟩⟩
   rw[List.any_cons] at hF
   refine bc (fun e=>?_) (fun e=>?_)
   · rw[e,Bool.true_or] at hF
     rw[←hF];exact ⟨rfl, .refl _⟩
   · rw[e,Bool.false_or] at hF
     have:=nx (fun r=>(r.any fun x=>inL (c.lockL b) x) =t_a c a b) hF
     exact ⟨⟨rfl,this.1⟩,this.2⟩
 · have hF:=hr.done (by simp) hge
   rw[←hF];exact ⟨rfl, .refl _⟩
end
end Go.Proofs.YtfdffboelecgoaaGreatDoor
end
section
set_option maxRecDepth 20000
namespace Go.Proofs.YtfdffboelecgoaaGreatDoor
open Go.Fw Go.Proofs Go.RowKit
open Go.Proofs.Tryz (prog)
variable {σ σ0:Store}
theorem a_pg {t:TypeId}{bytes:Nat}{d:D}{rows:List (List D)}{K:D→Store→Prop}(h:At prog σ t d rows)(hb:bytes * rows.length≤140737488355328)
   (hK:∀d' s,Own prog σ s t d' rows→K d' s) :Fw.newObj σ (.live t []) fun id σ'=>a_e prog σ' t bytes (.osl id 0 0) d K:=by
 refine a_f fun id s hid _ he hs=>?_
 have ho:Own prog σ s t (.osl id 0 0) []:= .at_new hid he hs (by simp) rfl
 exact ho.append (h.ext he) (by simpa using hb) (by have:=h.size;simpa using this) fun d' s' ho' _ _=>hK _ _ (by simpa using ho')
theorem a_l0 {α:Type}{f:α→Nat} :∀{l:List α} {a:α},a ∈ l→f a≤(l.map f).sum
 | [],a,h=>by simp at h
 | b::l,a,h=>by
   rw[List.map_cons,List.sum_cons]
   rcases List.mem_cons.1 h with rfl | h
   · omega
   · have:=a_l0 (f:=f) h;omega
theorem a_pj {c:Cf}(h:cfW c≤1048576) :∀x ∈ c.Rts,RtUp x:=fun x hx=>by
 have h1:=a_l0 (f:=rtW8) hx
 unfold cfW at h
 unfold rtW8 at h1 h
 unfold RtUp
 omega
theorem law06_ConfParts_ok {xs:List A}(h:TyAs prog [t_Config,t_int,t_int] xs)(hs:(xs.map wtA).sum≤1048576) :a_nn j_r xs:=by
 obtain ⟨a0,xs,rfl,h0,hr0⟩:=x_r h
 obtain ⟨a1,xs,rfl,h1,hr1⟩:=x_r hr0
 obtain ⟨a2,xs,rfl,h2,hr2⟩:=x_r hr1
 obtain rfl:=a_oa hr2
 obtain ⟨cs,_,rfl,p0⟩:=a_nw h0 (by kernel_rfl)
 obtain ⟨c0,c1,c2,c3,c4,c,rfl,hc,hci,hz⟩:=a_he p0
 obtain ⟨r,rfl,_⟩:=a_id h1 (by kernel_rfl) (by kernel_rfl)
 obtain ⟨k,rfl,_⟩:=a_id h2 (by kernel_rfl) (by kernel_rfl)
 clear h h0 h1 h2 hr0 hr1 hr2 p0
 have hw:cfW c≤wtA (.agg [c0,c1,c2,c3,c4,iD c.Age,iD c.Brake,iD c.Hold,iD c.Budget]):=a_pk hc
 simp only[List.map_cons,List.map_nil,List.sum_cons,List.sum_nil] at hs
 have hup:=a_pj (c:=c) (by omega)
 clear hw hs
 have hrt:∀s,z_q prog a_w a_i a_r t_int s c4 c.Rts:=fun s=>(hc s).rts
 refine r_4 _ _ _ _ _ _ _ _ _ r k noS _ (law06_lives_ok.use ⟨true,rfl,b_g (fun e=>by cases e) (fun _=>?_)⟩)
 intro R hR
 refine (k_1 (hc _) r).use ⟨_,rfl,(r_0 (hc _) r).use ⟨_,rfl,bcn (fun e=>absurd rfl e) (fun _=>(k_7 fun s i=>a_an hrt hup hz i).use ⟨_,rfl,(p_y hrt hup r k).use ⟨_,rfl,b_g (fun e=>?_) (fun _=>hR _ ?_)⟩⟩)⟩⟩
 · rw[beq_self_eq_true] at e;cases e
 clear R hR
 have hol:=a_jw hup r
 refine (z_s hrt hup hz r).mono ?_
 rintro _ s2 ⟨d,rfl,ho⟩
 refine ⟨d,rfl,(a_an hrt hup hz r).mono ?_⟩
 rintro _ s3 ⟨rfl,d1,rfl,h1⟩
 refine ⟨d1,rfl,(h_p hrt hup r).mono ?_⟩
 rintro _ s4 ⟨rfl,d2,rfl,h2⟩
 generalize c.lockL r=out at *
 refine ⟨d2,rfl,ho.at_.lenK ⟨fun n s=>∃(j:Nat) (l:List Int),n=j∧l.length=out.length∧Own prog noS s t_int d (l.map Go.Fw.encI),fun n _=>out.length - n.toNat,⟨0,out,rfl,rfl,ho⟩,?_⟩⟩
 rintro _ s ⟨j,l,rfl,hl,ol⟩
 rw[List.length_map]
 refine bcd (fun hlt=>?_) (fun _=>?_)
 · have hlt:j < out.length:=by omega
   obtain ⟨q,hq⟩:=a_h (l:=l) (j:=j) (by omega)
   refine ol.at_.idxK (j:=j) c_int rfl (by rw[List.length_map];omega) (ol.put (j:=j) (row:=Go.Fw.encI q) (a_m hq) (by omega) (by simp[Go.Fw.encI]) fun s' ol' hs'=>?_)
   have e1:(l.map Go.Fw.encI).set j (patch (Go.Fw.encI q) 0 [iD (-9)]) =(l.set j (-9)).map Go.Fw.encI:=by rw[List.map_set];rfl
   rw[e1] at ol'
   rw[a_g (by omega)]
   exact ⟨⟨j+1,l.set j (-9),rfl,by rw[List.length_set];exact hl,ol'⟩,o_l hlt⟩
 refine app1 (ns:=Go.Fw.encI (-9)) ol (by rw[List.length_map];omega) (by rw[List.length_map];omega) fun d3 s5 o5 _ _=>?_
 intro R hR
 refine (g_m (h1 s5) (h2 s5)).use ⟨_,rfl,b_g (fun e=>absurd rfl (of_decide_eq_false e)) (fun _=>o5.at_.lenK ((h2 s5).lenK ?_))⟩
 have e1:w64 (((out.map Go.Fw.encI).length:Nat) +1:Int) =((l.map Go.Fw.encI ++ [Go.Fw.encI (-9)]).length:Nat):=by
   rw[a_g (by rw[List.length_map];omega)];simp[hl]
 refine bcn (fun e=>absurd e1.symm e) (fun _=>hR s5 ?_)
 clear R hR
 obtain ⟨rows,hat,hlen,hrow⟩:=r_1 hrt
 have hsz:=(hat noS).size
 refine (hat s5).lenK ⟨fun n s=>∃j:Nat,n=j∧j≤rows.length,fun n _=>rows.length - n.toNat,⟨0,rfl,by omega⟩,?_⟩
 rintro n s ⟨j,rfl,hj⟩
 refine bcd (fun hlt=>?_) (fun _=>rfl)
 obtain ⟨row,hrw⟩:=a_h (l:=rows) (j:=j) (by omega)
 obtain ⟨x,hx⟩:=a_h (l:=c.Rts) (j:=j) (by omega)
 obtain ⟨w1,d4,d5,d6,rfl,q1,q2,q3⟩ :∃(_:RtUp x) (d4 d5 d6:D),row=[iD x.Entry,iD x.Exit,d4,d5,d6, .bool x.Shunt]∧(∀s,At prog s a_i d4 (x.Path.map St.enc))∧(∀s,At prog s a_r d5 (x.Flank.map Nd.enc))∧(∀s,At prog s t_int d6 (x.Overlap.map Go.Fw.encI)):=by
   obtain ⟨d1,d2,d3,e,q⟩:=hrow j row x hrw hx
   exact ⟨hup x (List.mem_of_getElem? hx),d1,d2,d3,e,q⟩
 unfold RtUp at w1
 refine (hat s).load hrw b_h rfl ⟨_,_,_,_,_,_,rfl,?_⟩
 refine a_pg (q1 s) (by rw[List.length_map];omega) fun d7 s6 o7=>?_
 refine app1 (ns:=St.enc ⟨-7,0,0⟩) o7 (by rw[List.length_map];omega) (by rw[List.length_map];omega) fun d8 s7 o8 _ _=>?_
 have cut:∀{τ:Store},At prog τ a_i d8 (x.Path.map St.enc ++ [St.enc ⟨-7,0,0⟩])→At prog τ a_i (e_g d8 0 (Int.toNat ((x.Path.map St.enc).length:Int))) (x.Path.map St.enc):=fun {τ} ha=>by
   have:=ha.sub (lo:=0) (hi:=(x.Path.map St.enc).length) (by omega) (by rw[List.length_append];omega)
   rw[List.drop_zero,Nat.sub_zero,List.take_left' rfl] at this
   rw[Int.toNat_natCast];exact this
 refine (q1 s7).lenK (o8.at_.sliceK (lo:=0) (hi:=(x.Path.map St.enc).length) c_s rfl rfl (by omega) (by rw[List.length_append];omega) ?_)
 refine (v_i hc k (fun τ he=>cut (o8.at_.ext he)) (by omega)).mono ?_
 rintro _ s8 ⟨rfl,d9,rfl,h9⟩
 refine ⟨d9,rfl,(y_e hc k q1 (by omega)).mono ?_⟩
 rintro _ s9 ⟨rfl,d10,rfl,h10⟩
 refine ⟨d10,rfl,(r_f (h9 _) (h10 _)).use ⟨_,rfl,b_g (fun e=>absurd rfl (of_decide_eq_false e)) (fun _=>(t_7 hc x q1).mono ?_)⟩⟩
 rintro _ s10 ⟨rfl,d11,rfl,h11⟩
 refine ⟨d11,rfl,(t_t hc x q1 (by omega)).mono ?_⟩
 rintro _ s11 ⟨rfl,d12,rfl,h12⟩
 refine ⟨d12,rfl,(g_m (h11 _) (h12 _)).use ⟨_,rfl,b_g (fun e=>absurd rfl (of_decide_eq_false e)) (fun _=>?_)⟩⟩
 refine (q1 s11).lenK (o8.at_.sliceK (lo:=0) (hi:=(x.Path.map St.enc).length) c_s rfl rfl (by omega) (by rw[List.length_append];omega) ?_)
 refine (a_a6 (cut o8.at_) (q1 s11)).use ⟨true,rfl,b_g (fun e=>by cases e) (fun _=>?_)⟩
 refine (q1 s11).lenK (o8.at_.load (j:=x.Path.length) (row:=St.enc ⟨-7,0,0⟩) (by rw[List.getElem?_append_right (by simp)];simp) c_s (by rw[List.length_map]) ⟨-7,rfl,bcn (fun e=>absurd rfl e) (fun _=>?_)⟩)
 rw[a_g (by omega)]
 exact ⟨⟨j+1,rfl,by omega⟩,by show rows.length - ((j+1:Nat) :Int).toNat < rows.length - ((j:Nat) :Int).toNat;omega⟩
end Go.Proofs.YtfdffboelecgoaaGreatDoor
end
