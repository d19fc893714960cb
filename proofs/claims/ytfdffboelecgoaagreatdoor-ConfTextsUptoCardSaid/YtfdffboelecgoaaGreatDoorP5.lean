/-
  Proofs that the statement of this claim leans on: part 5.
-/
import Derived.Test.YtfdffboelecgoaaGreatDoorP4
set_option linter.unusedVariables false
set_option linter.unusedSimpArgs false
section
set_option maxRecDepth 20000
namespace Go.Proofs.YtfdffboelecgoaaGreatDoor
open Go.Fw Go.Proofs Go.RowKit
open Go.Proofs.Tryz (prog)
variable {σ σ0:Store} {F:Nat→Prop} {wid:Nat}
theorem c_6 {s:Store}{el el':TypeId}{d d':D}{rs rs':List (List D)}(h:At prog s el d rs)(h':At prog s el' d' rs')(hc:prog.cellsOf el≠prog.cellsOf el') :Apart d d':=fun i h1 h2=>by
 cases d with
 | osl a b c=>
   cases d' with
   | osl a' b' c'=>
     simp only[b_h,Option.some.injEq] at h1 h2
     subst h1 h2
     obtain ⟨t,rows,g1,g2,_⟩:=h.lt_live
     obtain ⟨t',rows',k1,k2,_⟩:=h'.lt_live
     rw[g1] at k1
     injection k1 with k1 _
     exact hc (by rw[←g2,←k2,k1])
   | _=>simp[b_h] at h2
 | _=>simp[b_h] at h1
theorem d_l {s:Store}{el t:TypeId}{d:D}{rs rows:List (List D)}{id:Nat}(h:At prog s el d rs)(h':s id= .live t rows)(hc:prog.cellsOf el≠prog.cellsOf t) :b_h d≠some id:=fun h1=>by
 cases d with
 | osl a b c=>
   simp only[b_h,Option.some.injEq] at h1
   subst h1
   obtain ⟨t',rows',g1,g2,_⟩:=h.lt_live
   rw[h'] at g1
   injection g1 with g1 _
   exact hc (by rw[←g2,←g1])
 | _=>simp[b_h] at h1
theorem r_p {s:Store}{el:TypeId}{bytes:Nat}{d:D}{rs:List (List D)}{ns:List D}{K:D→Store→Prop}(h:Own prog σ0 s el d rs)(hb:bytes * (rs.length+1)≤140737488355328)(hsz:rs.length+1 < 2 ^ 60)
   (hk:∀d' s',Own prog σ0 s' el d' (rs ++ [ns])→(∀i,s i≠ .free→b_h d≠some i→s' i=s i)→(∀i,b_h d'=some i→b_h d=some i∨s i= .free)→K d' s') :
   Fw.newObj s (.live el [ns]) fun id s1=>a_e prog s1 el bytes d (.osl id 0 1) K:=by
 refine a_n fun id s1 hid _ he hs=>?_
 refine (h.ext' he).append (At.fresh hs (by simp) rfl) (by simpa using hb) (by simpa using hsz) fun d' s' h1 h2 h3=>?_
 refine hk d' s' h1 (fun i hi hd=>?_) (fun i hi=>?_)
 · rw[h2 i (by rw[he i hi];exact hi) (fun a b e=>hd (by rw[e];rfl)),he i hi]
 · cases d' with
   | osl a b c=>
     simp only[b_h,Option.some.injEq] at hi
     subst hi
     rcases h3 a b c rfl with g | ⟨a',b',g⟩
     · by_cases hf:s a= .free
       · exact .inr hf
       · rw[he a hf] at g;exact .inr g
     · exact .inl (by rw[g];rfl)
   | _=>simp[b_h] at hi
def Wx (σ0 s:Store)(wid:Nat)(ws:List ByteArray)(bad:Bool) :Prop:=WdIn σ0 s wid ws bad∧∀w ∈ ws,w.size≤281474976710656
theorem v_4 {ws:List ByteArray}(h:∀w ∈ ws,w.size≤281474976710656) :∀w ∈ ws.tail,w.size≤281474976710656:=fun w hw=>h w (List.mem_of_mem_tail hw)
theorem a_mn {ws:List ByteArray}(h:∀w ∈ ws,w.size≤281474976710656) :(ws.headD (a_l [])).size≤281474976710656:=by
 cases ws with
 | nil=>exact Nat.zero_le _
 | cons a l=>exact h a (by simp)
theorem Wx.frame {s s':Store}{ws:List ByteArray}{bad:Bool}(h:Wx σ0 s wid ws bad)(hs:s' wid=s wid)(he:Ext σ0 s') :Wx σ0 s' wid ws bad:=by
 obtain ⟨⟨h1,h2,d,h3,h4⟩,h5⟩:=h
 exact ⟨⟨h1,he,d,hs.trans h3,h4⟩,h5⟩
theorem j_x {s cur:Store}{ws:List ByteArray}{bad:Bool}(h:Wx σ0 cur wid ws bad)(ho:∀i,i≠wid→cur i=s i) :
   DCalls prog a_a [.one (pO wid)] cur fun r s'=>r= .a (iA (a_j (ws,bad)).1)∧Wx σ0 s' wid (a_j (ws,bad)).2.1 (a_j (ws,bad)).2.2∧∀i,i≠wid→s' i=s i:=
 (a_n8 h.1 (a_mn h.2)).mono fun r s' ⟨h1,h2,h3⟩=>⟨h1,⟨h2,v_4 h.2⟩,fun i hi=>(h3 i hi).trans (ho i hi)⟩
theorem v_b {s cur:Store}{ws:List ByteArray}{bad:Bool}(h:Wx σ0 cur wid ws bad)(ho:∀i,i≠wid→cur i=s i) :
   DCalls prog a_6 [.one (pO wid)] cur fun r s'=>r= .a (sA (a_3 (ws,bad)).1)∧Wx σ0 s' wid (a_3 (ws,bad)).2.1 (a_3 (ws,bad)).2.2∧∀i,i≠wid→s' i=s i:=
 (a_hj h.1).mono fun r s' ⟨h1,h2,h3⟩=>⟨h1,⟨h2,v_4 h.2⟩,fun i hi=>(h3 i hi).trans (ho i hi)⟩
structure RtD (σ0:Store) (F:Nat→Prop) (s:Store) (rid:Nat) (x:Rt) (d1 d2 d3:D) :Prop where
 new:σ0 rid= .free
 nf:¬F rid
 fl:∀i,F i→s i≠ .free
 cell:s rid= .live a_z [[iD x.Entry,iD x.Exit,d1,d2,d3, .bool x.Shunt]]
 o1:Own prog σ0 s a_p d1 (x.Path.map St.enc)
 o2:Own prog σ0 s a_2 d2 (x.Flank.map Nd.enc)
 o3:Own prog σ0 s a_f d3 (x.Overlap.map Go.Fw.encI)
 f1:∀i,F i→b_h d1≠some i
 f2:∀i,F i→b_h d2≠some i
 f3:∀i,F i→b_h d3≠some i
theorem b_7 {a b:TypeId}{m n:Nat}(ha:prog.cellsOf a=m)(hb:prog.cellsOf b=n)(h:m≠n) :prog.cellsOf a≠prog.cellsOf b:=by rw[ha,hb];exact h
theorem RtD.away {s s':Store}{rid:Nat}{x:Rt}{d1 d2 d3:D}(h:RtD σ0 F s rid x d1 d2 d3)(hw:F wid)(hn:σ0 wid= .free)(hl:s' wid≠ .free)(ho:∀i,i≠wid→s' i=s i) :RtD σ0 F s' rid x d1 d2 d3 where
 new:=h.new
 nf:=h.nf
 fl i hi:=by
   by_cases e:i=wid
   · rw[e];exact hl
   · rw[ho i e];exact h.fl i hi
 cell:=by rw[ho rid fun e=>h.nf (e ▸ hw)];exact h.cell
 o1:=c_z h.o1 hn (h.f1 wid hw) ho
 o2:=c_z h.o2 hn (h.f2 wid hw) ho
 o3:=c_z h.o3 hn (h.f3 wid hw) ho
 f1:=h.f1
 f2:=h.f2
 f3:=h.f3
theorem Wx.live {s:Store}{ws:List ByteArray}{bad:Bool}(h:Wx σ0 s wid ws bad) :s wid≠ .free:=by
 obtain ⟨⟨_,_,d,h3,_⟩,_⟩:=h
 rw[h3];intro e;cases e
theorem f_p {s s' s2:Store}{el:TypeId}{d e:D}{qs:List (List D)}{oid:Nat}(g:Own prog σ0 s el e qs)(h1:∀i,s i≠ .free→b_h d≠some i→s' i=s i)(ha:Apart e d)(he:Ext σ0 s2)(hs:∀i,i≠oid→s2 i=s' i)(hd:b_h e≠some oid) :
   Own prog σ0 s2 el e qs:=
 ⟨g.at_.same fun i a n h=>by
   have hi:s i≠ .free:=by
     have:=g.at_.rows;subst h
     obtain ⟨t,rows,h1,_⟩:=this
     rw[h1];intro e;cases e
   rw[hs i fun e=>hd (by rw[h,←e];rfl),h1 i hi (ha i (by rw[h];rfl))],he,g.new,g.nsl,g.nz⟩
theorem d_r {s' s2:Store}{oid:Nat}(h:Ext σ0 s')(hn:σ0 oid= .free)(hs:∀i,i≠oid→s2 i=s' i) :Ext σ0 s2:=fun i hi=>by
 rw[hs i fun e=>hi (e ▸ hn)];exact h i hi
theorem RtD.addStep {s:Store}{rid:Nat}{x:Rt}{d1 d2 d3:D}{z:St}{K:Store→Prop}(h:RtD σ0 F s rid x d1 d2 d3)(hl:x.Path.length < 2 ^ 40)
   (hk:∀d' s',RtD σ0 F s' rid { x with Path:=x.Path ++ [z] } d' d2 d3→(∀i,F i→s' i=s i)→K s') :
   Fw.newObj s (.live a_p [St.enc z]) fun id s1=>a_e prog s1 a_p 24 d1 (.osl id 0 1) fun dd s2=>∃(e:D) (i off:Nat),(pO rid= .el e i off)∧a_d [dd] s2 e i (off+2) K:=by
 refine r_p h.o1 (by rw[List.length_map];omega) (by rw[List.length_map];omega) fun d' s2 g1 g2 g3=>⟨_,_,_,rfl,?_⟩
 have hr:s rid≠ .free:=by rw[h.cell];intro e;cases e
 have hr1:b_h d1≠some rid:=d_l h.o1.at_ h.cell (b_7 e_a b_k (by decide))
 have hc:s2 rid= .live a_z [[iD x.Entry,iD x.Exit,d1,d2,d3, .bool x.Shunt]]:=by rw[g2 rid hr hr1];exact h.cell
 refine b_b hc (by simp) fun s3 hs3 ho3=>hk d' s3 ?_ fun i hi=>?_
 · have he:=d_r g1.ext h.new ho3
   have ed:b_h d'≠some rid:=fun e=>by
     rcases g3 rid e with g | g
     · exact hr1 g
     · exact hr g
   have nn:∀i,F i→s3 i=s i:=fun i hi=>by rw[ho3 i fun e=>h.nf (e ▸ hi),g2 i (h.fl i hi) (h.f1 i hi)]
   exact {
     new:=h.new,nf:=h.nf,fl:=fun i hi=>by rw[nn i hi];exact h.fl i hi
     cell:=by rw[hs3];rfl
     o1:=by rw[List.map_append];exact c_z g1 h.new ed ho3
     o2:=f_p h.o2 g2 (c_6 h.o2.at_ h.o1.at_ (b_7 e_t e_a (by decide))) he ho3 (d_l h.o2.at_ h.cell (b_7 e_t b_k (by decide)))
     o3:=f_p h.o3 g2 (c_6 h.o3.at_ h.o1.at_ (b_7 c_int e_a (by decide))) he ho3 (d_l h.o3.at_ h.cell (b_7 c_int b_k (by decide)))
     f1:=fun i hi e=>by
       rcases g3 i e with g | g
       · exact h.f1 i hi g
       · exact h.fl i hi g
     f2:=h.f2,f3:=h.f3 }
 · rw[ho3 i fun e=>h.nf (e ▸ hi),g2 i (h.fl i hi) (h.f1 i hi)]
theorem RtD.addNeed {s:Store}{rid:Nat}{x:Rt}{d1 d2 d3:D}{z:Nd}{K:Store→Prop}(h:RtD σ0 F s rid x d1 d2 d3)(hl:x.Flank.length < 2 ^ 40)
   (hk:∀d' s',RtD σ0 F s' rid { x with Flank:=x.Flank ++ [z] } d1 d' d3→(∀i,F i→s' i=s i)→K s') :
   Fw.newObj s (.live a_2 [Nd.enc z]) fun id s1=>a_e prog s1 a_2 16 d2 (.osl id 0 1) fun dd s2=>∃(e:D) (i off:Nat),(pO rid= .el e i off)∧a_d [dd] s2 e i (off+3) K:=by
 refine r_p h.o2 (by rw[List.length_map];omega) (by rw[List.length_map];omega) fun d' s2 g1 g2 g3=>⟨_,_,_,rfl,?_⟩
 have hr:s rid≠ .free:=by rw[h.cell];intro e;cases e
 have hr1:b_h d2≠some rid:=d_l h.o2.at_ h.cell (b_7 e_t b_k (by decide))
 have hc:s2 rid= .live a_z [[iD x.Entry,iD x.Exit,d1,d2,d3, .bool x.Shunt]]:=by rw[g2 rid hr hr1];exact h.cell
 refine b_b hc (by simp) fun s3 hs3 ho3=>hk d' s3 ?_ fun i hi=>?_
 · have he:=d_r g1.ext h.new ho3
   have ed:b_h d'≠some rid:=fun e=>by
     rcases g3 rid e with g | g
     · exact hr1 g
     · exact hr g
   have nn:∀i,F i→s3 i=s i:=fun i hi=>by rw[ho3 i fun e=>h.nf (e ▸ hi),g2 i (h.fl i hi) (h.f2 i hi)]
   exact {
     new:=h.new,nf:=h.nf,fl:=fun i hi=>by rw[nn i hi];exact h.fl i hi
     cell:=by rw[hs3];rfl
     o1:=f_p h.o1 g2 (c_6 h.o1.at_ h.o2.at_ (b_7 e_a e_t (by decide))) he ho3 (d_l h.o1.at_ h.cell (b_7 e_a b_k (by decide)))
     o2:=by rw[List.map_append];exact c_z g1 h.new ed ho3
     o3:=f_p h.o3 g2 (c_6 h.o3.at_ h.o2.at_ (b_7 c_int e_t (by decide))) he ho3 (d_l h.o3.at_ h.cell (b_7 c_int b_k (by decide)))
     f2:=fun i hi e=>by
       rcases g3 i e with g | g
       · exact h.f2 i hi g
       · exact h.fl i hi g
     f1:=h.f1,f3:=h.f3 }
 · rw[ho3 i fun e=>h.nf (e ▸ hi),g2 i (h.fl i hi) (h.f2 i hi)]
theorem RtD.addOver {s:Store}{rid:Nat}{x:Rt}{d1 d2 d3:D}{z:Int}{K:Store→Prop}(h:RtD σ0 F s rid x d1 d2 d3)(hl:x.Overlap.length < 2 ^ 40)
   (hk:∀d' s',RtD σ0 F s' rid { x with Overlap:=x.Overlap ++ [z] } d1 d2 d'→(∀i,F i→s' i=s i)→K s') :
   Fw.newObj s (.live a_f [Go.Fw.encI z]) fun id s1=>a_e prog s1 a_f 8 d3 (.osl id 0 1) fun dd s2=>∃(e:D) (i off:Nat),(pO rid= .el e i off)∧a_d [dd] s2 e i (off+4) K:=by
 refine r_p h.o3 (by rw[List.length_map];omega) (by rw[List.length_map];omega) fun d' s2 g1 g2 g3=>⟨_,_,_,rfl,?_⟩
 have hr:s rid≠ .free:=by rw[h.cell];intro e;cases e
 have hr1:b_h d3≠some rid:=d_l h.o3.at_ h.cell (b_7 c_int b_k (by decide))
 have hc:s2 rid= .live a_z [[iD x.Entry,iD x.Exit,d1,d2,d3, .bool x.Shunt]]:=by rw[g2 rid hr hr1];exact h.cell
 refine b_b hc (by simp) fun s3 hs3 ho3=>hk d' s3 ?_ fun i hi=>?_
 · have he:=d_r g1.ext h.new ho3
   have ed:b_h d'≠some rid:=fun e=>by
     rcases g3 rid e with g | g
     · exact hr1 g
     · exact hr g
   have nn:∀i,F i→s3 i=s i:=fun i hi=>by rw[ho3 i fun e=>h.nf (e ▸ hi),g2 i (h.fl i hi) (h.f3 i hi)]
   exact {
     new:=h.new,nf:=h.nf,fl:=fun i hi=>by rw[nn i hi];exact h.fl i hi
     cell:=by rw[hs3];rfl
     o1:=f_p h.o1 g2 (c_6 h.o1.at_ h.o3.at_ (b_7 e_a c_int (by decide))) he ho3 (d_l h.o1.at_ h.cell (b_7 e_a b_k (by decide)))
     o2:=f_p h.o2 g2 (c_6 h.o2.at_ h.o3.at_ (b_7 e_t c_int (by decide))) he ho3 (d_l h.o2.at_ h.cell (b_7 e_t b_k (by decide)))
     o3:=by rw[List.map_append];exact c_z g1 h.new ed ho3
     f3:=fun i hi e=>by
       rcases g3 i e with g | g
       · exact h.f3 i hi g
       · exact h.fl i hi g
     f1:=h.f1,f2:=h.f2 }
 · rw[ho3 i fun e=>h.nf (e ▸ hi),g2 i (h.fl i hi) (h.f3 i hi)]
structure RtIn (σ0:Store) (F:Nat→Prop) (s0:Store) (wid rid bid:Nat) (s:Store) (x:Rt) (ws:List ByteArray) :Prop where
 cell:∃d1 d2 d3,RtD σ0 F s rid x d1 d2 d3
 box:s bid= .live e_w [[pO wid]]
 same:∀i,F i→i≠wid→s i=s0 i
 l1:x.Path.length+ws.length < 2 ^ 40
 l2:x.Flank.length+ws.length < 2 ^ 40
 l3:x.Overlap.length+ws.length < 2 ^ 40
section
variable {s0 s:Store} {rid bid:Nat} {x:Rt} {ws:List ByteArray} {bad:Bool}
theorem a_m4 (hw:Wx σ0 s wid ws bad)(hne:ws≠[])(h:RtIn σ0 F s0 wid rid bid s x ws)(hFw:F wid)(hFb:F bid)(hbw:bid≠wid) :
   DCalls prog e_m [.one (pO rid), .one (pO bid)] s fun r s'=>r= .tup []∧Wx σ0 s' wid (b_s x (ws,bad)).2.1 (b_s x (ws,bad)).2.2∧RtIn σ0 F s0 wid rid bid s' (b_s x (ws,bad)).1 (b_s x (ws,bad)).2.1:=by
 obtain ⟨⟨d1,d2,d3,hr⟩,hb,hsm,l1,l2,l3⟩:=h
 have hrw:rid≠wid:=fun e=>hr.nf (e ▸ hFw)
 have hnw:σ0 wid= .free:=hw.1.new
 have hlen:ws.tail.tail.tail.length+1≤ws.length:=by
   cases ws with
   | nil=>exact absurd rfl hne
   | cons a l=>simp only[List.tail_cons,List.length_cons,List.length_tail];omega
 refine m_3 (pO rid) (pO bid) s _ ?_
 have ho:∀i,i≠wid→s i=s i:=fun _ _=>rfl
 repeat' apply And.intro
 all_goals
   repeat (first
     | refine ⟨_,_,_,rfl,_,a_g ((ho _ hrw).trans hr.cell),_,rfl,?_⟩
     | refine ⟨_,_,_,rfl,_,a_g ((ho _ hbw).trans hb),_,rfl,?_⟩
     | refine ⟨_,a_g ((ho _ hrw).trans hr.cell),_,rfl,?_⟩
     | refine ⟨_,a_g ((ho _ hbw).trans hb),_,rfl,?_⟩
     | refine ⟨_,_,_,rfl,?_⟩
     | (refine (j_x hw ho).mono ?_;rintro _ _ ⟨rfl,hw,ho⟩;refine ⟨_,rfl,?_⟩))
 all_goals
   refine (hr.away hFw hnw hw.live ho).addStep (z:=⟨_,_,_⟩) (by omega) fun d' s' k1 k2=>⟨rfl,hw.frame (k2 wid hFw) k1.o1.ext,⟨_,_,_,k1⟩,by rw[k2 bid hFb,ho bid hbw,hb],fun i hi hiw=>by rw[k2 i hi,ho i hiw,hsm i hi hiw],?_,?_,?_⟩
 all_goals
   simp only[b_s,a_j,List.length_append,List.length_cons,List.length_nil]
   omega
theorem a_m6 (hw:Wx σ0 s wid ws bad)(hne:ws≠[])(h:RtIn σ0 F s0 wid rid bid s x ws)(hFw:F wid)(hFb:F bid)(hbw:bid≠wid) :
   DCalls prog e_n [.one (pO rid), .one (pO bid)] s fun r s'=>r= .tup []∧Wx σ0 s' wid (b_u x (ws,bad)).2.1 (b_u x (ws,bad)).2.2∧RtIn σ0 F s0 wid rid bid s' (b_u x (ws,bad)).1 (b_u x (ws,bad)).2.1:=by
 obtain ⟨⟨d1,d2,d3,hr⟩,hb,hsm,l1,l2,l3⟩:=h
 have hrw:rid≠wid:=fun e=>hr.nf (e ▸ hFw)
 have hnw:σ0 wid= .free:=hw.1.new
 have hlen:ws.tail.tail.length+1≤ws.length:=by
   cases ws with
   | nil=>exact absurd rfl hne
   | cons a l=>simp only[List.tail_cons,List.length_cons,List.length_tail];omega
 refine m_5 (pO rid) (pO bid) s _ ?_
 have ho:∀i,i≠wid→s i=s i:=fun _ _=>rfl
 repeat' apply And.intro
 all_goals
   repeat (first
     | refine ⟨_,_,_,rfl,_,a_g ((ho _ hrw).trans hr.cell),_,rfl,?_⟩
     | refine ⟨_,_,_,rfl,_,a_g ((ho _ hbw).trans hb),_,rfl,?_⟩
     | refine ⟨_,a_g ((ho _ hrw).trans hr.cell),_,rfl,?_⟩
     | refine ⟨_,a_g ((ho _ hbw).trans hb),_,rfl,?_⟩
     | refine ⟨_,_,_,rfl,?_⟩
     | (refine (j_x hw ho).mono ?_;rintro _ _ ⟨rfl,hw,ho⟩;refine ⟨_,rfl,?_⟩))
 all_goals
   refine (hr.away hFw hnw hw.live ho).addNeed (z:=⟨_,_⟩) (by omega) fun d' s' k1 k2=>⟨rfl,hw.frame (k2 wid hFw) k1.o1.ext,⟨_,_,_,k1⟩,by rw[k2 bid hFb,ho bid hbw,hb],fun i hi hiw=>by rw[k2 i hi,ho i hiw,hsm i hi hiw],?_,?_,?_⟩
 all_goals
   simp only[b_u,a_j,List.length_append,List.length_cons,List.length_nil]
   omega
theorem a_hc (hw:Wx σ0 s wid ws bad)(hne:ws≠[])(h:RtIn σ0 F s0 wid rid bid s x ws)(hFw:F wid)(hFb:F bid)(hbw:bid≠wid) :
   DCalls prog e_k [.one (pO rid), .one (pO bid)] s fun r s'=>r= .tup []∧Wx σ0 s' wid (b_2 x (ws,bad)).2.1 (b_2 x (ws,bad)).2.2∧RtIn σ0 F s0 wid rid bid s' (b_2 x (ws,bad)).1 (b_2 x (ws,bad)).2.1:=by
 obtain ⟨⟨d1,d2,d3,hr⟩,hb,hsm,l1,l2,l3⟩:=h
 have hrw:rid≠wid:=fun e=>hr.nf (e ▸ hFw)
 have hnw:σ0 wid= .free:=hw.1.new
 have hlen:ws.tail.length+1≤ws.length:=by
   cases ws with
   | nil=>exact absurd rfl hne
   | cons a l=>simp only[List.tail_cons,List.length_cons,List.length_tail];omega
 refine m_w (pO rid) (pO bid) s _ ?_
 have ho:∀i,i≠wid→s i=s i:=fun _ _=>rfl
 repeat' apply And.intro
 all_goals
   repeat (first
     | refine ⟨_,_,_,rfl,_,a_g ((ho _ hrw).trans hr.cell),_,rfl,?_⟩
     | refine ⟨_,_,_,rfl,_,a_g ((ho _ hbw).trans hb),_,rfl,?_⟩
     | refine ⟨_,a_g ((ho _ hrw).trans hr.cell),_,rfl,?_⟩
     | refine ⟨_,a_g ((ho _ hbw).trans hb),_,rfl,?_⟩
     | refine ⟨_,_,_,rfl,?_⟩
     | (refine (j_x hw ho).mono ?_;rintro _ _ ⟨rfl,hw,ho⟩;refine ⟨_,rfl,?_⟩))
 all_goals
   refine (hr.away hFw hnw hw.live ho).addOver (z:=(a_j (ws,bad)).1) (by omega) fun d' s' k1 k2=>⟨rfl,hw.frame (k2 wid hFw) k1.o1.ext,⟨_,_,_,k1⟩,by rw[k2 bid hFb,ho bid hbw,hb],fun i hi hiw=>by rw[k2 i hi,ho i hiw,hsm i hi hiw],?_,?_,?_⟩
 all_goals
   simp only[b_2,a_j,List.length_append,List.length_cons,List.length_nil]
   omega
end
end Go.Proofs.YtfdffboelecgoaaGreatDoor
end
section
set_option maxRecDepth 20000
namespace Go.Proofs.YtfdffboelecgoaaGreatDoor
open Go.Fw Go.Proofs Go.RowKit
open Go.Proofs.Tryz (prog)
variable {σ σ0:Store} {F:Nat→Prop} {wid:Nat}
def v_6 (s:Store)(wid:Nat) :Nat:=match s wid with
 | .live _ [[d,_]]=>dlen d
 | _=>0
theorem Wx.wlen {s:Store}{ws:List ByteArray}{bad:Bool}(h:Wx σ0 s wid ws bad) :v_6 s wid=ws.length:=by
 obtain ⟨⟨_,_,d,h3,h4⟩,_⟩:=h
 unfold v_6
 rw[h3]
 show dlen d=_
 rw[h4.dlen,List.length_map]
theorem s_n {α:Type}{word:List UInt8}{step:α→Ws→α × Ws}(hdec:∀x ws bad,ws≠[]→(step x (ws,bad)).2.1.length < ws.length) :∀(n:Nat) (x:α) (s:Ws),s.1.length≤n→c_v word step n x s=c_v word step s.1.length x s
 | 0,x,s,h=>by rw[Nat.le_zero.1 h]
 | n+1,x,s,h=>by
   cases hl:s.1.length with
   | zero=>
     have e:s.1=[]:=List.length_eq_zero_iff.1 hl
     have:b_a word s=false:=by unfold b_a;rw[e];simp
     show (if b_a word s then _ else (x,s)) =(x,s)
     rw[this];rfl
   | succ m=>
     rw[c_v,c_v]
     split
     · have hne:s.1≠[]:=fun e=>by rw[e] at hl;cases hl
       have hd:=hdec x s.1 s.2 hne
       have hd:(step x s).2.1.length < s.1.length:=hd
       rw[s_n hdec n _ _ (by omega),s_n hdec m _ _ (by omega)]
     · rfl
theorem a_bq {α:Type}{word:ByteArray}{f:FuncId}{caps:List (Bool × List D)}{bs:List A}{step:α→Ws→α × Ws}{J:Store→α→List ByteArray→Prop}{s:Store}{x:α}{ws:List ByteArray}{bad:Bool}(hcap:f_d caps=some bs)
   (hstep:∀s x ws bad,Wx σ0 s wid ws bad→ws≠[]→J s x ws→DCalls prog f bs s fun r s'=>r= .tup []∧Wx σ0 s' wid (step x (ws,bad)).2.1 (step x (ws,bad)).2.2∧J s' (step x (ws,bad)).1 (step x (ws,bad)).2.1)
   (hdec:∀x ws bad,ws≠[]→(step x (ws,bad)).2.1.length < ws.length)
   (haway:∀s s' x ws,J s x ws→s' wid≠ .free→σ0 wid= .free→(∀i,i≠wid→s' i=s i)→J s' x ws.tail) (hw:Wx σ0 s wid ws bad) (hJ:J s x ws) (hwl:ws.length < 2 ^ 40) :
   DCalls prog d_q [.one (pO wid),sA word, .one (.fn f [] caps)] s fun r s'=>r= .tup []∧Wx σ0 s' wid (a_8 word.data.toList step x (ws,bad)).2.1 (a_8 word.data.toList step x (ws,bad)).2.2∧
     J s' (a_8 word.data.toList step x (ws,bad)).1 (a_8 word.data.toList step x (ws,bad)).2.1:=by
 have en:ByteArray.toList (ByteArray.mk (List.toArray [])) =[]:=by rw[Lib.toList_data]
 refine r_r (pO wid) word (.fn f [] caps) s _ ⟨fun s'=>∃x' ws' bad',Wx σ0 s' wid ws' bad'∧J s' x' ws'∧ws'.length < 2 ^ 40∧c_v word.data.toList step ws.length x (ws,bad) =c_v word.data.toList step ws'.length x' (ws',bad'),
   fun s'=>v_6 s' wid,⟨x,ws,bad,hw,hJ,hwl,rfl⟩,?_⟩
 rintro s1 ⟨y,vs,b,h1,h2,hvl,h3⟩
 obtain ⟨hn,he,d,g1,g2⟩:=h1.1
 have g3:=g2.ext he
 have fin:b_a word.data.toList (vs,b) =false→c_v word.data.toList step ws.length x (ws,bad) =(y,(vs,b)):=fun hm=>by
   rw[h3]
   cases hl:vs.length with
   | zero=>rfl
   | succ m=>rw[c_v,hm];rfl
 have stop : b_a word.data.toList (vs, b) = false → a_c (!((ByteArray.toList word) == (ByteArray.toList (ByteArray.mk (List.toArray [])))))
     (DCalls prog a_6 [.one (pO wid)] s1 fun r s2=>∃t,(r= .a (.one (.str t)))∧a_c (!((ByteArray.toList t) ==(ByteArray.toList word)))
       ((a_h (pO wid))∧∃(e:D) (i off:Nat),(pO wid=(.el e i off:D))∧a_d [.bool true] s2 e i (off+1) fun s3=>((RV.tup []=RV.tup [])∧Wx σ0 s3 wid (a_8 word.data.toList step x (ws,bad)).2.1 (a_8 word.data.toList step x (ws,bad)).2.2∧J s3 (a_8 word.data.toList step x (ws,bad)).1 (a_8 word.data.toList step x (ws,bad)).2.1))
       ((a_h (pO wid))∧∃(e:D) (i off:Nat),(pO wid=(.el e i off:D))∧∃row:List D,(Row s2 e i row)∧∃b1:Bool,((List.take 1 (List.drop (off+1) row)) =([.bool b1]:List D))∧(a_h (pO wid))∧∃(e:D) (i off:Nat),(pO wid=(.el e i off:D))∧a_d [.bool b1] s2 e i (off+1) fun s3=>((RV.tup []=RV.tup [])∧Wx σ0 s3 wid (a_8 word.data.toList step x (ws,bad)).2.1 (a_8 word.data.toList step x (ws,bad)).2.2∧J s3 (a_8 word.data.toList step x (ws,bad)).1 (a_8 word.data.toList step x (ws,bad)).2.1)))
     ((RV.tup []=RV.tup [])∧Wx σ0 s1 wid (a_8 word.data.toList step x (ws,bad)).2.1 (a_8 word.data.toList step x (ws,bad)).2.2∧J s1 (a_8 word.data.toList step x (ws,bad)).1 (a_8 word.data.toList step x (ws,bad)).2.1):=by
   intro hm
   have hf:=fin hm
   rw[en,Lib.toList_data]
   unfold a_8
   rw[hf]
   cases hwd:word.data.toList.isEmpty with
   | true=>
     rw[List.isEmpty_iff.1 hwd]
     exact ⟨rfl,h1,h2⟩
   | false=>
     have hb:(word.data.toList == []) =false:=by
       cases hc:word.data.toList with
       | nil=>rw[hc] at hwd;cases hwd
       | cons _ _=>rfl
     rw[hb]
     rw[if_neg Bool.false_ne_true]
     refine (v_b h1 fun _ _=>rfl).mono ?_
     rintro _ s2 ⟨rfl,k1,k2⟩
     refine ⟨_,rfl,?_⟩
     rw[Lib.toList_data]
     obtain ⟨hn2,he2,d2,p1,p2⟩:=k1.1
     have put:∀v:Bool,v=(!((a_3 (vs,b)).1.data.toList == word.data.toList) || (a_3 (vs,b)).2.2)→a_d [.bool v] s2 (.osl wid 0 1) 0 (0+1) fun s3=>((RV.tup []=RV.tup [])∧Wx σ0 s3 wid (a_3 (vs,b)).2.1 (!((a_3 (vs,b)).1.data.toList == word.data.toList) || (a_3 (vs,b)).2.2)∧J s3 y (a_3 (vs,b)).2.1):=fun v hv=>
       b_b p1 (by simp) fun s3 hs ho=>⟨rfl,⟨⟨hn2,i_3 he2 hn2 ho,d2,by rw[hs,←hv];rfl,p2⟩,k1.2⟩,haway s1 s3 y vs h2 (by rw[hs];intro e;cases e) hn fun i hi=>(ho i hi).trans (k2 i hi)⟩
     exact bc (fun e=>⟨trivial,_,_,_,rfl,put true (by rw[e] <;> rfl)⟩) (fun e=>⟨trivial,_,_,_,rfl,_,a_g p1,_,rfl,trivial,_,_,_,rfl,put (a_3 (vs,b)).2.2 (by rw[e] <;> rfl)⟩)
 have go : ∀ w r, vs = w :: r → b = false → b_a word.data.toList (vs, b) = true → ∃ f' : FuncId, ∃ a : List (Bool × (List D)), ∃ b1 : List (Bool × (List D)), ∃ as0' : List A, ∃ bs' : List A, ((.fn f [] caps : D) = (.fn f' a b1 : D)) ∧ ((f_d a) = (Option.some as0')) ∧ ((f_d b1) = (Option.some bs')) ∧
     DCalls prog f' (HAppend.hAppend (HAppend.hAppend as0' []) bs') s1 fun r s2=>(r= .tup [])∧(∃x' ws' bad',Wx σ0 s2 wid ws' bad'∧J s2 x' ws'∧ws'.length < 2 ^ 40∧c_v word.data.toList step ws.length x (ws,bad) =c_v word.data.toList step ws'.length x' (ws',bad'))∧(v_6 s2 wid < v_6 s1 wid):=by
   rintro w r rfl rfl hm
   refine ⟨f,[],caps,[],bs,rfl,rfl,hcap,(hstep s1 y _ _ h1 (by simp) h2).mono ?_⟩
   rintro _ s2 ⟨rfl,k1,k2⟩
   have hd:=hdec y (w::r) false (by simp)
   refine ⟨rfl,⟨_,_,_,k1,k2,by omega,?_⟩,by rw[k1.wlen,h1.wlen];exact hd⟩
   rw[h3,List.length_cons,c_v,if_pos hm]
   exact s_n hdec _ _ _ (by simp only[List.length_cons] at hd;omega)
 refine ⟨trivial,_,_,_,rfl,_,a_g g1,b,rfl,c_g (fun hb=>?_) (fun hb=>stop (by unfold b_a;rw[hb];rfl))⟩
 subst hb
 refine ⟨trivial,_,_,_,rfl,_,a_g g1,d,rfl,g3.lenK ?_⟩
 rw[List.length_map]
 refine bcd (fun hlt=>?_) (fun hge=>stop ?_)
 · cases vs with
   | nil=>simp at hlt
   | cons w r=>
     refine bc (fun e=>?_) (fun e=>?_)
     · rw[en,Lib.toList_data] at e
       exact go w r rfl rfl (by unfold b_a;rw[eq_of_beq e];rfl)
     · rw[en,Lib.toList_data] at e
       refine ⟨trivial,_,_,_,rfl,_,a_g g1,d,rfl,g3.load (n:=0) (j:=0) rfl f_h rfl ⟨w,rfl,c_g (fun e2=>?_) (fun e2=>stop ?_)⟩⟩
       · rw[Lib.toList_data,Lib.toList_data] at e2
         exact go w r rfl rfl (by unfold b_a;simp only[List.headD_cons];rw[e2];simp)
       · rw[Lib.toList_data,Lib.toList_data] at e2
         unfold b_a
         simp only[List.headD_cons]
         rw[e2]
         have:word.data.toList.isEmpty=false:=by
           cases hc:word.data.toList with
           | nil=>rw[hc] at e;cases e
           | cons _ _=>rfl
         rw[this];simp
 · have:vs=[]:=List.length_eq_zero_iff.1 (by omega)
   subst this
   unfold b_a;simp
end Go.Proofs.YtfdffboelecgoaaGreatDoor
end
section
set_option maxRecDepth 20000
namespace Go.Proofs.YtfdffboelecgoaaGreatDoor
open Go.Fw Go.Proofs Go.RowKit
open Go.Proofs.Tryz (prog)
variable {σ σ0:Store} {F:Nat→Prop} {wid:Nat}
theorem a_ie {f:FuncId}(G:List A→Option RV)(h:∀az r s,G az=some r→Pure prog f az s r) :
   a_ag prog f (fun az _=>∃r,G az=some r) (fun az s r s'=>G az=some r∧s'=s):=by
 refine ⟨?_,?_,?_,?_,?_⟩
 · rintro az s ⟨r,hr⟩
   exact (h az r s hr).mono fun r' s' ⟨e1,e2⟩=>⟨by rw[e1];exact hr,e2⟩
 · rintro az s ⟨r,hr⟩ hf
   exact ⟨r,s,⟨hr,rfl⟩,hf⟩
 · rintro az s r s' ⟨_,rfl⟩ hf;exact hf
 · rintro az s id so h0 hso ⟨r,hr⟩
   refine ⟨⟨r,hr⟩,?_⟩
   rintro r' s' ⟨h1,rfl⟩
   exact ⟨s,⟨h1,rfl⟩,h0,rfl⟩
 · rintro az s r s' _ ⟨_,rfl⟩ i hi
   rfl
def a_g4:List A→Option RV
 | [.one (.int .i64 n), .one (.int .i64 lo), .one (.int .i64 hi)]=>some (.a (bA (decide (lo≤n∧n≤hi))))
 | _=>none
theorem a_h9:a_ag prog b_v (fun az _=>∃r,a_g4 az=some r) (fun az s r s'=>a_g4 az=some r∧s'=s):=a_ie a_g4 fun az r s h=>by
 unfold a_g4 at h
 split at h
 · injection h with h;subst h;exact c_n _ _ _
 · cases h
theorem s_i (s:Ws) :(a_j s).2.1.length≤s.1.length:=by show s.1.tail.length≤_;rw[List.length_tail];omega
section
variable {s:Store} {ws:List ByteArray} {bad:Bool}
def f_k (s:Ws) :Ws:=
 let c:=a_j (a_j (a_j s).2).2
 let p:=a_3 c.2
 if c.2.2 || !(decide (0≤c.1) && decide (c.1≤1)) then (c.2.1,true) else (p.2.1,!(p.1.data.toList == [112,97,116,104]))
def a_oh (s:Ws) :Rt:=⟨(a_j s).1,(a_j (a_j s).2).1,[],[],[],(a_j (a_j (a_j s).2).2).1 == 1⟩
theorem a_b4 (s:Ws) :(f_k s).1.length≤s.1.length:=by
 have h1:=s_i s
 have h2:=s_i (a_j s).2
 have h3:=s_i (a_j (a_j s).2).2
 unfold f_k
 simp only
 split
 · simp only;omega
 · show (a_j (a_j (a_j s).2).2).2.1.tail.length≤_
   rw[List.length_tail];omega
theorem RtIn.off {s0 s s':Store}{rid bid:Nat}{x:Rt}{ws:List ByteArray}(h:RtIn σ0 F s0 wid rid bid s x ws)(hFw:F wid)(hbw:bid≠wid)(hl:s' wid≠ .free)(hn:σ0 wid= .free)(ho:∀i,i≠wid→s' i=s i) :RtIn σ0 F s0 wid rid bid s' x ws.tail:=by
 obtain ⟨⟨d1,d2,d3,hr⟩,hb,hs,l1,l2,l3⟩:=h
 have:=List.length_tail (l:=ws)
 exact ⟨⟨d1,d2,d3,hr.away hFw hn hl ho⟩,(ho _ hbw).trans hb,fun i hi hiw=>(ho i hiw).trans (hs i hi hiw),by omega,by omega,by omega⟩
theorem g_f {ws:List ByteArray}(h:ws≠[]) :ws.tail.length < ws.length∧ws.tail.tail.length < ws.length∧ws.tail.tail.tail.length < ws.length:=by
 cases ws with
 | nil=>exact absurd rfl h
 | cons a l=>simp only[List.tail_cons,List.length_cons,List.length_tail];omega
theorem a_e1 (hw:Wx σ0 s wid ws bad)(hwl:ws.length < 2 ^ 39) :
   DCalls prog d_f [.one (pO wid)] s fun r s'=>∃d1 d2 d3 rid bid F,r= .a (rtA d1 d2 d3 (b_p (ws,bad)).1)∧Wx σ0 s' wid (b_p (ws,bad)).2.1 (b_p (ws,bad)).2.2∧RtD σ0 F s' rid (b_p (ws,bad)).1 d1 d2 d3∧
     s rid= .free∧s bid= .free∧s' bid= .live e_w [[pO wid]]∧(∀i,s i≠ .free→F i)∧∀i,s i≠ .free→i≠wid→s' i=s i:=by
 have hnw:=hw.1.new
 refine p_b (pO wid) s _ (a_n fun bid s1 hbid _ he1 hb=>?_)
 have hbw:bid≠wid:=fun e=>hw.live (by rw[←e];exact hbid)
 have hw1:Wx σ0 s1 wid ws bad:=hw.frame (he1 wid hw.live) (hw.1.ext.trans he1)
 have hn0:∀i,s i= .free→σ0 i= .free:=fun i hi=>by
   by_cases h:σ0 i= .free
   · exact h
   · have:=hw.1.ext i h;rw[hi] at this;exact this.symm
 have hn1:∀i,s1 i= .free→σ0 i= .free:=fun i hi=>by
   by_cases h:σ0 i= .free
   · exact h
   · have:=hw1.1.ext i h;rw[hi] at this;exact this.symm
 have hs1:∀i,s1 i= .free→s i= .free:=fun i hi=>by
   by_cases h:s i= .free
   · exact h
   · rw[he1 i h] at hi;exact hi
 intro R hR
 have main:∀rid s3,s3 rid= .live a_z [[iD (a_j (ws,bad)).1,iD (a_j (a_j (ws,bad)).2).1, .nils, .nils, .nils, .bool false]]→Wx σ0 s3 wid (a_j (a_j (ws,bad)).2).2.1 (a_j (a_j (ws,bad)).2).2.2→s1 rid= .free→(∀i,s1 i≠ .free→i≠wid→s3 i=s1 i)→R (pO rid) s3:=by
   intro rid s3 hrid hw3 hfr hG
   have hrw:rid≠wid:=fun e=>hw1.live (by rw[←e];exact hfr)
   have hl1:∀i,s1 i≠ .free→s3 i≠ .free:=fun i hi=>by
     by_cases e:i=wid
     · rw[e];exact hw3.live
     · rw[hG i hi e];exact hi
   have hb3:s3 bid= .live e_w [[pO wid]]:=(hG bid (by rw[hb];intro e;cases e) hbw).trans hb
   refine hR _ s3 ⟨_,a_g hb3,_,rfl,(j_x hw3 fun _ _=>rfl).mono ?_⟩
   rintro _ s4 ⟨rfl,hw4,ho4⟩
   refine ⟨_,rfl,_,_,_,rfl,b_b ((ho4 _ hrw).trans hrid) (by simp) fun s5 hs5 ho5=>?_⟩
   have hw5:Wx σ0 s5 wid (a_j (a_j (a_j (ws,bad)).2).2).2.1 (a_j (a_j (a_j (ws,bad)).2).2).2.2:=hw4.frame (ho5 _ hrw.symm) (d_r hw4.1.ext (hn1 _ hfr) ho5)
   have hG5:∀i,s1 i≠ .free→i≠wid→s5 i=s1 i:=fun i hi hiw=>by
     rw[ho5 i fun e=>hi (by rw[e];exact hfr),ho4 i hiw,hG i hi hiw]
   have hb5:s5 bid= .live e_w [[pO wid]]:=(hG5 bid (by rw[hb];intro e;cases e) hbw).trans hb
   intro R1 hR1
   have body:∀s6,Wx σ0 s6 wid (f_k (ws,bad)).1 (f_k (ws,bad)).2→(∀i,i≠wid→s6 i=s5 i)→R1 s6:=by
     intro s6 hw6 ho6
     have hr6:s6 rid= .live a_z [[iD (a_j (ws,bad)).1,iD (a_j (a_j (ws,bad)).2).1, .nils, .nils, .nils, .bool ((a_j (a_j (a_j (ws,bad)).2).2).1 == 1)]]:=by
       rw[ho6 _ hrw,hs5];rfl
     have hlen:=a_b4 (ws,bad)
     simp only at hlen
     have h6:RtIn σ0 (fun i=>s1 i≠ .free) s1 wid rid bid s6 (a_oh (ws,bad)) (f_k (ws,bad)).1:= {
       cell:=⟨.nils, .nils, .nils,{
         new:=hn1 _ hfr,nf:=fun h=>h hfr
         fl:=fun i hi=>by
           by_cases e:i=wid
           · rw[e];exact hw6.live
           · rw[ho6 i e,hG5 i hi e];exact hi
         cell:=hr6
         o1:= .nil _ hw6.1.ext,o2:= .nil _ hw6.1.ext,o3:= .nil _ hw6.1.ext
         f1:=fun i _ h=>by simp[b_h] at h
         f2:=fun i _ h=>by simp[b_h] at h
         f3:=fun i _ h=>by simp[b_h] at h }⟩
       box:=(ho6 _ hbw).trans hb5
       same:=fun i hi hiw=>(ho6 i hiw).trans (hG5 i hi hiw)
       l1:=by show 0+_ < _;omega
       l2:=by show 0+_ < _;omega
       l3:=by show 0+_ < _;omega }
     have hFw:s1 wid≠ .free:=hw1.live
     have hFb:s1 bid≠ .free:=by rw[hb];intro e;cases e
     have away:∀s s' x ws,RtIn σ0 (fun i=>s1 i≠ .free) s1 wid rid bid s x ws→s' wid≠ .free→σ0 wid= .free→(∀i,i≠wid→s' i=s i)→RtIn σ0 (fun i=>s1 i≠ .free) s1 wid rid bid s' x ws.tail:=fun s s' x ws h hl hn ho=>h.off hFw hbw hl hn ho
     have lim:∀{s:Store} {x:Rt} {ws:List ByteArray},RtIn σ0 (fun i=>s1 i≠ .free) s1 wid rid bid s x ws→ws.length < 2 ^ 40:=fun h=>by have:=h.l1;omega
     refine hR1 s6 ⟨_,a_g h6.box,_,rfl,(a_bq (word:=a_l (wFlank.drop 1)) (step:=b_s) (J:=RtIn σ0 (fun i=>s1 i≠ .free) s1 wid rid bid) rfl (fun s x ws bad a b c=>a_m4 a b c hFw hFb hbw) (fun x ws bad h=>(g_f h).2.2) away hw6 h6 (lim h6)).mono ?_⟩
     rintro _ s7 ⟨rfl,hw7,h7⟩
     refine ⟨rfl,_,a_g h7.box,_,rfl,(a_bq (word:=a_l (wOver.drop 1)) (step:=b_u) (J:=RtIn σ0 (fun i=>s1 i≠ .free) s1 wid rid bid) rfl (fun s x ws bad a b c=>a_m6 a b c hFw hFb hbw) (fun x ws bad h=>(g_f h).2.1) away hw7 h7 (lim h7)).mono ?_⟩
     rintro _ s8 ⟨rfl,hw8,h8⟩
     refine ⟨rfl,_,a_g h8.box,_,rfl,(a_bq (word:=a_l []) (step:=b_2) (J:=RtIn σ0 (fun i=>s1 i≠ .free) s1 wid rid bid) rfl (fun s x ws bad a b c=>a_hc a b c hFw hFb hbw) (fun x ws bad h=>(g_f h).1) away hw8 h8 (lim h8)).mono ?_⟩
     rintro _ s9 ⟨rfl,hw9,h9⟩
     have h9:RtIn σ0 (fun i=>s1 i≠ .free) s1 wid rid bid s9 (b_p (ws,bad)).1 (b_p (ws,bad)).2.1:=h9
     have hw9:Wx σ0 s9 wid (b_p (ws,bad)).2.1 (b_p (ws,bad)).2.2:=hw9
     obtain ⟨⟨d1,d2,d3,hr9⟩,hb9,hs9,_,_,_⟩:=h9
     refine ⟨rfl,_,_,_,rfl,_,a_g hr9.cell,_,_,d1,d2,d3,_,rfl,d1,d2,d3,rid,bid,_,rfl,hw9,hr9,hs1 _ hfr,hbid,hb9,fun i hi=>by rw[he1 i hi];exact hi,fun i hi hiw=>?_⟩
     rw[hs9 i (by rw[he1 i hi];exact hi) hiw,he1 i hi]
   obtain ⟨hn5,_,d5,p5,q5⟩:=hw5.1
   have put:∀s' ws' b' v,Wx σ0 s' wid ws' b'→(∀i,i≠wid→s' i=s5 i)→f_k (ws,bad) =(ws',v)→a_d [.bool v] s' (.osl wid 0 1) 0 (0+1) fun s6=>(([[.int .i64 0, .int .i64 0, .nils, .nils, .nils, .bool false]]:List (List D)) =([[.int .i64 0, .int .i64 0, .nils, .nils, .nils, .bool false]]:List (List D)))∧R1 s6:=by
     intro s' ws' b' v hw' ho' hv
     obtain ⟨hn',he',d',p',q'⟩:=hw'.1
     refine b_b p' (by simp) fun s6 hs6 ho6=>⟨rfl,body s6 ?_ fun i hi=>(ho6 i hi).trans (ho' i hi)⟩
     rw[hv]
     exact ⟨⟨hn',i_3 he' hn' ho6,d',by rw[hs6];rfl,q'⟩,hw'.2⟩
   have ebt:∀n:Int,decide ((0:Int)≤n∧n≤1) =(decide (0≤n) && decide (n≤1)):=fun n=>Bool.decide_and _ _
   refine ⟨⟨_,_,a_h9,_,a_g hb5,_,rfl,_,a_g hb5,_,rfl,trivial,_,_,_,rfl,_,a_g p5,_,rfl,bc (fun e=>⟨trivial,_,_,_,rfl,put _ _ _ true hw5 (fun _ _=>rfl) ?_⟩) (fun e=>⟨⟨_,rfl⟩,?_⟩)⟩,
     ⟨_,a_g hb5,_,rfl,trivial,_,_,_,rfl,_,a_g p5,_,rfl,bc (fun e=>⟨_,a_g hb5,_,rfl,trivial,_,_,_,rfl,put _ _ _ true hw5 (fun _ _=>rfl) ?_⟩) (fun e=>(c_n _ _ _).use ⟨_,rfl,c_g (fun e2=>⟨_,a_g hb5,_,rfl,trivial,_,_,_,rfl,put _ _ _ true hw5 (fun _ _=>rfl) ?_⟩) (fun e2=>⟨_,a_g hb5,_,rfl,(v_b hw5 fun _ _=>rfl).mono ?_⟩)⟩)⟩⟩
   · unfold f_k;simp only;rw[if_pos (by rw[e];rfl)]
   · rintro r1 s' ⟨hr1,rfl⟩
     have hr1:(RV.a (bA (decide ((0:Int)≤(a_j (a_j (a_j (ws,bad)).2).2).1∧(a_j (a_j (a_j (ws,bad)).2).2).1≤1)))) =r1:=by injection hr1
     subst hr1
     refine ⟨_,rfl,c_g (fun e2=>⟨trivial,_,_,_,rfl,put _ _ _ true hw5 (fun _ _=>rfl) ?_⟩) (fun e2=>⟨_,a_g hb5,_,rfl,(v_b hw5 fun _ _=>rfl).mono ?_⟩)⟩
     · rw[ebt] at e2
       unfold f_k;simp only;rw[if_pos (by rw[e2];simp)]
     · rw[ebt] at e2
       rintro _ s7 ⟨rfl,hw7,ho7⟩
       refine ⟨_,rfl,trivial,_,_,_,rfl,put s7 _ _ _ hw7 ho7 ?_⟩
       unfold f_k;simp only;rw[e,e2,Lib.toList_data,Lib.toList_data];rfl
   · unfold f_k;simp only;rw[if_pos (by rw[e];rfl)]
   · rw[ebt] at e2
     unfold f_k;simp only;rw[if_pos (by rw[e2];simp)]
   · rw[ebt] at e2
     rintro _ s7 ⟨rfl,hw7,ho7⟩
     refine ⟨_,rfl,_,a_g ((ho7 _ hbw).trans hb5),_,rfl,trivial,_,_,_,rfl,put s7 _ _ _ hw7 ho7 ?_⟩
     unfold f_k;simp only;rw[e,e2,Lib.toList_data,Lib.toList_data];rfl
 have hG:∀i,s1 i≠ .free→i≠wid→s1 i=s1 i:=fun _ _ _=>rfl
 have hw:=hw1
 have fresh:∀{cur:Store} {rid:Nat},cur rid= .free→cur wid≠ .free→(∀i,s1 i≠ .free→i≠wid→cur i=s1 i)→s1 rid= .free:=fun {cur rid} h1 h2 h3=>by
   by_cases h:s1 rid= .free
   · exact h
   · by_cases e:rid=wid
     · rw[e] at h1;exact absurd h1 h2
     · rw[h3 rid h e] at h1;exact h1
 repeat' apply And.intro
 all_goals
   repeat (first
     | refine ⟨_,a_g hb,_,rfl,?_⟩
     | (refine (j_x hw fun _ _=>rfl).mono ?_
        rintro _ cur ⟨rfl,hw,ho⟩
        have hb:=(ho _ hbw).trans hb
        have hG:∀i,s1 i≠ .free→i≠wid→cur i=s1 i:=fun i hi hiw=>(ho i hiw).trans (hG i hi hiw)
        try have hc:=(ho _ hrw).trans hc
        refine ⟨_,rfl,?_⟩)
     | (refine a_n fun rid cur hid _ he2 hc=>?_
        have hfr:=fresh hid hw.live hG
        have hrw:rid≠wid:=fun e=>hw.live (by rw[←e];exact hid)
        have hb:=(he2 bid (by rw[hb];intro e;cases e)).trans hb
        have hG:∀i,s1 i≠ .free→i≠wid→cur i=s1 i:=fun i hi hiw=>(he2 i (by rw[hG i hi hiw];exact hi)).trans (hG i hi hiw)
        have hw:=hw.frame (he2 wid hw.live) (hw.1.ext.trans he2)))
 all_goals
   exact b_b hc (by simp) fun s3 hs3 ho3=>⟨rfl,main rid s3 (by rw[hs3];rfl) (hw.frame (ho3 _ hrw.symm) (d_r hw.1.ext (hn1 _ hfr) ho3)) hfr fun i hi hiw=>by rw[ho3 i fun e=>hi (by rw[e];exact hfr),hG i hi hiw]⟩
end
end Go.Proofs.YtfdffboelecgoaaGreatDoor
end
section
set_option maxRecDepth 20000
namespace Go.Proofs.YtfdffboelecgoaaGreatDoor
open Go.Fw Go.Proofs Go.RowKit
open Go.Proofs.Tryz (prog)
variable {σ σ0:Store} {F:Nat→Prop} {wid:Nat}
def Sf (d:D) :Prop:=∀(σ:Store) (S:Nat→Prop),Fz prog σ S d d
theorem v_e {es:Nat}{rs:List (List D)}(h:∀row ∈ rs,∀x ∈ row,Sf x) :Sf (.sl es rs):=fun σ S=> .refl fun row hr d hd=>h row hr d hd σ S
theorem j_n {S:Nat→Prop}{s:Store}{el:TypeId}{d:D}{rs:List (List D)}(h:At prog s el d rs)(hid:∀id,b_h d=some id→¬S id)(hf:∀row ∈ rs,∀x ∈ row,Sf x) :
   ∃d',Fz prog s S d d'∧(∀s',At prog s' el d' rs)∧Sf d':=by
 have hr:=h.rows
 cases d <;> simp only[Go.Fw.Rows] at hr <;> try exact hr.elim
 · subst hr;exact ⟨.nils, .nils,fun _=> .nil,fun _ _=> .nils⟩
 · subst hr;exact ⟨.zsl, .zsl,fun _=>⟨rfl,by simp,fun es rows e=>by cases e⟩,fun _ _=> .zsl⟩
 · rename_i es rows
   obtain ⟨rfl,h3⟩:=hr
   exact ⟨_,v_e hf _ _,fun s'=>⟨⟨rfl,h3⟩,h.size,h.es⟩,v_e hf⟩
 · obtain ⟨t,rows,q1,q2,q3,rfl⟩:=hr
   rename_i id i len
   refine ⟨.sl (prog.cellsOf t) ((rows.drop i).take len),?_,fun s'=>⟨⟨rfl, .inr q2⟩,h.size,fun es rows e=>?_⟩,v_e hf⟩
   · have get : ∀ (j : Nat) row', ((rows.drop i).take len)[j]? = some row' → rows[i + j]? = some row' := fun j row' hj => by
       rw[List.getElem?_take] at hj
       split at hj
       · rw[List.getElem?_drop] at hj;exact hj
       · cases hj
     refine .osl id i len t rows _ (hid id rfl) q1 q3 (by simp;omega) (fun j row row' h1 h2=>?_) (fun j row row' m x x' h1 h2 h3 h4=>?_)
     · rw[get j row' h2] at h1;injection h1 with h1;rw[h1]
     · rw[get j row' h2] at h1;injection h1 with h1;subst h1
       rw[h3] at h4;injection h4 with h4;subst h4
       exact hf _ (List.mem_of_getElem? h2) _ (List.mem_of_getElem? h3) _ _
   · injection e with e1 e2
     rw[←e1];exact q2
theorem v_k {d:D}(h:Flat d) :Sf d:=fun _ _=>h.fz
theorem e_9 {α:Type}{f:α→List D}(hf:∀a,∀x ∈ f a,Flat x)(l:List α) :∀row ∈ l.map f,∀x ∈ row,Sf x:=fun row hr x hx=>by
 obtain ⟨a,_,rfl⟩:=List.mem_map.1 hr
 exact v_k (hf a x hx)
theorem a_ht {S:Nat→Prop}{s:Store}{el:TypeId}{d:D}{rs:List (List D)}(h:At prog σ0 el d rs)(hS:∀i,σ0 i≠ .free→S i)(hf:∀row ∈ rs,∀x ∈ row,Sf x) :Fz prog s S d d:=by
 have hr:=h.rows
 cases d <;> simp only[Go.Fw.Rows] at hr <;> try exact hr.elim
 · exact .nils
 · exact .zsl
 · obtain ⟨rfl,h3⟩:=hr
   exact v_e hf _ _
 · obtain ⟨t,rows,q1,_⟩:=hr
   exact .keep _ _ _ (hS _ (by rw[q1];intro e;cases e))
def RtRow (row:List D)(x:Rt) :Prop:=
 ∃d1 d2 d3,row=[iD x.Entry,iD x.Exit,d1,d2,d3, .bool x.Shunt]∧(∀s,At prog s a_p d1 (x.Path.map St.enc))∧(∀s,At prog s a_2 d2 (x.Flank.map Nd.enc))∧(∀s,At prog s a_f d3 (x.Overlap.map Go.Fw.encI))∧Sf d1∧Sf d2∧Sf d3
theorem RtRow.sf {row:List D}{x:Rt}(h:RtRow row x) :∀d ∈ row,Sf d:=by
 obtain ⟨d1,d2,d3,rfl,_,_,_,h1,h2,h3⟩:=h
 intro d hd
 simp only[List.mem_cons,List.not_mem_nil,or_false] at hd
 rcases hd with rfl | rfl | rfl | rfl | rfl | rfl
 · exact v_k (.int _ _)
 · exact v_k (.int _ _)
 · exact h1
 · exact h2
 · exact h3
 · exact v_k (.bool _)
theorem a_gz (a:St) :∀x ∈ St.enc a,Flat x:=fun x hx=>by
 simp only[St.enc,List.mem_cons,List.not_mem_nil,or_false] at hx
 rcases hx with rfl | rfl | rfl <;> exact .int _ _
theorem a_hb (a:Nd) :∀x ∈ Nd.enc a,Flat x:=fun x hx=>by
 simp only[Nd.enc,List.mem_cons,List.not_mem_nil,or_false] at hx
 rcases hx with rfl | rfl <;> exact .int _ _
theorem a_bo (a:Int) :∀x ∈ Go.Fw.encI a,Flat x:=fun x hx=>by
 simp only[Go.Fw.encI,List.mem_cons,List.not_mem_nil,or_false] at hx
 subst hx;exact .int _ _
theorem a_ew {s:Store}{ws:List ByteArray}{bad:Bool}(hw:Wx σ0 s wid ws bad)(hwl:ws.length < 2 ^ 39) :
   DCalls prog d_f [.one (pO wid)] s fun r s'=>∃row,r= .a (.agg row)∧RtRow row (b_p (ws,bad)).1∧Wx σ0 s' wid (b_p (ws,bad)).2.1 (b_p (ws,bad)).2.2∧∀i,i≠wid→s' i=s i:=by
 refine (a_e1 hw hwl).ret ?_
 rintro r s1 ⟨d1,d2,d3,rid,bid,F,rfl,hw1,hr,_,_,_,hF,hs⟩
 have hid:∀d,(∀i,F i→b_h d≠some i)→∀id,b_h d=some id→¬s id≠ .free:=fun d hd id h1 h2=>hd id (hF id h2) h1
 obtain ⟨e1,a1,b1,c1⟩:=j_n (S:=fun i=>s i≠ .free) hr.o1.at_ (hid d1 hr.f1) (e_9 a_gz _)
 obtain ⟨e2,a2,b2,c2⟩:=j_n (S:=fun i=>s i≠ .free) hr.o2.at_ (hid d2 hr.f2) (e_9 a_hb _)
 obtain ⟨e3,a3,b3,c3⟩:=j_n (S:=fun i=>s i≠ .free) hr.o3.at_ (hid d3 hr.f3) (e_9 a_bo _)
 obtain ⟨⟨hn,he,d,hc,hA⟩,hz⟩:=hw1
 have hlw:s wid≠ .free:=hw.live
 have hσ:∀i,σ0 i≠ .free→s i≠ .free:=fun i hi=>by rw[hw.1.ext i hi];exact hi
 have hstr:∀row ∈ ((b_p (ws,bad)).2.1).map c_f,∀x ∈ row,Sf x:=e_9 (fun a x hx=>by
   simp only[c_f,List.mem_cons,List.not_mem_nil,or_false] at hx
   subst hx;exact .str _) _
 refine ⟨.a (.agg [iD (b_p (ws,bad)).1.Entry,iD (b_p (ws,bad)).1.Exit,e1,e2,e3, .bool (b_p (ws,bad)).1.Shunt]),fun i=>match s i with | .free=> .free | _=>s1 i,⟨fun i=>s i≠ .free,fun i hi=>hi,fun i hi=>?_,fun i hi=>?_,?_⟩,_,rfl,⟨e1,e2,e3,rfl,b1,b2,b3,c1,c2,c3⟩,⟨⟨hn,fun i hi=>?_,d,?_,hA⟩,hz⟩,fun i hi=>?_⟩
 · have:s i= .free:=by by_cases h:s i= .free;exact h;exact absurd h hi
   simp only[this]
 · have e : (match s i with | .free => SO.free | _ => s1 i) = s1 i := by
     cases h:s i <;> first | rfl | exact absurd h hi
   show FzO _ _ _ _ _ (match s i with | .free=>SO.free | _=>s1 i)
   rw[e]
   by_cases hiw:i=wid
   · subst hiw
     refine .inr ?_
     rw[hc]
     refine ⟨rfl,rfl,fun j row row' h1 h2=>?_⟩
     rw[h1] at h2;injection h2 with h2;subst h2
     have:row=[d, .bool (b_p (ws,bad)).2.2]:=by
       cases j with
       | zero=>simpa using h1.symm
       | succ j=>simp at h1
     subst this
     exact .cons (a_ht hA hσ hstr) (.cons (.bool _) .nil)
   · exact .inl ⟨rfl,hs i hi hiw⟩
 · refine .cons (.int _ _) (.cons (.int _ _) (.cons a1 (.cons a2 (.cons a3 (.cons (.bool _) .nil)))))
 · have h:=hσ i hi
   show (match s i with | .free=>SO.free | _=>s1 i) =σ0 i
   have e:(match s i with | .free=>SO.free | _=>s1 i) =s1 i:=by
     cases h2:s i <;> first | rfl | exact absurd h2 h
   rw[e];exact he i hi
 · show (match s wid with | .free=>SO.free | _=>s1 wid) =_
   have e:(match s wid with | .free=>SO.free | _=>s1 wid) =s1 wid:=by
     cases h2:s wid <;> first | rfl | exact absurd h2 hlw
   rw[e];exact hc
 · show (match s i with | .free=>SO.free | _=>s1 i) =s i
   cases h2:s i with
   | free=>rfl
   | _=>show s1 i=_;rw[hs i (by rw[h2];intro e;cases e) hi,h2]
structure Lst where
 el:TypeId
 off:Nat
 d:D
 rs:List (List D)
structure ObD (σ0:Store) (F:Nat→Prop) (s:Store) (oid:Nat) (t:TypeId) (row:List D) (ls:List Lst) :Prop where
 new:σ0 oid= .free
 nf:¬F oid
 fl:∀i,F i→s i≠ .free
 cell:s oid= .live t [row]
 own:∀l ∈ ls,Own prog σ0 s l.el l.d l.rs∧(∀i,F i→b_h l.d≠some i)∧prog.cellsOf l.el≠prog.cellsOf t
theorem ObD.away {s s':Store}{oid:Nat}{t:TypeId}{row:List D}{ls:List Lst}(h:ObD σ0 F s oid t row ls)(hw:F wid)(hn:σ0 wid= .free)(hl:s' wid≠ .free)(ho:∀i,i≠wid→s' i=s i) :ObD σ0 F s' oid t row ls where
 new:=h.new
 nf:=h.nf
 fl i hi:=by
   by_cases e:i=wid
   · rw[e];exact hl
   · rw[ho i e];exact h.fl i hi
 cell:=by rw[ho oid fun e=>h.nf (e ▸ hw)];exact h.cell
 own l hl:=⟨c_z (h.own l hl).1 hn ((h.own l hl).2.1 wid hw) ho,(h.own l hl).2⟩
theorem ObD.put {s:Store}{oid off:Nat}{t:TypeId}{row xs:List D}{ls:List Lst}{K:Store→Prop}(h:ObD σ0 F s oid t row ls)(ho:off+xs.length≤row.length)
   (hk:∀s',ObD σ0 F s' oid t (patch row off xs) ls→(∀i,F i→s' i=s i)→K s') :a_d xs s (.osl oid 0 1) 0 off K:=by
 refine b_b h.cell ho fun s' hs' ho'=>hk s' {
   new:=h.new,nf:=h.nf,fl:=fun i hi=>by rw[ho' i fun e=>h.nf (e ▸ hi)];exact h.fl i hi,cell:=hs'
   own:=fun l hl=>⟨c_z (h.own l hl).1 h.new (d_l (h.own l hl).1.at_ h.cell (h.own l hl).2.2) ho',(h.own l hl).2⟩ } fun i hi=>ho' i fun e=>h.nf (e ▸ hi)
theorem ObD.add {s:Store}{oid bytes off:Nat}{t:TypeId}{row ns:List D}{l:Lst}{ls:List Lst}{K:Store→Prop}(h:ObD σ0 F s oid t row (l::ls))(hap:∀m ∈ ls,prog.cellsOf m.el≠prog.cellsOf l.el)(ho:off < row.length)
   (hb:bytes * (l.rs.length+1)≤140737488355328) (hsz:l.rs.length+1 < 2 ^ 60)
   (hk:∀d' s',ObD σ0 F s' oid t (patch row off [d']) ({ l with d:=d',rs:=l.rs ++ [ns] }::ls)→(∀i,F i→s' i=s i)→K s') :
   Fw.newObj s (.live l.el [ns]) fun id s1=>a_e prog s1 l.el bytes l.d (.osl id 0 1) fun dd s2=>(a_h (pO oid))∧∃(e:D) (i o:Nat),(pO oid= .el e i o)∧a_d [dd] s2 e i (o+off) K:=by
 obtain ⟨hl,hf,hc⟩:=h.own l (by simp)
 refine r_p hl hb hsz fun d' s2 g1 g2 g3=>⟨trivial,_,_,_,rfl,?_⟩
 have hr:s oid≠ .free:=by rw[h.cell];intro e;cases e
 have hr1:b_h l.d≠some oid:=d_l hl.at_ h.cell hc
 have hcell:s2 oid= .live t [row]:=by rw[g2 oid hr hr1];exact h.cell
 rw[Nat.zero_add]
 refine b_b hcell (by simp;omega) fun s3 hs3 ho3=>?_
 have he:=d_r g1.ext h.new ho3
 have ed:b_h d'≠some oid:=fun e=>by
   rcases g3 oid e with g | g
   · exact hr1 g
   · exact hr g
 have nn:∀i,F i→s3 i=s i:=fun i hi=>by rw[ho3 i fun e=>h.nf (e ▸ hi),g2 i (h.fl i hi) (hf i hi)]
 refine hk d' s3 { new:=h.new,nf:=h.nf,fl:=fun i hi=>by rw[nn i hi];exact h.fl i hi,cell:=hs3,own:=fun m hm=>?_ } nn
 rcases List.mem_cons.1 hm with rfl | hm
 · exact ⟨c_z g1 h.new ed ho3, fun i hi e => by
     rcases g3 i e with g | g
     · exact hf i hi g
     · exact h.fl i hi g,hc⟩
 · obtain ⟨m1,m2,m3⟩:=h.own m (by simp[hm])
   exact ⟨f_p m1 g2 (c_6 m1.at_ hl.at_ (hap m hm)) he ho3 (d_l m1.at_ h.cell m3),m2,m3⟩
theorem ObD.perm {s:Store}{oid:Nat}{t:TypeId}{row:List D}{ls ls':List Lst}(h:ObD σ0 F s oid t row ls)(hp:∀l ∈ ls',l ∈ ls) :ObD σ0 F s oid t row ls':=
 ⟨h.new,h.nf,h.fl,h.cell,fun l hl=>h.own l (hp l hl)⟩
end Go.Proofs.YtfdffboelecgoaaGreatDoor
end
section
set_option maxRecDepth 20000
namespace Go.Proofs.YtfdffboelecgoaaGreatDoor
open Go.Fw Go.Proofs Go.RowKit
open Go.Proofs.Tryz (prog)
variable {σ σ0:Store} {F:Nat→Prop} {wid cid:Nat}
def h_e (c:Cf)(d0 d1 d2 d3 d4:D) :List D:= [d0,d1,d2,d3,d4,iD c.Age,iD c.Brake,iD c.Hold,iD c.Budget]
def d_h (c:Cf)(d0 d1 d2 d3 d4:D)(rows:List (List D)) :List Lst:=
 [⟨a_u,0,d0,c.Secs.map Sec.enc⟩,⟨b_o,1,d1,c.Jts.map Jt.enc⟩,⟨a_0,2,d2,c.Sigs.map Sg.enc⟩,⟨a_f,3,d3,c.Xs.map Go.Fw.encI⟩,⟨a_z,4,d4,rows⟩]
def RtRows (rows:List (List D))(l:List Rt) :Prop:=rows.length=l.length∧∀(j:Nat) row x,rows[j]? =some row→l[j]? =some x→RtRow row x
structure CfD (σ0:Store) (F:Nat→Prop) (s:Store) (cid:Nat) (c:Cf) (d0 d1 d2 d3 d4:D) (rows:List (List D)) :Prop where
 ob:ObD σ0 F s cid t_Config (h_e c d0 d1 d2 d3 d4) (d_h c d0 d1 d2 d3 d4 rows)
 rts:RtRows rows c.Rts
def r_o (c:Cf)(n:Nat) :Prop:=c.Secs.length≤n∧c.Jts.length≤n∧c.Sigs.length≤n∧c.Xs.length≤n∧c.Rts.length≤n
theorem RtRows.add {rows:List (List D)}{l:List Rt}{row:List D}{x:Rt}(h:RtRows rows l)(hr:RtRow row x) :RtRows (rows ++ [row]) (l ++ [x]):=by
 refine ⟨by rw[List.length_append,List.length_append,h.1];rfl,fun j r y h1 h2=>?_⟩
 by_cases hj:j < rows.length
 · rw[List.getElem?_append_left hj] at h1
   rw[List.getElem?_append_left (by rw[←h.1];exact hj)] at h2
   exact h.2 j r y h1 h2
 · rw[List.getElem?_append_right (by omega)] at h1
   rw[List.getElem?_append_right (by rw[←h.1];omega),←h.1] at h2
   cases hk:j - rows.length with
   | zero=>
     rw[hk] at h1 h2
     injection h1 with h1;injection h2 with h2
     subst h1 h2;exact hr
   | succ k=>rw[hk] at h1;simp at h1
section
variable {s:Store} {c:Cf} {d0 d1 d2 d3 d4:D} {rows:List (List D)}
theorem g_e:∀l ∈ d_h c d0 d1 d2 d3 d4 rows,∀m ∈ d_h c d0 d1 d2 d3 d4 rows,l.off≠m.off→prog.cellsOf l.el≠prog.cellsOf m.el:=by
 intro l hl m hm
 simp only[d_h,List.mem_cons,List.not_mem_nil,or_false] at hl hm
 rcases hl with rfl | rfl | rfl | rfl | rfl <;> rcases hm with rfl | rfl | rfl | rfl | rfl <;> intro h <;>
   first | exact absurd rfl h | exact b_7 b_j c_q (by decide) | exact b_7 b_j b_w (by decide) | exact b_7 b_j c_int (by decide) | exact b_7 b_j b_k (by decide)
         | exact b_7 c_q b_j (by decide) | exact b_7 c_q b_w (by decide) | exact b_7 c_q c_int (by decide) | exact b_7 c_q b_k (by decide)
         | exact b_7 b_w b_j (by decide) | exact b_7 b_w c_q (by decide) | exact b_7 b_w c_int (by decide) | exact b_7 b_w b_k (by decide)
         | exact b_7 c_int b_j (by decide) | exact b_7 c_int c_q (by decide) | exact b_7 c_int b_w (by decide) | exact b_7 c_int b_k (by decide)
         | exact b_7 b_k b_j (by decide) | exact b_7 b_k c_q (by decide) | exact b_7 b_k b_w (by decide) | exact b_7 b_k c_int (by decide)
theorem CfD.addSec (h:CfD σ0 F s cid c d0 d1 d2 d3 d4 rows){z:Sec}{K:Store→Prop}(hl:c.Secs.length < 2 ^ 40)(hk:∀d' s',CfD σ0 F s' cid { c with Secs:=c.Secs ++ [z] } d' d1 d2 d3 d4 rows→(∀i,F i→s' i=s i)→K s') :
   Fw.newObj s (.live a_u [Sec.enc z]) fun id s1=>a_e prog s1 a_u 24 d0 (.osl id 0 1) fun dd s2=>(a_h (pO cid))∧∃(e:D) (i o:Nat),(pO cid= .el e i o)∧a_d [dd] s2 e i (o+0) K:=by
 refine ObD.add (l:=⟨a_u,0,d0,c.Secs.map Sec.enc⟩) (ls:= [⟨b_o,1,d1,c.Jts.map Jt.enc⟩,⟨a_0,2,d2,c.Sigs.map Sg.enc⟩,⟨a_f,3,d3,c.Xs.map Go.Fw.encI⟩,⟨a_z,4,d4,rows⟩]) h.ob
   (fun m hm=>g_e (c:=c) (d0:=d0) (d1:=d1) (d2:=d2) (d3:=d3) (d4:=d4) (rows:=rows) m (by simp only[List.mem_cons,List.not_mem_nil,or_false] at hm;rcases hm with rfl | rfl | rfl | rfl <;> simp[d_h]) _ (by simp[d_h]) (by simp at hm;rcases hm with rfl | rfl | rfl | rfl <;> simp)) (by simp[h_e]) (by rw[List.length_map];omega) (by rw[List.length_map];omega) fun d' s' g1 g2=>hk d' s' ⟨?_,h.rts⟩ g2
 exact g1.perm fun l hl=>by simp only[d_h,List.mem_cons,List.not_mem_nil,or_false] at hl;rcases hl with rfl | rfl | rfl | rfl | rfl <;> simp[d_h]
theorem CfD.addJt (h:CfD σ0 F s cid c d0 d1 d2 d3 d4 rows){z:Jt}{K:Store→Prop}(hl:c.Jts.length < 2 ^ 40)(hk:∀d' s',CfD σ0 F s' cid { c with Jts:=c.Jts ++ [z] } d0 d' d2 d3 d4 rows→(∀i,F i→s' i=s i)→K s') :
   Fw.newObj s (.live b_o [Jt.enc z]) fun id s1=>a_e prog s1 b_o 32 d1 (.osl id 0 1) fun dd s2=>(a_h (pO cid))∧∃(e:D) (i o:Nat),(pO cid= .el e i o)∧a_d [dd] s2 e i (o+1) K:=by
 refine ObD.add (l:=⟨b_o,1,d1,c.Jts.map Jt.enc⟩) (ls:= [⟨a_u,0,d0,c.Secs.map Sec.enc⟩,⟨a_0,2,d2,c.Sigs.map Sg.enc⟩,⟨a_f,3,d3,c.Xs.map Go.Fw.encI⟩,⟨a_z,4,d4,rows⟩]) (h.ob.perm fun l hl=>by simp only[d_h,List.mem_cons,List.not_mem_nil,or_false] at hl;rcases hl with rfl | rfl | rfl | rfl | rfl <;> simp[d_h])
   (fun m hm=>g_e (c:=c) (d0:=d0) (d1:=d1) (d2:=d2) (d3:=d3) (d4:=d4) (rows:=rows) m (by simp only[List.mem_cons,List.not_mem_nil,or_false] at hm;rcases hm with rfl | rfl | rfl | rfl <;> simp[d_h]) _ (by simp[d_h]) (by simp at hm;rcases hm with rfl | rfl | rfl | rfl <;> simp)) (by simp[h_e]) (by rw[List.length_map];omega) (by rw[List.length_map];omega) fun d' s' g1 g2=>hk d' s' ⟨?_,h.rts⟩ g2
 exact g1.perm fun l hl=>by simp only[d_h,List.mem_cons,List.not_mem_nil,or_false] at hl;rcases hl with rfl | rfl | rfl | rfl | rfl <;> simp[d_h]
theorem CfD.addSg (h:CfD σ0 F s cid c d0 d1 d2 d3 d4 rows){z:Sg}{K:Store→Prop}(hl:c.Sigs.length < 2 ^ 40)(hk:∀d' s',CfD σ0 F s' cid { c with Sigs:=c.Sigs ++ [z] } d0 d1 d' d3 d4 rows→(∀i,F i→s' i=s i)→K s') :
   Fw.newObj s (.live a_0 [Sg.enc z]) fun id s1=>a_e prog s1 a_0 16 d2 (.osl id 0 1) fun dd s2=>(a_h (pO cid))∧∃(e:D) (i o:Nat),(pO cid= .el e i o)∧a_d [dd] s2 e i (o+2) K:=by
 refine ObD.add (l:=⟨a_0,2,d2,c.Sigs.map Sg.enc⟩) (ls:= [⟨a_u,0,d0,c.Secs.map Sec.enc⟩,⟨b_o,1,d1,c.Jts.map Jt.enc⟩,⟨a_f,3,d3,c.Xs.map Go.Fw.encI⟩,⟨a_z,4,d4,rows⟩]) (h.ob.perm fun l hl=>by simp only[d_h,List.mem_cons,List.not_mem_nil,or_false] at hl;rcases hl with rfl | rfl | rfl | rfl | rfl <;> simp[d_h])
   (fun m hm=>g_e (c:=c) (d0:=d0) (d1:=d1) (d2:=d2) (d3:=d3) (d4:=d4) (rows:=rows) m (by simp only[List.mem_cons,List.not_mem_nil,or_false] at hm;rcases hm with rfl | rfl | rfl | rfl <;> simp[d_h]) _ (by simp[d_h]) (by simp at hm;rcases hm with rfl | rfl | rfl | rfl <;> simp)) (by simp[h_e]) (by rw[List.length_map];omega) (by rw[List.length_map];omega) fun d' s' g1 g2=>hk d' s' ⟨?_,h.rts⟩ g2
 exact g1.perm fun l hl=>by simp only[d_h,List.mem_cons,List.not_mem_nil,or_false] at hl;rcases hl with rfl | rfl | rfl | rfl | rfl <;> simp[d_h]
theorem CfD.addX (h:CfD σ0 F s cid c d0 d1 d2 d3 d4 rows){z:Int}{K:Store→Prop}(hl:c.Xs.length < 2 ^ 40)(hk:∀d' s',CfD σ0 F s' cid { c with Xs:=c.Xs ++ [z] } d0 d1 d2 d' d4 rows→(∀i,F i→s' i=s i)→K s') :
   Fw.newObj s (.live a_f [Go.Fw.encI z]) fun id s1=>a_e prog s1 a_f 8 d3 (.osl id 0 1) fun dd s2=>(a_h (pO cid))∧∃(e:D) (i o:Nat),(pO cid= .el e i o)∧a_d [dd] s2 e i (o+3) K:=by
 refine ObD.add (l:=⟨a_f,3,d3,c.Xs.map Go.Fw.encI⟩) (ls:= [⟨a_u,0,d0,c.Secs.map Sec.enc⟩,⟨b_o,1,d1,c.Jts.map Jt.enc⟩,⟨a_0,2,d2,c.Sigs.map Sg.enc⟩,⟨a_z,4,d4,rows⟩]) (h.ob.perm fun l hl=>by simp only[d_h,List.mem_cons,List.not_mem_nil,or_false] at hl;rcases hl with rfl | rfl | rfl | rfl | rfl <;> simp[d_h])
   (fun m hm=>g_e (c:=c) (d0:=d0) (d1:=d1) (d2:=d2) (d3:=d3) (d4:=d4) (rows:=rows) m (by simp only[List.mem_cons,List.not_mem_nil,or_false] at hm;rcases hm with rfl | rfl | rfl | rfl <;> simp[d_h]) _ (by simp[d_h]) (by simp at hm;rcases hm with rfl | rfl | rfl | rfl <;> simp)) (by simp[h_e]) (by rw[List.length_map];omega) (by rw[List.length_map];omega) fun d' s' g1 g2=>hk d' s' ⟨?_,h.rts⟩ g2
 exact g1.perm fun l hl=>by simp only[d_h,List.mem_cons,List.not_mem_nil,or_false] at hl;rcases hl with rfl | rfl | rfl | rfl | rfl <;> simp[d_h]
theorem CfD.addRt (h:CfD σ0 F s cid c d0 d1 d2 d3 d4 rows){z:Rt}{row:List D}{K:Store→Prop}(hz:RtRow row z)(hl:c.Rts.length < 2 ^ 40)(hk:∀d' s',CfD σ0 F s' cid { c with Rts:=c.Rts ++ [z] } d0 d1 d2 d3 d' (rows ++ [row])→(∀i,F i→s' i=s i)→K s') :
   Fw.newObj s (.live a_z [row]) fun id s1=>a_e prog s1 a_z 96 d4 (.osl id 0 1) fun dd s2=>(a_h (pO cid))∧∃(e:D) (i o:Nat),(pO cid= .el e i o)∧a_d [dd] s2 e i (o+4) K:=by
 have:=h.rts.1
 refine ObD.add (l:=⟨a_z,4,d4,rows⟩) (ls:= [⟨a_u,0,d0,c.Secs.map Sec.enc⟩,⟨b_o,1,d1,c.Jts.map Jt.enc⟩,⟨a_0,2,d2,c.Sigs.map Sg.enc⟩,⟨a_f,3,d3,c.Xs.map Go.Fw.encI⟩]) (h.ob.perm fun l hl=>by simp only[d_h,List.mem_cons,List.not_mem_nil,or_false] at hl;rcases hl with rfl | rfl | rfl | rfl | rfl <;> simp[d_h])
   (fun m hm=>g_e (c:=c) (d0:=d0) (d1:=d1) (d2:=d2) (d3:=d3) (d4:=d4) (rows:=rows) m (by simp only[List.mem_cons,List.not_mem_nil,or_false] at hm;rcases hm with rfl | rfl | rfl | rfl <;> simp[d_h]) _ (by simp[d_h]) (by simp at hm;rcases hm with rfl | rfl | rfl | rfl <;> simp)) (by simp[h_e]) (by show 96 * (rows.length+1)≤_;omega) (by show rows.length+1 < _;omega) fun d' s' g1 g2=>hk d' s' ⟨?_,h.rts.add hz⟩ g2
 exact g1.perm fun l hl=>by simp only[d_h,List.mem_cons,List.not_mem_nil,or_false] at hl;rcases hl with rfl | rfl | rfl | rfl | rfl <;> simp[d_h]
end
end Go.Proofs.YtfdffboelecgoaaGreatDoor
end
section
set_option maxRecDepth 100000
namespace Go.Proofs.YtfdffboelecgoaaGreatDoor
open Go.Fw Go.Proofs
open Go.Proofs.Tryz (prog)
def a_ab:Ann:= { esc:= [2,3,4,5,22] }
def a_d9 (text:ByteArray)(σ:Store)(Qp:RV→Store→Prop) :Prop:=
 Fw.newObj σ (.live t_Config [[.nils, .nils, .nils, .nils, .nils,iD 0,iD 0,iD 0,iD 0]]) (fun id Z=>Fw.newObj Z (.live l_p [[iD 0]]) (fun id1 Z1=>Fw.newObj Z1 (.live t_Config [[.nils, .nils, .nils, .nils, .nils,iD 0,iD 0,iD 0,iD 0]]) (fun id2 Z2=>Fw.newObj Z2 (.live a_f [[iD 0]]) (fun id3 Z3=>a_d [iD 0] Z3 (.osl id3 0 1) 0 0 (fun Z4=>DCalls prog e_8 [.one (.str text), .one (.str (ByteArray.mk (List.toArray [10])))] Z4 (fun r Z5=>∃s:ByteArray,∃b:Bool,(r=(.tup [.one (.str s),bA b]:RV))∧DCalls prog f_n [.one (.str s), .one (.str (ByteArray.mk (List.toArray [10])))] Z5 (fun r1 Z6=>∃d:D,(r1=(.a (.one d) :RV))∧∃f:FuncId,∃caps:List (Bool × (List D)),∃σd:Store,∃xs:List ByteArray,∃I:Nat→Store→Prop,∃X:Store→Prop,((E.val (.one d)) =(E.val (.one (.fn f [] caps))))∧(a_g0 prog f caps Z6 σd xs)∧(I 0 σd)∧(∀i:Nat,∀s1:ByteArray,∀s0:Store,(NthB xs i s1)→(I i s0)→DCalls prog h_n [.one (.str s1), .one (.str (ByteArray.mk (List.toArray [32])))] s0 (fun r2 Z7=>∃d1:D,(r2=(.a (.one d1) :RV))∧Fw.newObj Z7 (.live r_h [[d1, .bool false]]) (fun id4 Z8=>DCalls prog f_4 [.one (.el (.osl id4 0 1) 0 0), .one (.el (.osl id2 0 1) 0 0)] Z8 (fun r3 Z9=>∃n:Int,(r3=(.a (iA n) :RV))∧∃row:List D,(Row Z9 (.osl id4 0 1) 0 row)∧∃b1:Bool,((List.take 1 (List.drop 1 row)) =([.bool b1]:List D))∧a_c b1 (a_d [.nils, .nils, .nils, .nils, .nils,iD 0,iD 0,iD 0,iD 0] Z9 (.osl id 0 1) 0 0 (fun Z10=>a_d [iD 13] Z10 (.osl id1 0 1) 0 0 (fun Z11=>X Z11))) (∃row1:List D,(Row Z9 (.osl id4 0 1) 0 row1)∧∃d2:D,((List.take 1 row1) =([d2]:List D))∧∃len:Nat,(Len d2 len)∧a_c (decide ((len:Int) > 0)) (a_d [.nils, .nils, .nils, .nils, .nils,iD 0,iD 0,iD 0,iD 0] Z9 (.osl id 0 1) 0 0 (fun Z10=>a_d [iD 13] Z10 (.osl id1 0 1) 0 0 (fun Z11=>X Z11))) (∃row2:List D,(Row Z9 (.osl id3 0 1) 0 row2)∧∃n1:Int,((List.take 1 row2) =([iD n1]:List D))∧a_c (decide (n < n1)) (a_d [.nils, .nils, .nils, .nils, .nils,iD 0,iD 0,iD 0,iD 0] Z9 (.osl id 0 1) 0 0 (fun Z10=>a_d [iD 13] Z10 (.osl id1 0 1) 0 0 (fun Z11=>X Z11))) (∃row3:List D,(Row Z9 (.osl id3 0 1) 0 row3)∧∃n2:Int,((List.take 1 row3) =([iD n2]:List D))∧a_c (n == n2) (a_c (n == 6) (a_d [.nils, .nils, .nils, .nils, .nils,iD 0,iD 0,iD 0,iD 0] Z9 (.osl id 0 1) 0 0 (fun Z10=>a_d [iD 13] Z10 (.osl id1 0 1) 0 0 (fun Z11=>X Z11))) (a_d [iD n] Z9 (.osl id3 0 1) 0 0 (fun Z10=>I (i+1) Z10))) (a_d [iD n] Z9 (.osl id3 0 1) 0 0 (fun Z10=>I (i+1) Z10)))))))))∧(∀s1:Store,(I (List.length xs) s1)→a_c (!b) (a_d [.nils, .nils, .nils, .nils, .nils,iD 0,iD 0,iD 0,iD 0] s1 (.osl id 0 1) 0 0 (fun Z7=>a_d [iD 13] Z7 (.osl id1 0 1) 0 0 (fun Z8=>∃row:List D,(Row Z8 (.osl id 0 1) 0 row)∧∃d1 d2 d3 d4 d5:D,∃n n1 n2 n3:Int,((List.take 9 row) =([d1,d2,d3,d4,d5,iD n,iD n1,iD n2,iD n3]:List D))∧∃row1:List D,(Row Z8 (.osl id1 0 1) 0 row1)∧∃n4:Int,((List.take 1 row1) =([iD n4]:List D))∧Qp (.tup [.agg [d1,d2,d3,d4,d5,iD n,iD n1,iD n2,iD n3],iA n4]) Z8))) (∃row:List D,(Row s1 (.osl id3 0 1) 0 row)∧∃n:Int,((List.take 1 row) =([iD n]:List D))∧a_c (n != 6) (a_d [.nils, .nils, .nils, .nils, .nils,iD 0,iD 0,iD 0,iD 0] s1 (.osl id 0 1) 0 0 (fun Z7=>a_d [iD 13] Z7 (.osl id1 0 1) 0 0 (fun Z8=>∃row1:List D,(Row Z8 (.osl id 0 1) 0 row1)∧∃d1 d2 d3 d4 d5:D,∃n1 n2 n3 n4:Int,((List.take 9 row1) =([d1,d2,d3,d4,d5,iD n1,iD n2,iD n3,iD n4]:List D))∧∃row2:List D,(Row Z8 (.osl id1 0 1) 0 row2)∧∃n5:Int,((List.take 1 row2) =([iD n5]:List D))∧Qp (.tup [.agg [d1,d2,d3,d4,d5,iD n1,iD n2,iD n3,iD n4],iA n5]) Z8))) (∃row1:List D,(Row s1 (.osl id2 0 1) 0 row1)∧∃d1 d2 d3 d4 d5:D,∃n1 n2 n3 n4:Int,((List.take 9 row1) =([d1,d2,d3,d4,d5,iD n1,iD n2,iD n3,iD n4]:List D))∧a_d [d1,d2,d3,d4,d5,iD n1,iD n2,iD n3,iD n4] s1 (.osl id 0 1) 0 0 (fun Z7=>a_d [iD 0] Z7 (.osl id1 0 1) 0 0 (fun Z8=>∃row2:List D,(Row Z8 (.osl id 0 1) 0 row2)∧∃d6 d7 d8 d9 d10:D,∃n5 n6 n7 n8:Int,((List.take 9 row2) =([d6,d7,d8,d9,d10,iD n5,iD n6,iD n7,iD n8]:List D))∧∃row3:List D,(Row Z8 (.osl id1 0 1) 0 row3)∧∃n9:Int,((List.take 1 row3) =([iD n9]:List D))∧Qp (.tup [.agg [d6,d7,d8,d9,d10,iD n5,iD n6,iD n7,iD n8],iA n9]) Z8)))))∧∀s1:Store,(X s1)→∃row:List D,(Row s1 (.osl id 0 1) 0 row)∧∃d1 d2 d3 d4 d5:D,∃n n1 n2 n3:Int,((List.take 9 row) =([d1,d2,d3,d4,d5,iD n,iD n1,iD n2,iD n3]:List D))∧∃row1:List D,(Row s1 (.osl id1 0 1) 0 row1)∧∃n4:Int,((List.take 1 row1) =([iD n4]:List D))∧Qp (.tup [.agg [d1,d2,d3,d4,d5,iD n,iD n1,iD n2,iD n3],iA n4]) s1)))))))
theorem a_eo (text:ByteArray)(σ:Store)(Qp:RV→Store→Prop)(h:a_d9 text σ Qp) :DCalls prog f_v [.one (.str text)] σ Qp:=
 u_y mixed (by kernel_rfl) Tryz.func15 a_ab (Eq.mp (by kernel_rfl) h)
end Go.Proofs.YtfdffboelecgoaaGreatDoor
end
section
set_option maxRecDepth 20000
namespace Go.Proofs.YtfdffboelecgoaaGreatDoor
open Go.Fw Go.Proofs Go.RowKit
open Go.Proofs.Tryz (prog)
variable {σ σ0:Store} {F:Nat→Prop} {wid cid:Nat}
def CfIn (σ0:Store)(F:Nat→Prop)(s:Store)(cid:Nat)(c:Cf) :Prop:=∃d0 d1 d2 d3 d4 rows,CfD σ0 F s cid c d0 d1 d2 d3 d4 rows
theorem CfD.away {s s':Store}{c:Cf}{d0 d1 d2 d3 d4:D}{rows:List (List D)}(h:CfD σ0 F s cid c d0 d1 d2 d3 d4 rows)(hw:F wid)(hn:σ0 wid= .free)(hl:s' wid≠ .free)(ho:∀i,i≠wid→s' i=s i) :CfD σ0 F s' cid c d0 d1 d2 d3 d4 rows:=
 ⟨h.ob.away hw hn hl ho,h.rts⟩
theorem CfD.ext {s:Store}{c:Cf}{d0 d1 d2 d3 d4:D}{rows:List (List D)}(h:CfD σ0 F s cid c d0 d1 d2 d3 d4 rows) :Ext σ0 s:=(h.ob.own ⟨a_u,0,d0,c.Secs.map Sec.enc⟩ (by simp[d_h])).1.ext
def a_ku (σ0:Store)(F:Nat→Prop)(s:Store)(wid cid:Nat)(x:Int × Cf × Ws)(r:RV)(s':Store) :Prop:=
 r= .a (iA x.1)∧Wx σ0 s' wid x.2.2.1 x.2.2.2∧CfIn σ0 F s' cid x.2.1∧∀i,F i→i≠wid→s' i=s i
section
variable {s:Store} {ws:List ByteArray} {bad:Bool} {c:Cf}
theorem a_il (hw:Wx σ0 s wid ws bad)(h:CfIn σ0 F s cid c)(hFw:F wid)(hl:r_o c (2 ^ 39))(hwl:ws.length < 2 ^ 39) :
   DCalls prog f_4 [.one (pO wid), .one (pO cid)] s (a_ku σ0 F s wid cid (b_3 c (ws,bad))):=by
 obtain ⟨d0,d1,d2,d3,d4,rows,h⟩:=h
 obtain ⟨l0,l1,l2,l3,l4⟩:=hl
 have hnw:=hw.1.new
 have hcw:cid≠wid:=fun e=>h.ob.nf (e ▸ hFw)
 refine q_2 (pO wid) (pO cid) s _ ((v_b hw fun _ _=>rfl).mono ?_)
 rintro _ s0 ⟨rfl,hw,ho⟩
 refine ⟨_,rfl,?_⟩
 simp only[Lib.toList_data]
 have h:=h.away hFw hnw hw.live ho
 have hsame:∀i,i≠wid→s0 i=s i:=ho
 have hlen:(a_3 (ws,bad)).2.1.length≤ws.length:=by show ws.tail.length≤_;rw[List.length_tail];omega
 generalize hw0:(a_3 (ws,bad)).1.data.toList=w0
 generalize hwr:(a_3 (ws,bad)).2=wr at *
 have hline : ∀ x, (if w0 = wSec then let x := a_j wr; let y := a_j x.2; let z := a_j y.2; ((1 : Int), { c with Secs := c.Secs ++ [⟨x.1, y.1, z.1⟩] }, z.2)
     else if w0=wJt then let x:=a_j wr;let y:=a_j x.2;let z:=a_j y.2;let u:=a_j z.2; (2,{ c with Jts:=c.Jts ++ [⟨x.1,y.1,z.1,u.1⟩] },u.2)
     else if w0=wSg then let x:=a_j wr;let y:=a_j x.2; (3,{ c with Sigs:=c.Sigs ++ [⟨x.1,y.1⟩] },y.2)
     else if w0=wX then let x:=a_j wr; (4,{ c with Xs:=c.Xs ++ [x.1] },x.2)
     else if w0=wRoute then let x:=b_p wr; (5,{ c with Rts:=c.Rts ++ [x.1] },x.2)
     else if w0=wTim then let x:=a_j wr;let y:=a_j x.2;let z:=a_j y.2;let u:=a_j z.2; (6,{ c with Age:=x.1,Brake:=y.1,Hold:=z.1,Budget:=u.1 },u.2)
     else (0,c,(wr.1,true))) =x→b_3 c (ws,bad) =x:=by
   rintro x rfl
   unfold b_3
   simp only[hw0,hwr]
 have fin:∀{x:Int × Cf × Ws} {s1 s2:Store},b_3 c (ws,bad) =x→Wx σ0 s1 wid x.2.2.1 x.2.2.2→(∀i,i≠wid→s1 i=s0 i)→CfIn σ0 F s2 cid x.2.1→Ext σ0 s2→(∀i,F i→s2 i=s1 i)→a_ku σ0 F s wid cid (b_3 c (ws,bad)) (.a (iA x.1)) s2:=fun hx k1 k2 k3 k4 k5=>by
   rw[hx]
   exact ⟨rfl,k1.frame (k5 wid hFw) k4,k3,fun i hi hiw=>by rw[k5 i hi,k2 i hiw,hsame i hiw]⟩
 have ho:∀i,i≠wid→s0 i=s0 i:=fun _ _=>rfl
 refine bc (fun e=>?_) (fun n1=>bc (fun e=>?_) (fun n2=>bc (fun e=>?_) (fun n3=>bc (fun e=>?_) (fun n4=>bc (fun e=>?_) (fun n5=>bc (fun e=>?_) (fun n6=>?_))))))
 · have hx:=hline _ (if_pos (eq_of_beq e))
   intro R hR
   repeat' apply And.intro
   all_goals
     repeat (first
       | exact trivial
       | refine ⟨_,_,_,rfl,_,a_g ((ho _ hcw).trans h.ob.cell),_,rfl,?_⟩
       | refine ⟨_,a_g ((ho _ hcw).trans h.ob.cell),_,rfl,?_⟩
       | refine ⟨_,_,_,rfl,?_⟩
       | (refine (j_x hw ho).mono ?_;rintro _ _ ⟨rfl,hw,ho⟩;refine ⟨_,rfl,?_⟩))
   all_goals
     refine (h.away hFw hnw hw.live ho).addSec (z:=⟨_,_,_⟩) (by omega) fun d' s' k1 k2=>hR _ (fin hx hw ho ⟨_,_,_,_,_,_,k1⟩ k1.ext k2)
 · have hx:=hline _ ((if_neg (ne_of_beq_false n1)).trans (if_pos (eq_of_beq e)))
   intro R hR
   repeat' apply And.intro
   all_goals
     repeat (first
       | exact trivial
       | refine ⟨_,_,_,rfl,_,a_g ((ho _ hcw).trans h.ob.cell),_,rfl,?_⟩
       | refine ⟨_,a_g ((ho _ hcw).trans h.ob.cell),_,rfl,?_⟩
       | refine ⟨_,_,_,rfl,?_⟩
       | (refine (j_x hw ho).mono ?_;rintro _ _ ⟨rfl,hw,ho⟩;refine ⟨_,rfl,?_⟩))
   all_goals
     refine (h.away hFw hnw hw.live ho).addJt (z:=⟨_,_,_,_⟩) (by omega) fun d' s' k1 k2=>hR _ (fin hx hw ho ⟨_,_,_,_,_,_,k1⟩ k1.ext k2)
 · have hx:=hline _ ((if_neg (ne_of_beq_false n1)).trans ((if_neg (ne_of_beq_false n2)).trans (if_pos (eq_of_beq e))))
   intro R hR
   repeat' apply And.intro
   all_goals
     repeat (first
       | exact trivial
       | refine ⟨_,_,_,rfl,_,a_g ((ho _ hcw).trans h.ob.cell),_,rfl,?_⟩
       | refine ⟨_,a_g ((ho _ hcw).trans h.ob.cell),_,rfl,?_⟩
       | refine ⟨_,_,_,rfl,?_⟩
       | (refine (j_x hw ho).mono ?_;rintro _ _ ⟨rfl,hw,ho⟩;refine ⟨_,rfl,?_⟩))
   all_goals
     refine (h.away hFw hnw hw.live ho).addSg (z:=⟨_,_⟩) (by omega) fun d' s' k1 k2=>hR _ (fin hx hw ho ⟨_,_,_,_,_,_,k1⟩ k1.ext k2)
 · have hx:=hline _ ((if_neg (ne_of_beq_false n1)).trans ((if_neg (ne_of_beq_false n2)).trans ((if_neg (ne_of_beq_false n3)).trans (if_pos (eq_of_beq e)))))
   intro R hR
   repeat' apply And.intro
   all_goals
     repeat (first
       | exact trivial
       | refine ⟨_,_,_,rfl,_,a_g ((ho _ hcw).trans h.ob.cell),_,rfl,?_⟩
       | refine ⟨_,a_g ((ho _ hcw).trans h.ob.cell),_,rfl,?_⟩
       | refine ⟨_,_,_,rfl,?_⟩
       | (refine (j_x hw ho).mono ?_;rintro _ _ ⟨rfl,hw,ho⟩;refine ⟨_,rfl,?_⟩))
   all_goals
     refine (h.away hFw hnw hw.live ho).addX (z:=(a_j wr).1) (by omega) fun d' s' k1 k2=>hR _ (fin hx hw ho ⟨_,_,_,_,_,_,k1⟩ k1.ext k2)
 · have hx:=hline _ ((if_neg (ne_of_beq_false n1)).trans ((if_neg (ne_of_beq_false n2)).trans ((if_neg (ne_of_beq_false n3)).trans ((if_neg (ne_of_beq_false n4)).trans (if_pos (eq_of_beq e))))))
   intro R hR
   refine ⟨⟨trivial,_,_,_,rfl,_,a_g h.ob.cell,_,rfl,(a_ew hw (by omega)).mono ?_⟩,trivial,_,_,_,rfl,(a_ew hw (by omega)).mono ?_⟩
   · rintro _ s1 ⟨row,rfl,hr,hw,ho⟩
     have hr':=hr
     obtain ⟨e1,e2,e3,rfl,_⟩:=hr'
     exact ⟨_,_,_,_,_,_,rfl,(h.away hFw hnw hw.live ho).addRt hr (by omega) fun d' s' k1 k2=>hR _ (fin hx hw ho ⟨_,_,_,_,_,_,k1⟩ k1.ext k2)⟩
   · rintro _ s1 ⟨row,rfl,hr,hw,ho⟩
     have hr':=hr
     obtain ⟨e1,e2,e3,rfl,_⟩:=hr'
     exact ⟨_,_,_,_,_,_,rfl,_,a_g ((ho _ hcw).trans h.ob.cell),_,rfl,(h.away hFw hnw hw.live ho).addRt hr (by omega) fun d' s' k1 k2=>hR _ (fin hx hw ho ⟨_,_,_,_,_,_,k1⟩ k1.ext k2)⟩
 · have hx:=hline _ ((if_neg (ne_of_beq_false n1)).trans ((if_neg (ne_of_beq_false n2)).trans ((if_neg (ne_of_beq_false n3)).trans ((if_neg (ne_of_beq_false n4)).trans ((if_neg (ne_of_beq_false n5)).trans (if_pos (eq_of_beq e)))))))
   repeat (refine (j_x hw ho).mono ?_;rintro _ _ ⟨rfl,hw,ho⟩;refine ⟨_,rfl,?_⟩)
   refine ⟨trivial,_,_,_,rfl,(h.away hFw hnw hw.live ho).ob.put (by simp[h_e]) fun s' k1 k2=>fin hx hw ho ⟨d0,d1,d2,d3,d4,rows,⟨k1,h.rts⟩⟩ (k1.own ⟨a_u,0,d0,c.Secs.map Sec.enc⟩ (by simp[d_h])).1.ext k2⟩
 · have hx:=hline _ ((if_neg (ne_of_beq_false n1)).trans ((if_neg (ne_of_beq_false n2)).trans ((if_neg (ne_of_beq_false n3)).trans ((if_neg (ne_of_beq_false n4)).trans ((if_neg (ne_of_beq_false n5)).trans (if_neg (ne_of_beq_false n6)))))))
   rw[hx]
   obtain ⟨⟨hn',he',d',p',q'⟩,hz⟩:=hw
   refine ⟨trivial,_,_,_,rfl,b_b p' (by simp) fun s6 hs6 ho6=>⟨rfl,⟨⟨hn',i_3 he' hn' ho6,d',by rw[hs6];rfl,q'⟩,hz⟩,⟨d0,d1,d2,d3,d4,rows,h.away hFw hnw (by rw[hs6];intro e;cases e) ho6⟩,fun i hi hiw=>(ho6 i hiw).trans (hsame i hiw)⟩⟩
end
end Go.Proofs.YtfdffboelecgoaaGreatDoor
end
section
set_option maxRecDepth 20000
namespace Go.Proofs.YtfdffboelecgoaaGreatDoor
open Go.Fw Go.Proofs Go.RowKit
open Go.Proofs.Tryz (prog)
variable {σ σ0:Store} {F:Nat→Prop} {wid cid:Nat}
theorem z_h (c:UInt8) :∀l:List UInt8,(b_e c l).length≤l.length+1∧∀w ∈ b_e c l,w.length≤l.length
 | []=>by simp[b_e]
 | x::l=>by
   obtain ⟨h1,h2⟩:=z_h c l
   rw[b_e]
   split
   · refine ⟨by simp only[List.length_cons];omega,fun w hw=>?_⟩
     rcases List.mem_cons.1 hw with rfl | hw
     · simp
     · have:=h2 w hw;simp only[List.length_cons];omega
   · cases hs:b_e c l with
     | nil=>exact absurd hs (k_l c l)
     | cons a t=>
       rw[hs] at h1 h2
       refine ⟨by simp only[List.length_cons,List.tail_cons] at h1 ⊢;omega,fun w hw=>?_⟩
       rcases List.mem_cons.1 hw with rfl | hw
       · have:=h2 a (by simp);simp only[List.headD_cons,List.length_cons];omega
       · have:=h2 w (by simp only[List.tail_cons] at hw;simp[hw]);simp only[List.length_cons];omega
theorem i_g (c:UInt8)(s:ByteArray) :(pieces c s).length≤s.size+1∧∀w ∈ pieces c s,w.size≤s.size:=by
 have hl:s.data.toList.length=s.size:=by simp
 obtain ⟨h1,h2⟩:=z_h c s.data.toList
 rw[hl] at h1 h2
 rw[o_a]
 refine ⟨by rw[List.length_map];exact h1,fun w hw=>?_⟩
 obtain ⟨l,hm,rfl⟩:=List.mem_map.1 hw
 rw[f_t];exact h2 l hm
theorem a_iq (c:UInt8)(s:ByteArray) :(c_x c s).size≤s.size:=by
 unfold c_x
 split
 · rw[ByteArray.size_extract];omega
 · exact Nat.le_refl _
theorem a_ek {s:Store}{el:TypeId}{d:D}{rs:List (List D)}{i:Nat}(h:At prog s el d rs)(hi:b_h d=some i) :s i≠ .free:=by
 cases d with
 | osl a b c=>
   simp only[b_h,Option.some.injEq] at hi
   subst hi
   obtain ⟨t,rows,g1,_⟩:=h.lt_live
   rw[g1];intro e;cases e
 | _=>simp[b_h] at hi
theorem ObD.base {s s2:Store}{oid sid:Nat}{so:SO}{t:TypeId}{row:List D}{ls:List Lst}(h:ObD σ F s oid t row ls)(hs:s sid= .free)(he:Ext (s.set sid so) s2)(hso:so≠ .free)(hw:s wid= .free)(hw2:s2 wid≠ .free)(he0:Ext σ s) :
   ObD (σ.set sid so) (fun i=>i=wid∨F i) s2 oid t row ls where
 new:=by
   have hne:oid≠sid:=fun e=>by rw[←e,h.cell] at hs;cases hs
   rw[Store.set_ne _ _ hne];exact h.new
 nf hx:=by
   rcases hx with rfl | hx
   · rw[h.cell] at hw;cases hw
   · exact h.nf hx
 fl i hi:=by
   rcases hi with rfl | hi
   · exact hw2
   · have h1:=h.fl i hi
     have hne:i≠sid:=fun e=>by rw[e] at h1;exact h1 hs
     rw[he i (by rw[Store.set_ne _ _ hne];exact h1),Store.set_ne _ _ hne];exact h1
 cell:=by
   have hne:oid≠sid:=fun e=>by rw[←e,h.cell] at hs;cases hs
   rw[he oid (by rw[Store.set_ne _ _ hne,h.cell];intro e;cases e),Store.set_ne _ _ hne,h.cell]
 own l hl:=by
   obtain ⟨h1,h2,h3⟩:=h.own l hl
   refine ⟨⟨h1.at_.ext ((Ext.new hs so).trans he),fun i hi=>?_,fun i a n e=>?_,h1.nsl,h1.nz⟩,fun i hi e=>?_,h3⟩
   · by_cases e:i=sid
     · subst e
       rw[he i (by rw[Store.set_same];exact hso),Store.set_same,Store.set_same]
     · rw[Store.set_ne _ _ e] at hi
       have h4:=he0 i hi
       rw[he i (by rw[Store.set_ne _ _ e,h4];exact hi),Store.set_ne _ _ e,h4,Store.set_ne _ _ e]
   · have hne:i≠sid:=fun e2=>a_ek h1.at_ (by rw[e];rfl) (by rw[e2];exact hs)
     rw[Store.set_ne _ _ hne];exact h1.new i a n e
   · rcases hi with rfl | hi
     · exact a_ek h1.at_ e hw
     · exact h2 i hi e
theorem ObD.unbase {s:Store}{oid:Nat}{G:Nat→Prop}{t:TypeId}{row:List D}{ls:List Lst}(h:ObD σ0 F s oid t row ls)(he:Ext σ σ0)(hG:∀i,G i→F i) :ObD σ G s oid t row ls where
 new:=by
   by_cases hf:σ oid= .free
   · exact hf
   · have:=he oid hf;rw[h.new] at this;exact this.symm
 nf hx:=h.nf (hG _ hx)
 fl i hi:=h.fl i (hG i hi)
 cell:=h.cell
 own l hl:=⟨Own.from he (h.own l hl).1,fun i hi=>(h.own l hl).2.1 i (hG i hi),(h.own l hl).2.2⟩
theorem a_f2 (c:Cf)(s:Ws)(n:Nat)(h:r_o c n) :r_o (b_3 c s).2.1 (n+1):=by
 obtain ⟨h1,h2,h3,h4,h5⟩:=h
 unfold b_3
 simp only
 repeat' split
 all_goals
   refine ⟨?_,?_,?_,?_,?_⟩ <;> simp only[List.length_append,List.length_cons,List.length_nil] <;> omega
def zRow:List D:=h_e d_i .nils .nils .nils .nils .nils
theorem a_h7 {text:ByteArray}(ht:text.size≤2 ^ 31) :
   DCalls prog f_v [sA text] σ fun r s'=>∃d0 d1 d2 d3 d4 rows,r= .tup [.agg (h_e ((c_p text).getD d_i) d0 d1 d2 d3 d4),iA (if (c_p text).isSome then 0 else 13)]∧RtRows rows ((c_p text).getD d_i).Rts∧
     Ext σ s'∧∀l ∈ d_h ((c_p text).getD d_i) d0 d1 d2 d3 d4 rows,Own prog σ s' l.el l.d l.rs:=by
 refine a_eo text σ _ (a_n fun id s1 hid1 _ he1 hc1=>a_n fun ie s2 hid2 _ he2 hc2=>a_n fun ic s3 hid3 _ he3 hc3=>a_n fun il s4 hid4 _ he4 hc4=>?_)
 have lv:∀{s:Store} {i:Nat} {t:TypeId} {rows:List (List D)},s i= .live t rows→s i≠ .free:=fun h=>by rw[h];intro e;cases e
 have n12:id≠ie:=fun e=>lv hc1 (by rw[e];exact hid2)
 have c1':=(he2 id (lv hc1)).trans hc1
 have n13:id≠ic:=fun e=>lv c1' (by rw[e];exact hid3)
 have n23:ie≠ic:=fun e=>lv hc2 (by rw[e];exact hid3)
 have c1'':=(he3 id (lv c1')).trans c1'
 have c2':=(he3 ie (lv hc2)).trans hc2
 have n14:id≠il:=fun e=>lv c1'' (by rw[e];exact hid4)
 have n24:ie≠il:=fun e=>lv c2' (by rw[e];exact hid4)
 have n34:ic≠il:=fun e=>lv hc3 (by rw[e];exact hid4)
 have d1:=(he4 id (lv c1'')).trans c1''
 have d2:=(he4 ie (lv c2')).trans c2'
 have d3:=(he4 ic (lv hc3)).trans hc3
 have f1:=hid1
 have f2:σ ie= .free:=by
   by_cases h:σ ie= .free
   · exact h
   · rw[he1 ie h] at hid2;exact hid2
 have f3:σ ic= .free:=by
   by_cases h:σ ic= .free
   · exact h
   · rw[he2 ic (by rw[he1 ic h];exact h),he1 ic h] at hid3;exact hid3
 have f4:σ il= .free:=by
   by_cases h:σ il= .free
   · exact h
   · rw[he3 il (by rw[he2 il (by rw[he1 il h];exact h),he1 il h];exact h),he2 il (by rw[he1 il h];exact h),he1 il h] at hid4;exact hid4
 refine b_b hc4 (by simp) fun s5 hc5 ho5=>(a_bl (by omega)).use ⟨_,_,rfl,(a_be).mono ?_⟩
 have e5:Ext σ s5:=d_r (((he1.trans he2).trans he3).trans he4) f4 ho5
 have d1:=(ho5 id n14).trans d1
 have d2:=(ho5 ie n24).trans d2
 have d3:=(ho5 ic n34).trans d3
 rintro _ s6 ⟨i1,i2,i3,m12,m13,m23,g1,g2,g3,rfl,rfl⟩
 generalize hs6:((s5.set i2 (.live t_string [[.str (c_x 10 text)]])).set i1 (.live t_string [[.str ⟨#[10]⟩]])).set i3 (.live a_f [[.int .i64 0]]) =s6
 have hx1:s6 i1= .live t_string [[.str ⟨#[10]⟩]]:=by rw[←hs6,Store.set_ne _ _ m13,Store.set_same]
 have hx2:s6 i2= .live t_string [[.str (c_x 10 text)]]:=by rw[←hs6,Store.set_ne _ _ m23,Store.set_ne _ _ m12.symm,Store.set_same]
 have hx3:s6 i3= .live a_f [[.int .i64 0]]:=by rw[←hs6,Store.set_same]
 have hcl:=a_iq 10 text
 have done : ∀ s12, c_p text = none → s12 id = .live t_Config [zRow] → s12 ie = .live l_p [[iD 13]] → Ext σ s12 → ∃ row : List D, (Row s12 (.osl id 0 1) 0 row) ∧ ∃ x1 x2 x3 x4 x5 : D, ∃ n n1 n2 n3 : Int, ((List.take 9 row) = ([x1, x2, x3, x4, x5, .int .i64 n, .int .i64 n1, .int .i64 n2, .int .i64 n3] : List D)) ∧
     ∃row1:List D,(Row s12 (.osl ie 0 1) 0 row1)∧∃n4:Int,((List.take 1 row1) =([.int .i64 n4]:List D))∧∃d0 d1 d2 d3 d4 rows,RV.tup [.agg [x1,x2,x3,x4,x5, .int .i64 n, .int .i64 n1, .int .i64 n2, .int .i64 n3], .one (.int .i64 n4)]= .tup [.agg (h_e ((c_p text).getD d_i) d0 d1 d2 d3 d4),iA (if (c_p text).isSome then 0 else 13)]∧
     RtRows rows ((c_p text).getD d_i).Rts∧Ext σ s12∧∀l ∈ d_h ((c_p text).getD d_i) d0 d1 d2 d3 d4 rows,Own prog σ s12 l.el l.d l.rs:=by
   intro s12 hn g1 g2 g3
   refine ⟨_,a_g g1,_,_,_,_,_,_,_,_,_,rfl,_,a_g g2,_,rfl, .nils, .nils, .nils, .nils, .nils,[],by rw[hn];rfl,?_,g3,fun l hl=>?_⟩
   · rw[hn];exact ⟨rfl,fun j row x h _=>by simp at h⟩
   · rw[hn] at hl
     simp only[d_h,List.mem_cons,List.not_mem_nil,or_false] at hl
     rcases hl with rfl | rfl | rfl | rfl | rfl <;> exact .nil _ g3
 refine ⟨_,rfl,_,_,_,_,fun i s=>∃c last,c_4 (pieces 10 (c_x 10 text)) d_i 0=c_4 ((pieces 10 (c_x 10 text)).drop i) c last∧CfIn σ (fun j=>j=id∨j=ie∨j=il) s ic c∧s id= .live t_Config [zRow]∧s ie= .live l_p [[iD 0]]∧s il= .live a_f [[iD last]]∧r_o c i∧Ext σ s,
   fun s=>c_4 (pieces 10 (c_x 10 text)) d_i 0=none∧s id= .live t_Config [zRow]∧s ie= .live l_p [[iD 13]]∧Ext σ s,rfl,a_by hx1 hx2 hx3 m12 m13 m23 (by omega),?_,?_,?_,?_⟩
 · generalize hsd:(((s6.set i1 .dead).set i2 .dead).set i3 .dead) =sd
   have same:∀i,s5 i≠ .free→sd i=s5 i:=fun i hi=>by
     have k1:i≠i1:=fun e=>hi (e ▸ g1)
     have k2:i≠i2:=fun e=>hi (e ▸ g2)
     have k3:i≠i3:=fun e=>hi (e ▸ g3)
     rw[←hsd,←hs6,Store.set_ne _ _ k3,Store.set_ne _ _ k2,Store.set_ne _ _ k1,Store.set_ne _ _ k3,Store.set_ne _ _ k1,Store.set_ne _ _ k2]
   have q1:=(same id (lv d1)).trans d1
   have q2:=(same ie (lv d2)).trans d2
   have q3:=(same ic (lv d3)).trans d3
   have q4:=(same il (lv hc5)).trans hc5
   have qe:Ext σ sd:=e5.trans same
   refine ⟨d_i,0,by rw[List.drop_zero],⟨.nils, .nils, .nils, .nils, .nils,[],⟨⟨f3,fun h=>?_,fun i hi=>?_,q3,fun l hl=>?_⟩,⟨rfl,fun j row x h _=>by simp at h⟩⟩⟩,q1,q2,q4,⟨Nat.le_refl _,Nat.le_refl _,Nat.le_refl _,Nat.le_refl _,Nat.le_refl _⟩,qe⟩
   · rcases h with h | h | h
     · exact n13 h.symm
     · exact n23 h.symm
     · exact n34 h
   · rcases hi with rfl | rfl | rfl
     · exact lv q1
     · exact lv q2
     · exact lv q4
   · simp only[d_h,List.mem_cons,List.not_mem_nil,or_false] at hl
     rcases hl with rfl | rfl | rfl | rfl | rfl
     · exact ⟨.nil _ qe,fun i _ h=>by simp[b_h] at h,b_7 b_j n_y (by decide)⟩
     · exact ⟨.nil _ qe,fun i _ h=>by simp[b_h] at h,b_7 c_q n_y (by decide)⟩
     · exact ⟨.nil _ qe,fun i _ h=>by simp[b_h] at h,b_7 b_w n_y (by decide)⟩
     · exact ⟨.nil _ qe,fun i _ h=>by simp[b_h] at h,b_7 c_int n_y (by decide)⟩
     · exact ⟨.nil _ qe,fun i _ h=>by simp[b_h] at h,b_7 b_k n_y (by decide)⟩
 · rintro i l s7 hl ⟨c,last,hrd,⟨k0,k1,k2,k3,k4,rows,hcf⟩,q1,q2,q4,hlen,qe⟩
   have hl:(pieces 10 (c_x 10 text))[i]? =some l:=hl
   have hpl:=i_g 10 (c_x 10 text)
   have hsz:=hpl.2 l (List.mem_of_getElem? hl)
   have hil:i < (pieces 10 (c_x 10 text)).length:=(List.getElem?_eq_some_iff.1 hl).1
   rw[k_v hl,c_4] at hrd
   refine (a_kc (c:=32) (by omega)).mono ?_
   rintro _ s8 ⟨sid,hsid,rfl,rfl⟩
   refine ⟨_,rfl,a_n fun wid s9 hwid _ he9 hw9=>?_⟩
   have hws:s7 wid= .free:=by
     by_cases e:wid=sid
     · rw[e,Store.set_same] at hwid;cases hwid
     · rwa [Store.set_ne _ _ e] at hwid
   have hwsid:wid≠sid:=fun e=>by rw[e,Store.set_same] at hwid;cases hwid
   have hws0:σ wid= .free:=by
     by_cases h:σ wid= .free
     · exact h
     · rw[qe wid h] at hws;exact hws
   have hs0:σ sid= .free:=by
     by_cases h:σ sid= .free
     · exact h
     · rw[qe sid h] at hsid;exact hsid
   have hob:=hcf.ob.base (wid:=wid) (s2:=s9) hsid he9 (by intro e;cases e) hws (lv hw9) qe
   have hp32:=i_g 32 l
   have hext9:Ext (σ.set sid (.live t_string ((pieces 32 l).map c_f))) s9:=(hob.own ⟨a_u,0,k0,c.Secs.map Sec.enc⟩ (by simp[d_h])).1.ext
   have hwx:Wx (σ.set sid (.live t_string ((pieces 32 l).map c_f))) s9 wid (pieces 32 l) false:=⟨⟨by rw[Store.set_ne _ _ hwsid];exact hws0,hext9,_,hw9,At.fresh (Store.set_same _ _ _) (by rw[List.length_map];omega) (by rw[List.length_map])⟩,fun w hw=>by have:=hp32.2 w hw;omega⟩
   obtain ⟨l0,l1,l2,l3,l4⟩:=hlen
   refine (a_il hwx ⟨k0,k1,k2,k3,k4,rows,⟨hob,hcf.rts⟩⟩ (.inl rfl) ⟨by omega,by omega,by omega,by omega,by omega⟩ (by omega)).mono ?_
   rintro _ s10 ⟨rfl,hw10,hc10,hsame⟩
   have hlen':=a_f2 c (pieces 32 l,false) i ⟨l0,l1,l2,l3,l4⟩
   generalize b_3 c (pieces 32 l,false) =x at *
   have toS:∀{j t r},s7 j= .live t r→(j=id∨j=ie∨j=il)→s10 j= .live t r:=fun {j t r} hj hF=>by
     have hne:j≠sid:=fun e=>lv hj (by rw[e];exact hsid)
     have hnw:j≠wid:=fun e=>lv hj (by rw[e];exact hws)
     rw[hsame j (.inr hF) hnw,he9 j (by rw[Store.set_ne _ _ hne];exact lv hj),Store.set_ne _ _ hne,hj]
   have p1:=toS q1 (.inl rfl)
   have p2:=toS q2 (.inr (.inl rfl))
   have p4:=toS q4 (.inr (.inr rfl))
   obtain ⟨hn,he,dw,hcw,hAw⟩:=hw10.1
   have e10:Ext σ s10:=(Ext.new hs0 _).trans he
   have fail : c_4 (pieces 10 (c_x 10 text)) d_i 0 = none → a_d [.nils, .nils, .nils, .nils, .nils, .int .i64 0, .int .i64 0, .int .i64 0, .int .i64 0] s10 (.osl id 0 1) 0 0 fun s11 => a_d [.int .i64 13] s11 (.osl ie 0 1) 0 0 fun s12 =>
       c_4 (pieces 10 (c_x 10 text)) d_i 0=none∧s12 id= .live t_Config [zRow]∧s12 ie= .live l_p [[iD 13]]∧Ext σ s12:=fun hnone=>
     b_b p1 (by simp[zRow,h_e]) fun s11 hs11 ho11=>b_b ((ho11 ie n12.symm).trans p2) (by simp) fun s12 hs12 ho12=>⟨hnone,by rw[ho12 id n12,hs11];rfl,by rw[hs12];rfl,d_r (d_r e10 f1 ho11) f2 ho12⟩
   have cont : c_4 (pieces 10 (c_x 10 text)) d_i 0 = c_4 ((pieces 10 (c_x 10 text)).drop (i + 1)) x.2.1 x.1 → a_d [.int .i64 x.1] s10 (.osl il 0 1) 0 0 fun s11 =>
       ∃c last,c_4 (pieces 10 (c_x 10 text)) d_i 0=c_4 ((pieces 10 (c_x 10 text)).drop (i+1)) c last∧CfIn σ (fun j=>j=id∨j=ie∨j=il) s11 ic c∧s11 id= .live t_Config [zRow]∧s11 ie= .live l_p [[iD 0]]∧s11 il= .live a_f [[iD last]]∧r_o c (i+1)∧Ext σ s11:=fun hgo=>
     b_b p4 (by simp) fun s11 hs11 ho11=>by
       obtain ⟨r0,r1,r2,r3,r4,rows',hcf'⟩:=hc10
       refine ⟨x.2.1,x.1,hgo,⟨r0,r1,r2,r3,r4,rows',⟨(hcf'.ob.unbase (Ext.new hs0 _) (G:=fun j=>j=id∨j=ie∨j=il) fun i hi=> .inr hi).away (wid:=il) (.inr (.inr rfl)) f4 (by rw[hs11];intro e;cases e) ho11,hcf'.rts⟩⟩,(ho11 id n14).trans p1,(ho11 ie n24).trans p2,by rw[hs11];rfl,hlen',d_r e10 f4 ho11⟩
   refine ⟨_,rfl,_,a_g hcw,_,rfl,bc (fun e=>fail ?_) (fun eb=>⟨_,a_g hcw,_,rfl,(hAw.ext he).lenK ?_⟩)⟩
   · rw[hrd,e];rfl
   rw[List.length_map]
   refine bcd (fun hgt=>fail ?_) (fun hle=>⟨_,a_g p4,_,rfl,bcd (fun hlt=>fail ?_) (fun hnlt=>⟨_,a_g p4,_,rfl,bce (fun h1=>bce (fun h2=>fail ?_) (fun h2=>cont ?_)) (fun h1=>cont ?_)⟩)⟩)
   · have : x.2.2.1.isEmpty = false := by
       cases hh:x.2.2.1 with
       | nil=>rw[hh] at hgt;simp at hgt
       | cons _ _=>rfl
     rw[hrd,eb,this];rfl
   all_goals
     have hem:x.2.2.1.isEmpty=true:=by
       rw[List.isEmpty_iff];exact List.length_eq_zero_iff.1 (by omega)
     rw[hrd]
     simp only[eb,hem,Bool.not_true,Bool.false_or]
   · rw[decide_eq_true hlt];rfl
   · rw[decide_eq_false hnlt,h1,beq_self_eq_true,←h1,h2];rfl
   · rw[decide_eq_false hnlt,beq_eq_false_iff_ne.2 h2,Bool.and_false];rfl
   · rw[decide_eq_false hnlt,beq_eq_false_iff_ne.2 h1];rfl
 · rintro s7 ⟨c,last,hrd,hcf,q1,q2,q4,hlen,qe⟩
   rw[List.drop_length] at hrd
   have hrd:c_4 (pieces 10 (c_x 10 text)) d_i 0=some (c,last):=hrd
   have hrt:c_p text=if s_9 10 text && last == 6 then some c else none:=by unfold c_p;rw[hrd]
   refine c_g (fun eb=>?_) (fun eb=>⟨_,a_g q4,_,rfl,bcn (fun n6=>?_) (fun n6=>?_)⟩)
   · exact b_b q1 (by simp[zRow,h_e]) fun s11 hs11 ho11=>b_b ((ho11 ie n12.symm).trans q2) (by simp) fun s12 hs12 ho12=>done s12 (by rw[hrt,eb];rfl) (by rw[ho12 id n12,hs11];rfl) (by rw[hs12];rfl) (d_r (d_r qe f1 ho11) f2 ho12)
   · exact b_b q1 (by simp[zRow,h_e]) fun s11 hs11 ho11=>b_b ((ho11 ie n12.symm).trans q2) (by simp) fun s12 hs12 ho12=>done s12 (by rw[hrt,beq_eq_false_iff_ne.2 n6,Bool.and_false];rfl) (by rw[ho12 id n12,hs11];rfl) (by rw[hs12];rfl) (d_r (d_r qe f1 ho11) f2 ho12)
   · obtain ⟨k0,k1,k2,k3,k4,rows,hcf⟩:=hcf
     have hsome:c_p text=some c:=by rw[hrt,eb,n6];rfl
     have nid:∀l ∈ d_h c k0 k1 k2 k3 k4 rows,b_h l.d≠some id∧b_h l.d≠some ie:=fun l hl=>⟨(hcf.ob.own l hl).2.1 id (.inl rfl),(hcf.ob.own l hl).2.1 ie (.inr (.inl rfl))⟩
     refine ⟨_,a_g hcf.ob.cell,_,_,_,_,_,_,_,_,_,rfl,b_b q1 (by simp[zRow,h_e]) fun s11 hs11 ho11=>b_b ((ho11 ie n12.symm).trans q2) (by simp) fun s12 hs12 ho12=>?_⟩
     have g1:s12 id= .live t_Config [h_e c k0 k1 k2 k3 k4]:=by rw[ho12 id n12,hs11];rfl
     have g2:s12 ie= .live l_p [[iD 0]]:=by rw[hs12];rfl
     refine ⟨_,a_g g1,_,_,_,_,_,_,_,_,_,rfl,_,a_g g2,_,rfl,k0,k1,k2,k3,k4,rows,?_,?_,d_r (d_r qe f1 ho11) f2 ho12,?_⟩
     · rw[hsome];rfl
     · rw[hsome];exact hcf.rts
     · rw[hsome]
       exact fun l hl=>c_z (c_z (hcf.ob.own l hl).1 f1 (nid l hl).1 ho11) f2 (nid l hl).2 ho12
 · rintro s7 ⟨hnone,q1,q2,qe⟩
   exact done s7 (by unfold c_p;rw[hnone]) q1 q2 qe
theorem l_s {text:ByteArray}(ht:text.size≤2 ^ 31) :
   DCalls prog f_v [sA text] σ fun r s'=>s'=σ∧∃c0 c1 c2 c3 c4,r= .tup [cfA c0 c1 c2 c3 c4 ((c_p text).getD d_i),iA (if (c_p text).isSome then 0 else 13)]∧∀s,CfAt s c0 c1 c2 c3 c4 ((c_p text).getD d_i):=by
 refine (a_h7 ht).ret ?_
 rintro r s1 ⟨d0,d1,d2,d3,d4,rows,rfl,hr,he,hown⟩
 generalize (c_p text).getD d_i=c at *
 have fz:∀l ∈ d_h c d0 d1 d2 d3 d4 rows,(∀row ∈ l.rs,∀x ∈ row,Sf x)→∃d',Fz prog s1 (fun i=>σ i≠ .free) l.d d'∧(∀s',At prog s' l.el d' l.rs)∧Sf d':=fun l hl hf=>
   j_n (hown l hl).at_ (fun id hi hn=>hn (a_bc (hown l hl) hi)) hf
 obtain ⟨e0,a0,b0,_⟩:=fz ⟨a_u,0,d0,c.Secs.map Sec.enc⟩ (by simp[d_h]) (e_9 (fun a x hx=>by
   simp only[Sec.enc,List.mem_cons,List.not_mem_nil,or_false] at hx;rcases hx with rfl | rfl | rfl <;> exact .int _ _) _)
 obtain ⟨e1,a1,b1,_⟩:=fz ⟨b_o,1,d1,c.Jts.map Jt.enc⟩ (by simp[d_h]) (e_9 (fun a x hx=>by
   simp only[Jt.enc,List.mem_cons,List.not_mem_nil,or_false] at hx;rcases hx with rfl | rfl | rfl | rfl <;> exact .int _ _) _)
 obtain ⟨e2,a2,b2,_⟩:=fz ⟨a_0,2,d2,c.Sigs.map Sg.enc⟩ (by simp[d_h]) (e_9 (fun a x hx=>by
   simp only[Sg.enc,List.mem_cons,List.not_mem_nil,or_false] at hx;rcases hx with rfl | rfl <;> exact .int _ _) _)
 obtain ⟨e3,a3,b3,_⟩:=fz ⟨a_f,3,d3,c.Xs.map Go.Fw.encI⟩ (by simp[d_h]) (e_9 a_bo _)
 obtain ⟨e4,a4,b4,_⟩:=fz ⟨a_z,4,d4,rows⟩ (by simp[d_h]) (fun row hrow=>by
   obtain ⟨j,hj⟩:=List.getElem?_of_mem hrow
   obtain ⟨x,hx⟩:=a_r (l:=c.Rts) (j:=j) (by rw[←hr.1];exact (List.getElem?_eq_some_iff.1 hj).1)
   exact (hr.2 j row x hj hx).sf)
 refine ⟨.tup [cfA e0 e1 e2 e3 e4 c,iA (if (c_p text).isSome then 0 else 13)],σ, .pure he ⟨rfl,fun i x y h1 h2=>?_⟩,rfl,e0,e1,e2,e3,e4,rfl,fun s=>⟨b0 s,b1 s,b2 s,b3 s,rows,b4 s,hr.1,fun i row x h1 h2=>?_⟩⟩
 · match i,h1,h2 with
   | 0,h1,h2=>
     injection h1 with h1;injection h2 with h2;subst h1 h2
     exact .cons a0 (.cons a1 (.cons a2 (.cons a3 (.cons a4 (.cons (.int _ _) (.cons (.int _ _) (.cons (.int _ _) (.cons (.int _ _) .nil))))))))
   | 1,h1,h2=>
     injection h1 with h1;injection h2 with h2;subst h1 h2
     exact .int _ _
   | i+2,h1,h2=>simp at h1
 · obtain ⟨x1,x2,x3,rfl,y1,y2,y3,_⟩:=hr.2 i row x h1 h2
   exact ⟨x1,x2,x3,rfl,y1 s,y2 s,y3 s⟩
end Go.Proofs.YtfdffboelecgoaaGreatDoor
end
section
set_option maxRecDepth 20000
namespace Go.Proofs.YtfdffboelecgoaaGreatDoor
open Go.Fw Go.Proofs Go.RowKit
open Go.Proofs.Tryz (prog)
variable {σ σ0:Store} {tid:Nat}
theorem a_gm {c:UInt8}{L:List UInt8}{a b:Nat}(hab:a≤b)(hb:L[b]? =some c)(hn:∀k,a≤k→k < b→L[k]?≠some c) :b_e c (L.drop a) =(L.drop a).take (b - a) ::b_e c (L.drop (b+1)):=by
 have hl:=(List.getElem?_eq_some_iff.1 hb).1
 have e:L.drop a=(L.drop a).take (b - a) ++ c::L.drop (b+1):=by
   have h1:(L.drop a).drop (b - a) =c::L.drop (b+1):=by
     rw[List.drop_drop,show a+ (b - a) =b by omega];exact k_v hb
   rw[←h1,List.take_append_drop]
 have hnot:c ∉ (L.drop a).take (b - a):=fun hm=>by
   obtain ⟨k,hk⟩:=List.getElem?_of_mem hm
   rw[List.getElem?_take] at hk
   split at hk
   · rename_i hlt
     rw[List.getElem?_drop] at hk
     exact hn (a+k) (by omega) (by omega) hk
   · cases hk
 have h2:=l_h (r:=L.drop (b+1)) hnot
 rw[←e] at h2
 exact h2
theorem r_x {s:ByteArray}{c:UInt8}(hs:s.size≤2 ^ 31) :DCalls prog j_s [sA s, .one (.int .u8 c.toNat)] σ fun r s'=>∃d,r= .a (.one d)∧Own prog σ s' t_string d ((pieces c s).map c_f):=by
 have hsz:s.data.toList.length=s.size:=by simp
 have toPc:∀(done:List ByteArray),done.map (·.data.toList) =b_e c s.data.toList→done=pieces c s:=fun done h=>by
   rw[o_a,←h,List.map_map]
   have:(a_l ∘ fun x:ByteArray=>x.data.toList) =id:=funext f_u
   rw[this,List.map_id]
 refine a_el s c.toNat σ _ ⟨fun d n n1 s'=>∃(done:List ByteArray) (a b:Nat),n=a∧n1=b∧a≤b∧b≤s.size∧done.length≤a∧Own prog σ s' t_string d (done.map c_f)∧b_e c s.data.toList=done.map (·.data.toList) ++ b_e c (s.data.toList.drop a)∧∀k,a≤k→k < b→s.data.toList[k]?≠some c,
   fun _ _ n1 _=>s.size - n1.toNat,⟨[],0,0,rfl,rfl,Nat.le_refl _,by omega,Nat.le_refl _, .nil _ (.refl _),rfl,fun k h1 h2=>by omega⟩,?_⟩
 rintro d n n1 s1 ⟨done,a,b,rfl,rfl,hab,hb,hdl,ho,hsp,hno⟩
 refine bcd (fun hlt=>?_) (fun hge=>?_)
 · obtain ⟨x,hx⟩:=a_r (l:=s.data.toList) (j:=b) (by omega)
   refine ⟨x.toNat,⟨by omega,⟨x,by rw[Int.toNat_natCast];exact hx,rfl⟩⟩,bce (fun e=>?_) (fun e=>?_)⟩
   · have hxc:x=c:=UInt8.toNat_inj.1 (by omega)
     subst hxc
     refine ⟨by omega,by omega,by omega,r_p (ns:=c_f (s.extract a b)) ho (by rw[List.length_map];omega) (by rw[List.length_map];omega) fun d' s' h1 h2 h3=>⟨⟨done ++ [s.extract a b],b+1,b+1,by rw[a_m (by omega)],by rw[a_m (by omega)],Nat.le_refl _,by omega,by simp;omega,by rw[List.map_append];exact h1,?_,fun k h1 h2=>by omega⟩,?_⟩⟩
     · rw[hsp,a_gm hab hx hno,List.map_append,List.append_assoc]
       have:(s.extract a b).data.toList=(s.data.toList.drop a).take (b - a):=by rw[Lib.extract_data]
       simp[this]
     · rw[a_m (by omega)];show s.size - ((b+1:Nat) :Int).toNat < s.size - ((b:Nat) :Int).toNat;omega
   · have hne:x≠c:=fun h=>e (by rw[h])
     refine ⟨⟨done,a,b+1,rfl,by rw[a_m (by omega)],by omega,by omega,hdl,ho,hsp,fun k h1 h2=>?_⟩,?_⟩
     · by_cases hk:k=b
       · subst hk;rw[hx];intro h;injection h with h;exact hne h
       · exact hno k h1 (by omega)
     · rw[a_m (by omega)];show s.size - ((b+1:Nat) :Int).toNat < s.size - ((b:Nat) :Int).toNat;omega
 · have hbe:b=s.size:=by omega
   subst hbe
   refine ⟨by omega,by omega,r_p (ns:=c_f (s.extract a s.size)) ho (by rw[List.length_map];omega) (by rw[List.length_map];omega) fun d' s' h1 h2 h3=>⟨d',rfl,?_⟩⟩
   have hnot:c ∉ s.data.toList.drop a:=fun hm=>by
     obtain ⟨k,hk⟩:=List.getElem?_of_mem hm
     rw[List.getElem?_drop] at hk
     have:=(List.getElem?_eq_some_iff.1 hk).1
     exact hno (a+k) (by omega) (by omega) hk
   have e1:done ++ [s.extract a s.size]=pieces c s:=toPc _ (by
     rw[hsp,l_f hnot,List.map_append]
     have:(s.extract a s.size).data.toList=s.data.toList.drop a:=by
       rw[Lib.extract_data,List.take_of_length_le (by rw[List.length_drop,hsz];exact Nat.le_refl _)]
     rw[List.map_cons,List.map_nil,this])
   rw[←e1,List.map_append];exact h1
structure TkX (σ0 s:Store) (tid:Nat) (ws:List ByteArray) :Prop where
 new:σ0 tid= .free
 ext:Ext σ0 s
 cell:∃d,s tid= .live l_r [[d]]∧At prog σ0 t_string d (ws.map c_f)
 small:∀w ∈ ws,w.size≤281474976710656
theorem TkX.live {s:Store}{ws:List ByteArray}(h:TkX σ0 s tid ws) :s tid≠ .free:=by
 obtain ⟨d,h1,_⟩:=h.cell
 rw[h1];intro e;cases e
theorem TkX.store {cur s s':Store}{ws:List ByteArray}{d:D}(h:TkX σ0 cur tid ws)(hd:At prog σ0 t_string d (ws.tail.map c_f))(ho:∀i,i≠tid→cur i=s i)(hs:s' tid= .live l_r [[d]])(ho':∀i,i≠tid→s' i=cur i) :
   TkX σ0 s' tid ws.tail∧∀i,i≠tid→s' i=s i:=
 ⟨⟨h.new,i_3 h.ext h.new ho',⟨d,hs,hd⟩,v_4 h.small⟩,fun i hi=>(ho' i hi).trans (ho i hi)⟩
theorem a_ar {s:Store}{w:ByteArray}{ws:List ByteArray}{d:D}(h:At prog s t_string d ((w::ws).map c_f)) :At prog s t_string (k_p d 1 ((w::ws).map c_f).length) (ws.map c_f):=by
 have hA:=h.sub (lo:=1) (hi:=((w::ws).map c_f).length) (by simp) (Nat.le_refl _)
 have e2:((((w::ws).map c_f).drop 1).take (((w::ws).map c_f).length - 1)) =ws.map c_f:=by
   rw[List.take_of_length_le (by simp)];rfl
 rw[e2] at hA
 exact hA
theorem a_w {s cur:Store}{ws:List ByteArray}(h:TkX σ0 cur tid ws)(ho:∀i,i≠tid→cur i=s i) :
   DCalls prog a_i [.one (pO tid)] cur fun r s'=>r= .a (iA (rrN ws))∧TkX σ0 s' tid ws.tail∧∀i,i≠tid→s' i=s i:=by
 obtain ⟨d,h1,h2⟩:=h.cell
 have h3:=h2.ext h.ext
 refine s_3 (pO tid) cur _ ⟨trivial,_,_,_,rfl,_,a_g h1,d,rfl,h3.lenK (bce (fun e=>?_) (fun e=>?_))⟩
 · have:ws=[]:=List.length_eq_zero_iff.1 (by rw[List.length_map] at e;omega)
   subst this
   exact ⟨rfl,h,ho⟩
 · cases ws with
   | nil=>exact absurd rfl e
   | cons w ws=>
     refine ⟨trivial,_,_,_,rfl,_,a_g h1,d,rfl,h3.load (n:=0) (j:=0) rfl f_h rfl ⟨w,rfl,(a_hy (h.small w (by simp))).use ⟨_,_,rfl,trivial,_,_,_,rfl,_,a_g h1,d,rfl,h3.sliceFromK (lo:=1) f_h rfl (by simp) ⟨trivial,_,_,_,rfl,b_b h1 (by simp) fun s' hs ho'=>⟨rfl,h.store (a_ar h2) ho hs ho'⟩⟩⟩⟩⟩
theorem r_e {cur:Store}{ws:List ByteArray}{word:ByteArray}(hw:word.data.toList.isEmpty=false)(h:TkX σ0 cur tid ws) :
   Fw.Pure prog e_h [.one (pO tid),sA word] cur (.a (bA (b_a word.data.toList (ws,false)))):=by
 obtain ⟨d,h1,h2⟩:=h.cell
 have h3:=h2.ext h.ext
 refine r_0 (pO tid) word cur _ ⟨trivial,_,_,_,rfl,_,a_g h1,d,rfl,h3.lenK (bcd (fun e=>?_) (fun e=>?_))⟩
 · cases ws with
   | nil=>simp at e
   | cons w ws=>
     refine ⟨trivial,_,_,_,rfl,_,a_g h1,d,rfl,h3.load (n:=0) (j:=0) rfl f_h rfl ⟨w,rfl,?_,rfl⟩⟩
     rw[Lib.toList_data,Lib.toList_data]
     unfold b_a
     simp[hw]
 · have:ws=[]:=List.length_eq_zero_iff.1 (by rw[List.length_map] at e;omega)
   subst this
   refine ⟨?_,rfl⟩
   unfold b_a;simp
theorem l_k {s cur:Store}{ws:List ByteArray}(h:TkX σ0 cur tid ws)(ho:∀i,i≠tid→cur i=s i) :
   DCalls prog d_o [.one (pO tid)] cur fun r s'=>r= .tup []∧TkX σ0 s' tid ws.tail∧∀i,i≠tid→s' i=s i:=by
 obtain ⟨d,h1,h2⟩:=h.cell
 have h3:=h2.ext h.ext
 refine q_6 (pO tid) cur _ ⟨trivial,_,_,_,rfl,_,a_g h1,d,rfl,h3.lenK (bcd (fun e=>?_) (fun e=>?_))⟩
 · cases ws with
   | nil=>simp at e
   | cons w ws=>
     refine ⟨trivial,_,_,_,rfl,_,a_g h1,d,rfl,h3.sliceFromK (lo:=1) f_h rfl (by simp) ⟨trivial,_,_,_,rfl,b_b h1 (by simp) fun s' hs ho'=>⟨rfl,h.store (a_ar h2) ho hs ho'⟩⟩⟩
 · have:ws=[]:=List.length_eq_zero_iff.1 (by rw[List.length_map] at e;omega)
   subst this
   exact ⟨rfl,h,ho⟩
end Go.Proofs.YtfdffboelecgoaaGreatDoor
end
section
set_option maxRecDepth 20000
namespace Go.Proofs.YtfdffboelecgoaaGreatDoor
open Go.Fw Go.Proofs Go.RowKit
open Go.Proofs.Tryz (prog)
variable {σ σ0:Store} {tid:Nat} {F:Nat→Prop}
theorem t_j {α:Type}{word:List UInt8}{step:α→Ws→α × Ws}(hdec:∀x ws bad,ws≠[]→(step x (ws,bad)).2.1.length < ws.length) :∀(n:Nat) (x:α) (ws:List ByteArray),ws.length≤n→b_l word step n x ws=b_l word step ws.length x ws
 | 0,x,ws,h=>by rw[Nat.le_zero.1 h]
 | n+1,x,ws,h=>by
   cases hl:ws.length with
   | zero=>
     have e:ws=[]:=List.length_eq_zero_iff.1 hl
     have:b_a word (ws,false) =false:=by unfold b_a;rw[e];simp
     show (if b_a word (ws,false) then _ else (x,ws)) =(x,ws)
     rw[this];rfl
   | succ m=>
     rw[b_l,b_l]
     split
     · have hne:ws≠[]:=fun e=>by rw[e] at hl;cases hl
       have hd:=hdec x ws false hne
       rw[t_j hdec n _ _ (by omega),t_j hdec m _ _ (by omega)]
     · rfl
theorem s_t {α:Type}{word:List UInt8}{step:α→Ws→α × Ws}(hdec:∀x ws bad,ws≠[]→(step x (ws,bad)).2.1.length < ws.length){x:α}{ws:List ByteArray}(hm:b_a word (ws,false) =true) :
   b_l word step ws.length x ws=b_l word step (step x (ws,false)).2.1.length (step x (ws,false)).1 (step x (ws,false)).2.1:=by
 cases ws with
 | nil=>unfold b_a at hm;simp at hm
 | cons w ws=>
   have hd:=hdec x (w::ws) false (by simp)
   rw[List.length_cons,b_l,if_pos hm]
   exact t_j hdec _ _ _ (by simp only[List.length_cons] at hd;omega)
theorem t_n {α:Type}{word:List UInt8}{step:α→Ws→α × Ws}{x:α}{ws:List ByteArray}(hm:b_a word (ws,false) =false) :b_l word step ws.length x ws=(x,ws):=by
 cases ws with
 | nil=>rfl
 | cons w ws=>rw[List.length_cons,b_l,hm];rfl
def tlen (s:Store)(tid:Nat) :Nat:=match s tid with
 | .live _ [[d]]=>dlen d
 | _=>0
theorem TkX.tlen {s:Store}{ws:List ByteArray}(h:TkX σ0 s tid ws) :tlen s tid=ws.length:=by
 obtain ⟨d,h3,h4⟩:=h.cell
 show (match s tid with | .live _ [[d]]=>dlen d | _=>0) =_
 rw[h3]
 show dlen d=_
 rw[h4.dlen,List.length_map]
structure L3 (σ0:Store) (F:Nat→Prop) (s:Store) (x:Rt) (d1 d2 d3:D) :Prop where
 fl:∀i,F i→s i≠ .free
 o1:Own prog σ0 s a_p d1 (x.Path.map St.enc)
 o2:Own prog σ0 s a_2 d2 (x.Flank.map Nd.enc)
 o3:Own prog σ0 s a_f d3 (x.Overlap.map Go.Fw.encI)
 f1:∀i,F i→b_h d1≠some i
 f2:∀i,F i→b_h d2≠some i
 f3:∀i,F i→b_h d3≠some i
section
variable {s s':Store} {x:Rt} {d1 d2 d3:D} {ws:List ByteArray}
theorem L3.away (h:L3 σ0 F s x d1 d2 d3)(hw:F tid)(hn:σ0 tid= .free)(hl:s' tid≠ .free)(ho:∀i,i≠tid→s' i=s i) :L3 σ0 F s' x d1 d2 d3 where
 fl i hi:=by
   by_cases e:i=tid
   · rw[e];exact hl
   · rw[ho i e];exact h.fl i hi
 o1:=c_z h.o1 hn (h.f1 tid hw) ho
 o2:=c_z h.o2 hn (h.f2 tid hw) ho
 o3:=c_z h.o3 hn (h.f3 tid hw) ho
 f1:=h.f1
 f2:=h.f2
 f3:=h.f3
theorem L3.add1 {z:St}{K:D→Store→Prop}(h:L3 σ0 F s x d1 d2 d3)(hl:x.Path.length < 2 ^ 40)(hk:∀d' s',L3 σ0 F s' { x with Path:=x.Path ++ [z] } d' d2 d3→(∀i,F i→s' i=s i)→K d' s') :
   Fw.newObj s (.live a_p [St.enc z]) fun id s1=>a_e prog s1 a_p 24 d1 (.osl id 0 1) K:=
 r_p h.o1 (by rw[List.length_map];omega) (by rw[List.length_map];omega) fun d' s2 g1 g2 g3=>hk d' s2 {
   fl:=fun i hi=>by rw[g2 i (h.fl i hi) (h.f1 i hi)];exact h.fl i hi
   o1:=by rw[List.map_append];exact g1
   o2:=h.o2.stay g2 (c_6 h.o2.at_ h.o1.at_ (b_7 e_t e_a (by decide))) g1.ext
   o3:=h.o3.stay g2 (c_6 h.o3.at_ h.o1.at_ (b_7 c_int e_a (by decide))) g1.ext
   f1:=fun i hi e=>by
     rcases g3 i e with g | g
     · exact h.f1 i hi g
     · exact h.fl i hi g
   f2:=h.f2,f3:=h.f3 } fun i hi=>g2 i (h.fl i hi) (h.f1 i hi)
theorem L3.add2 {z:Nd}{K:D→Store→Prop}(h:L3 σ0 F s x d1 d2 d3)(hl:x.Flank.length < 2 ^ 40)(hk:∀d' s',L3 σ0 F s' { x with Flank:=x.Flank ++ [z] } d1 d' d3→(∀i,F i→s' i=s i)→K d' s') :
   Fw.newObj s (.live a_2 [Nd.enc z]) fun id s1=>a_e prog s1 a_2 16 d2 (.osl id 0 1) K:=
 r_p h.o2 (by rw[List.length_map];omega) (by rw[List.length_map];omega) fun d' s2 g1 g2 g3=>hk d' s2 {
   fl:=fun i hi=>by rw[g2 i (h.fl i hi) (h.f2 i hi)];exact h.fl i hi
   o1:=h.o1.stay g2 (c_6 h.o1.at_ h.o2.at_ (b_7 e_a e_t (by decide))) g1.ext
   o2:=by rw[List.map_append];exact g1
   o3:=h.o3.stay g2 (c_6 h.o3.at_ h.o2.at_ (b_7 c_int e_t (by decide))) g1.ext
   f2:=fun i hi e=>by
     rcases g3 i e with g | g
     · exact h.f2 i hi g
     · exact h.fl i hi g
   f1:=h.f1,f3:=h.f3 } fun i hi=>g2 i (h.fl i hi) (h.f2 i hi)
theorem L3.add3 {z:Int}{K:D→Store→Prop}(h:L3 σ0 F s x d1 d2 d3)(hl:x.Overlap.length < 2 ^ 40)(hk:∀d' s',L3 σ0 F s' { x with Overlap:=x.Overlap ++ [z] } d1 d2 d'→(∀i,F i→s' i=s i)→K d' s') :
   Fw.newObj s (.live a_f [Go.Fw.encI z]) fun id s1=>a_e prog s1 a_f 8 d3 (.osl id 0 1) K:=
 r_p h.o3 (by rw[List.length_map];omega) (by rw[List.length_map];omega) fun d' s2 g1 g2 g3=>hk d' s2 {
   fl:=fun i hi=>by rw[g2 i (h.fl i hi) (h.f3 i hi)];exact h.fl i hi
   o1:=h.o1.stay g2 (c_6 h.o1.at_ h.o3.at_ (b_7 e_a c_int (by decide))) g1.ext
   o2:=h.o2.stay g2 (c_6 h.o2.at_ h.o3.at_ (b_7 e_t c_int (by decide))) g1.ext
   o3:=by rw[List.map_append];exact g1
   f3:=fun i hi e=>by
     rcases g3 i e with g | g
     · exact h.f3 i hi g
     · exact h.fl i hi g
   f1:=h.f1,f2:=h.f2 } fun i hi=>g2 i (h.fl i hi) (h.f3 i hi)
structure LpI (σ0:Store) (F:Nat→Prop) (s0:Store) (tid:Nat) (n n1:Int) (d1 d2 d3:D) (b:Bool) (s:Store) (x:Rt) (ws:List ByteArray) :Prop where
 e1:n=x.Entry
 e2:n1=x.Exit
 e3:b=x.Shunt
 tk:TkX σ0 s tid ws
 ls:L3 σ0 F s x d1 d2 d3
 same:∀i,F i→i≠tid→s i=s0 i
 l1:x.Path.length+ws.length < 2 ^ 40
 l2:x.Flank.length+ws.length < 2 ^ 40
 l3:x.Overlap.length+ws.length < 2 ^ 40
theorem dec1:∀(x:Rt) ws bad,ws≠[]→(b_s x (ws,bad)).2.1.length < ws.length:=fun x ws bad h=>(g_f h).2.2
theorem dec2:∀(x:Rt) ws bad,ws≠[]→(b_u x (ws,bad)).2.1.length < ws.length:=fun x ws bad h=>(g_f h).2.1
theorem dec3:∀(x:Rt) ws bad,ws≠[]→(b_2 x (ws,bad)).2.1.length < ws.length:=fun x ws bad h=>(g_f h).1
theorem a_d1 (h:TkX σ0 s tid ws)(hwl:ws.length < 2 ^ 39) :
   DCalls prog g_1 [.one (pO tid)] s fun r s'=>∃d1 d2 d3 ws',r= .a (rtA d1 d2 d3 (d_g ws))∧TkX σ0 s' tid ws'∧L3 σ0 (fun i=>s i≠ .free) s' (d_g ws) d1 d2 d3∧∀i,s i≠ .free→i≠tid→s' i=s i:=by
 have hF:=h.live
 have hn:=h.new
 refine x_1 (pO tid) s _ ((a_w h fun _ _=>rfl).mono ?_)
 rintro _ s1 ⟨rfl,h1,ho1⟩
 refine ⟨_,rfl,(a_w h1 ho1).mono ?_⟩
 rintro _ s2 ⟨rfl,h2,ho2⟩
 refine ⟨_,rfl,(a_w h2 ho2).mono ?_⟩
 rintro _ s3 ⟨rfl,h3,ho3⟩
 refine ⟨_,rfl,(l_k h3 ho3).mono ?_⟩
 rintro _ s4 ⟨rfl,h4,ho4⟩
 have hlen:ws.tail.tail.tail.tail.length≤ws.length:=by simp only[List.length_tail];omega
 obtain ⟨x0,ex0⟩ :∃x0:Rt,x0=⟨rrN ws,rrN ws.tail,[],[],[],rrN ws.tail.tail == 1⟩:=⟨_,rfl⟩
 have hI0:LpI σ0 (fun i=>s i≠ .free) s tid (rrN ws) (rrN ws.tail) .nils .nils .nils (rrN ws.tail.tail == 1) s4 x0 ws.tail.tail.tail.tail:=by
   subst ex0
   exact ⟨rfl,rfl,rfl,h4,⟨fun i hi=>by
     by_cases e:i=tid
     · rw[e];exact h4.live
     · rw[ho4 i e];exact hi, .nil _ h4.ext, .nil _ h4.ext, .nil _ h4.ext,fun i _ h=>by simp[b_h] at h,fun i _ h=>by simp[b_h] at h,fun i _ h=>by simp[b_h] at h⟩,fun i _ hi=>ho4 i hi,by show 0+_ < _;omega,by show 0+_ < _;omega,by show 0+_ < _;omega⟩
 obtain ⟨p,ep⟩ :∃p,p=b_l (wFlank.drop 1) b_s ws.tail.tail.tail.tail.length x0 ws.tail.tail.tail.tail:=⟨_,rfl⟩
 obtain ⟨q,eq⟩ :∃q,q=b_l (wOver.drop 1) b_u p.2.tail.length p.1 p.2.tail:=⟨_,rfl⟩
 have er:d_g ws=(b_l [] b_2 q.2.tail.length q.1 q.2.tail).1:=by
   rw[eq,ep,ex0];rfl
 refine ⟨rfl,fun n n1 d d1 d2 b s'=>∃x ws',LpI σ0 (fun i=>s i≠ .free) s tid n n1 d d1 d2 b s' x ws'∧p=b_l (wFlank.drop 1) b_s ws'.length x ws',fun _ _ _ _ _ _ s'=>tlen s' tid,⟨_,_,hI0,ep⟩,?_⟩
 rintro n n1 d d1 d2 b s5 ⟨x,us,hI,hp⟩
 refine (r_e (word:=a_l (wFlank.drop 1)) rfl hI.tk).use ⟨_,rfl,bc (fun hm=>?_) (fun hm=>?_)⟩
 · have hm:b_a (wFlank.drop 1) (us,false) =true:=hm
   have hne:us≠[]:=fun e=>by rw[e] at hm;cases hm
   refine (a_w hI.tk fun _ _=>rfl).mono ?_
   rintro _ s6 ⟨rfl,t6,k6⟩
   refine ⟨_,rfl,(a_w t6 k6).mono ?_⟩
   rintro _ s7 ⟨rfl,t7,k7⟩
   refine ⟨_,rfl,(a_w t7 k7).mono ?_⟩
   rintro _ s8 ⟨rfl,t8,k8⟩
   have hl1:=hI.l1
   have hl2:=hI.l2
   have hl3:=hI.l3
   have hd:=(g_f hne).2.2
   refine ⟨_,rfl,(hI.ls.away hF hn t8.live k8).add1 (z:=⟨_,_,_⟩) (by omega) fun d' s9 g1 g2=>⟨rfl,⟨(b_s x (us,false)).1,us.tail.tail.tail,⟨hI.e1,hI.e2,hI.e3,⟨t8.new,g1.o1.ext,?_,t8.small⟩,g1,fun i hi hit=>by rw[g2 i hi,k8 i hit,hI.same i hi hit],?_,?_,?_⟩,hp.trans (s_t dec1 hm)⟩,?_⟩⟩
   · obtain ⟨dd,c1,c2⟩:=t8.cell
     exact ⟨dd,(g2 tid hF).trans c1,c2⟩
   · simp only[b_s,List.length_append,List.length_cons,List.length_nil];omega
   · simp only[b_s];omega
   · simp only[b_s];omega
   · have e9 : tlen s9 tid = us.tail.tail.tail.length := by
       have:tlen s9 tid=tlen s8 tid:=by unfold Go.Proofs.YtfdffboelecgoaaGreatDoor.tlen;rw[g2 tid hF]
       rw[this,t8.tlen]
     show tlen s9 tid < tlen s5 tid
     rw[e9,hI.tk.tlen];exact hd
 have hm:b_a (wFlank.drop 1) (us,false) =false:=hm
 have hp:p=(x,us):=hp.trans (t_n hm)
 refine (l_k hI.tk fun _ _=>rfl).mono ?_
 rintro _ s6 ⟨rfl,t6,k6⟩
 have htl:us.tail.length≤us.length:=by rw[List.length_tail];omega
 have hl1:=hI.l1
 have hl2:=hI.l2
 have hl3:=hI.l3
 have hI6:LpI σ0 (fun i=>s i≠ .free) s tid n n1 d d1 d2 b s6 x us.tail:=⟨hI.e1,hI.e2,hI.e3,t6,hI.ls.away hF hn t6.live k6,fun i hi hit=>(k6 i hit).trans (hI.same i hi hit),by omega,by omega,by omega⟩
 refine ⟨rfl,fun n n1 d d1 d2 b s'=>∃x ws',LpI σ0 (fun i=>s i≠ .free) s tid n n1 d d1 d2 b s' x ws'∧q=b_l (wOver.drop 1) b_u ws'.length x ws',fun _ _ _ _ _ _ s'=>tlen s' tid,⟨x,us.tail,hI6,by rw[eq,hp]⟩,?_⟩
 clear hI hI6 hl1 hl2 hl3 htl hm
 rintro n n1 d d1 d2 b s5 ⟨x,us,hI,hq⟩
 refine (r_e (word:=a_l (wOver.drop 1)) rfl hI.tk).use ⟨_,rfl,bc (fun hm=>?_) (fun hm=>?_)⟩
 · have hm:b_a (wOver.drop 1) (us,false) =true:=hm
   have hne:us≠[]:=fun e=>by rw[e] at hm;cases hm
   refine (a_w hI.tk fun _ _=>rfl).mono ?_
   rintro _ s6 ⟨rfl,t6,k6⟩
   refine ⟨_,rfl,(a_w t6 k6).mono ?_⟩
   rintro _ s8 ⟨rfl,t8,k8⟩
   have hl1:=hI.l1
   have hl2:=hI.l2
   have hl3:=hI.l3
   have hd:=(g_f hne).2.1
   refine ⟨_,rfl,(hI.ls.away hF hn t8.live k8).add2 (z:=⟨_,_⟩) (by omega) fun d' s9 g1 g2=>⟨rfl,⟨(b_u x (us,false)).1,us.tail.tail,⟨hI.e1,hI.e2,hI.e3,⟨t8.new,g1.o1.ext,?_,t8.small⟩,g1,fun i hi hit=>by rw[g2 i hi,k8 i hit,hI.same i hi hit],?_,?_,?_⟩,hq.trans (s_t dec2 hm)⟩,?_⟩⟩
   · obtain ⟨dd,c1,c2⟩:=t8.cell
     exact ⟨dd,(g2 tid hF).trans c1,c2⟩
   · simp only[b_u];omega
   · simp only[b_u,List.length_append,List.length_cons,List.length_nil];omega
   · simp only[b_u];omega
   · have e9 : tlen s9 tid = us.tail.tail.length := by
       have:tlen s9 tid=tlen s8 tid:=by unfold Go.Proofs.YtfdffboelecgoaaGreatDoor.tlen;rw[g2 tid hF]
       rw[this,t8.tlen]
     show tlen s9 tid < tlen s5 tid
     rw[e9,hI.tk.tlen];exact hd
 have hm:b_a (wOver.drop 1) (us,false) =false:=hm
 have hq:q=(x,us):=hq.trans (t_n hm)
 refine (l_k hI.tk fun _ _=>rfl).mono ?_
 rintro _ s6 ⟨rfl,t6,k6⟩
 have htl:us.tail.length≤us.length:=by rw[List.length_tail];omega
 have hl1:=hI.l1
 have hl2:=hI.l2
 have hl3:=hI.l3
 have hI6:LpI σ0 (fun i=>s i≠ .free) s tid n n1 d d1 d2 b s6 x us.tail:=⟨hI.e1,hI.e2,hI.e3,t6,hI.ls.away hF hn t6.live k6,fun i hi hit=>(k6 i hit).trans (hI.same i hi hit),by omega,by omega,by omega⟩
 refine ⟨rfl,fun n n1 d d1 d2 b s'=>∃x ws',LpI σ0 (fun i=>s i≠ .free) s tid n n1 d d1 d2 b s' x ws'∧d_g ws=(b_l [] b_2 ws'.length x ws').1,fun _ _ _ _ _ _ s'=>tlen s' tid,⟨x,us.tail,hI6,by rw[er,hq]⟩,?_⟩
 clear hI hI6 hl1 hl2 hl3 htl hm
 rintro n n1 d d1 d2 b s5 ⟨x,us,hI,hr⟩
 obtain ⟨dw,cw1,cw2⟩:=hI.tk.cell
 refine ⟨trivial,_,_,_,rfl,_,a_g cw1,dw,rfl,(cw2.ext hI.tk.ext).lenK ?_⟩
 rw[List.length_map]
 refine bcd (fun hgt=>?_) (fun hle=>?_)
 · have hne:us≠[]:=fun e=>by rw[e] at hgt;simp at hgt
   have hm:b_a [] (us,false) =true:=by
     cases us with
     | nil=>exact absurd rfl hne
     | cons a l=>rfl
   refine (a_w hI.tk fun _ _=>rfl).mono ?_
   rintro _ s8 ⟨rfl,t8,k8⟩
   have hl1:=hI.l1
   have hl2:=hI.l2
   have hl3:=hI.l3
   have hd:=(g_f hne).1
   refine ⟨_,rfl,(hI.ls.away hF hn t8.live k8).add3 (z:=rrN us) (by omega) fun d' s9 g1 g2=>⟨rfl,⟨(b_2 x (us,false)).1,us.tail,⟨hI.e1,hI.e2,hI.e3,⟨t8.new,g1.o1.ext,?_,t8.small⟩,g1,fun i hi hit=>by rw[g2 i hi,k8 i hit,hI.same i hi hit],?_,?_,?_⟩,hr.trans (congrArg Prod.fst (s_t dec3 hm))⟩,?_⟩⟩
   · obtain ⟨dd,c1,c2⟩:=t8.cell
     exact ⟨dd,(g2 tid hF).trans c1,c2⟩
   · simp only[b_2];omega
   · simp only[b_2];omega
   · simp only[b_2,List.length_append,List.length_cons,List.length_nil];omega
   · have e9 : tlen s9 tid = us.tail.length := by
       have:tlen s9 tid=tlen s8 tid:=by unfold Go.Proofs.YtfdffboelecgoaaGreatDoor.tlen;rw[g2 tid hF]
       rw[this,t8.tlen]
     show tlen s9 tid < tlen s5 tid
     rw[e9,hI.tk.tlen];exact hd
 · have:us=[]:=List.length_eq_zero_iff.1 (by omega)
   subst this
   have hr:d_g ws=x:=hr
   rw[hr]
   exact ⟨d,d1,d2,[],by rw[hI.e1,hI.e2,hI.e3],hI.tk,hI.ls,hI.same⟩
end
end Go.Proofs.YtfdffboelecgoaaGreatDoor
end
section
namespace Go.Fw
theorem a_j1 {j n:Nat}(h:j < n) :n - ((j+1:Nat) :Int).toNat < n - ((j:Nat) :Int).toNat:=by omega
def inL (l:List Int)(n:Int) :Bool:=decide (n ∈ l)
theorem a_l1 {js:List Jt}{s e:Int}{p:Int × Int}(h:nxt js s e=some p) :∃j ∈ js,(j.B=p.1∧j.BEnd=p.2)∨(j.A=p.1∧j.AEnd=p.2):=by
 induction js with
 | nil=>cases h
 | cons j r ih=>
   rw[nxt] at h
   split at h
   · cases h;exact ⟨j,by simp, .inl ⟨rfl,rfl⟩⟩
   split at h
   · cases h;exact ⟨j,by simp, .inr ⟨rfl,rfl⟩⟩
   · obtain ⟨k,h1,h2⟩:=ih h
     exact ⟨k,by simp[h1],h2⟩
theorem a_mm {c:Cf}(ht:d_0 c.Secs c.Jts=true){s e q f:Int}(h:nxt c.Jts s e=some (q,f)) :∃y,c_c c.Secs q=some y:=by
 obtain ⟨j,hj,h1⟩:=a_l1 h
 obtain ⟨_,_,h3⟩:=(a_gn _ _).1 ht
 obtain ⟨a,b,_⟩:=h3 j hj
 have:0≤q∧q < c.Secs.length:=by rcases h1 with ⟨e1,_⟩ | ⟨e1,_⟩ <;> simp only at e1 <;> omega
 obtain ⟨y,hy⟩:=a_r (l:=c.Secs) (j:=q.toNat) (by omega)
 exact ⟨y,by unfold c_c;rw[if_neg (by omega),hy]⟩
theorem a_l8 {α:Type}{l:List α}{i:Int}(h0:¬i < 0)(h1:¬i≥(l.length:Int)) :∃x,c_c l i=some x:=by
 obtain ⟨x,hx⟩:=a_r (l:=l) (j:=i.toNat) (by omega)
 exact ⟨x,by unfold c_c;rw[if_neg h0];exact hx⟩
end Go.Fw
namespace Go.Fw
end Go.Fw
end
section
namespace Go.Fw
variable {P:Program}
inductive Cs
 | int (k:IntKind)
 | bool
 | str
 | sl (e:TypeId)
def n_a (g:TypeId→Option (List Cs)) :List Field→Option (List Cs)
 | []=>some []
 | f::fs=>match g f.type,n_a g fs with
   | some a,some b=>some (a ++ b)
   | _,_=>none
def h_3 (P:Program) :Nat→TypeId→Option (List Cs)
 | 0,_=>none
 | m+1,t=>match P.underlying t with
   | some .bool=>some [.bool]
   | some (.int k)=>some [.int k]
   | some .string=>some [.str]
   | some (.slice e)=>some [.sl e]
   | some (.struct fs)=>n_a (h_3 P m) fs.toList
   | some (.array k e)=>(h_3 P m e).map fun l=>(List.replicate k l).flatten
   | _=>none
def CsOk (P:Program) :Cs→D→Prop
 | .int k,d=>∃m,d= .int k m∧(Lit.int k m).wf=true
 | .bool,d=>∃b,d= .bool b
 | .str,d=>∃s,d= .str s∧s.size≤140737488351232
 | .sl e,d=>d= .nils∨∃rows,d= .sl (P.cellsOf e) rows∧rows.length * P.bytesOf e≤140737488351232∧∀row ∈ rows,∃n,tyD P n e row
def CsL (P:Program) :List Cs→List D→Prop
 | [],ds=>ds=[]
 | s::ss,ds=>∃d r,ds=d::r∧CsOk P s d∧CsL P ss r
theorem CsL.append {a b:List Cs}{x y:List D}(h1:CsL P a x)(h2:CsL P b y) :CsL P (a ++ b) (x ++ y):=by
 induction a generalizing x with
 | nil=>simp only[CsL] at h1;subst h1;exact h2
 | cons s a ih=>
   obtain ⟨d,r,rfl,q1,q2⟩:=h1
   exact ⟨d,r ++ y,rfl,q1,ih q2⟩
theorem z_d {g:TypeId→Option (List Cs)}{ty:TypeId→List D→Prop}(ih:∀t ds shs,ty t ds→g t=some shs→CsL P shs ds) :∀(fs:List Field) (ds:List D) (shs:List Cs),tyF P ty fs ds→n_a g fs=some shs→CsL P shs ds
 | [],ds,shs,h1,h2=>by
   simp only[tyF] at h1;simp only[n_a] at h2
   cases h2;subst h1;rfl
 | f::fs,ds,shs,h1,h2=>by
   obtain ⟨a,b,rfl,_,q1,q2⟩:=h1
   rw[n_a] at h2
   split at h2
   · rename_i x y e1 e2
     cases h2
     exact (ih _ _ _ q1 e1).append (z_d ih fs b y q2 e2)
   · cases h2
theorem a_lr {ty:TypeId→List D→Prop}{e:TypeId}{l:List Cs}(ih:∀ds,ty e ds→CsL P l ds) :∀(k:Nat) (ds:List D),tyR P ty e k ds→CsL P (List.replicate k l).flatten ds
 | 0,ds,h=>by simp only[tyR] at h;subst h;rfl
 | k+1,ds,h=>by
   obtain ⟨a,b,rfl,_,q1,q2⟩:=h
   rw[List.replicate_succ,List.flatten_cons]
   exact (ih a q1).append (a_lr ih k b q2)
theorem r_c:∀(n m:Nat) (t:TypeId) (ds:List D) (shs:List Cs),tyD P n t ds→h_3 P m t=some shs→CsL P shs ds
 | 0,_,_,_,_,h,_=>h.elim
 | _+1,0,_,_,_,_,h=>by cases h
 | n+1,m+1,t,ds,shs,h1,h2=>by
   unfold tyD at h1
   unfold h_3 at h2
   split at h1
   · rename_i hu
     rw[hu] at h2;cases h2
     obtain ⟨b,rfl⟩:=h1
     exact ⟨_,_,rfl,⟨b,rfl⟩,rfl⟩
   · rename_i k hu
     rw[hu] at h2;cases h2
     obtain ⟨b,rfl,hw⟩:=h1
     exact ⟨_,_,rfl,⟨b,rfl,hw⟩,rfl⟩
   · rename_i hu
     rw[hu] at h2;cases h2
     obtain ⟨b,rfl,hw⟩:=h1
     exact ⟨_,_,rfl,⟨b,rfl,hw⟩,rfl⟩
   · rename_i e hu
     rw[hu] at h2;cases h2
     rcases h1 with rfl | ⟨rows,rfl,q1,q2⟩
     · exact ⟨_,_,rfl, .inl rfl,rfl⟩
     · exact ⟨_,_,rfl, .inr ⟨rows,rfl,q1,fun row hr=>⟨n,q2 row hr⟩⟩,rfl⟩
   · rename_i fs hu
     rw[hu] at h2
     exact z_d (fun t ds shs a b=>r_c n m t ds shs a b) fs.toList ds shs h1 h2
   · rename_i k e hu
     rw[hu] at h2
     simp only[Option.map_eq_some_iff] at h2
     obtain ⟨l,e1,rfl⟩:=h2
     exact a_lr (fun ds a=>r_c n m e ds l a e1) k ds h1
   · exact h1.elim
def I64 (n:Int) :Prop:= -9223372036854775808≤n∧n≤9223372036854775807
theorem e_6 {n:Int}(h:(Lit.int .i64 n).wf=true) :I64 n:=by
 simp only[Lit.wf,IntKind.min,IntKind.max,IntKind.signed,IntKind.bits,Bool.and_eq_true,decide_eq_true_eq,if_true] at h
 unfold I64
 omega
theorem I64.w {n:Int}(h:I64 n) :w64 n=n:=g_n h.1 h.2
theorem a_nq {α:Type}{e:TypeId}{d:D}{bytes:Nat}(R:List D→α→Prop)(hf:∀row n,tyD P n e row→∃a,R row a)(hb:P.bytesOf e=bytes)(hb0:0 < bytes)(h:CsOk P (.sl e) d) :
   ∃(rows:List (List D)) (l:List α),(∀s,At P s e d rows)∧rows.length=l.length∧(∀(i:Nat) row a,rows[i]? =some row→l[i]? =some a→R row a)∧d≠ .zsl∧bytes * l.length≤140737488351232:=by
 rcases h with rfl | ⟨rows,rfl,q1,q2⟩
 · exact ⟨[],[],fun s=> .nil,rfl,fun i row a h=>by simp at h,(by intro e;cases e),by simp⟩
 · have key : ∀ rows : List (List D), (∀ row ∈ rows, ∃ n, tyD P n e row) → ∃ l : List α, rows.length = l.length ∧ ∀ (i : Nat) row a, rows[i]? = some row → l[i]? = some a → R row a := by
     intro rows
     induction rows with
     | nil=>intro _;exact ⟨[],rfl,fun i row a h=>by simp at h⟩
     | cons r rs ih=>
       intro hr
       obtain ⟨l,e1,e2⟩:=ih fun row h=>hr row (by simp[h])
       obtain ⟨n,hn⟩:=hr r (by simp)
       obtain ⟨a,ha⟩:=hf r n hn
       refine ⟨a::l,by simp[e1],fun i row b h1 h2=>?_⟩
       cases i with
       | zero=>simp at h1 h2;subst h1 h2;exact ha
       | succ i=>exact e2 i row b (by simpa using h1) (by simpa using h2)
   obtain ⟨l,hl,hR⟩:=key rows q2
   rw[hb,hl] at q1
   have q3:bytes * l.length≤140737488351232:=by rw[Nat.mul_comm];exact q1
   have h1:1 * l.length≤bytes * l.length:=Nat.mul_le_mul_right _ hb0
   refine ⟨rows,l,fun s=>⟨⟨rfl, .inr rfl⟩,by omega,fun es rows e=>?_⟩,hl,hR,(by intro e;cases e),q3⟩
   injection e with e1 e2
   exact e1.symm
theorem l_1 {α:Type}{e:TypeId}{d:D}{bytes:Nat}(f:α→List D)(Q:α→Prop)(hf:∀row n,tyD P n e row→∃a,row=f a∧Q a)(hb:P.bytesOf e=bytes)(hb0:0 < bytes)(h:CsOk P (.sl e) d) :
   ∃l:List α,(∀s,At P s e d (l.map f))∧(∀a ∈ l,Q a)∧d≠ .zsl∧bytes * l.length≤140737488351232:=by
 rcases h with rfl | ⟨rows,rfl,q1,q2⟩
 · exact ⟨[],fun s=> .nil,fun a ha=>by simp at ha,(by intro e;cases e),by simp⟩
 · have key : ∀ rows : List (List D), (∀ row ∈ rows, ∃ n, tyD P n e row) → ∃ l : List α, l.map f = rows ∧ ∀ a ∈ l, Q a := by
     intro rows
     induction rows with
     | nil=>intro _;exact ⟨[],rfl,fun a ha=>by simp at ha⟩
     | cons r rs ih=>
       intro hr
       obtain ⟨l,e1,e2⟩:=ih fun row h=>hr row (by simp[h])
       obtain ⟨n,hn⟩:=hr r (by simp)
       obtain ⟨a,rfl,ha⟩:=hf r n hn
       refine ⟨a::l,by simp[e1],fun b hb=>?_⟩
       simp only[List.mem_cons] at hb
       rcases hb with rfl | hb
       · exact ha
       · exact e2 b hb
   obtain ⟨l,rfl,hl⟩:=key rows q2
   rw[hb,List.length_map] at q1
   have q3:bytes * l.length≤140737488351232:=by rw[Nat.mul_comm];exact q1
   have h1:1 * l.length≤bytes * l.length:=Nat.mul_le_mul_right _ hb0
   refine ⟨l,fun s=>⟨⟨rfl, .inr rfl⟩,by rw[List.length_map];omega,fun es rows e=>?_⟩,hl,(by intro e;cases e),q3⟩
   injection e with e1 e2
   exact e1.symm
theorem a_l6 {t:TypeId}{x:A}(h:TyA P t x)(hg:b_t P t=some false) :∃d n,x= .one d∧tyD P n t [d]:=by
 cases x with
 | one d=>exact ⟨d,30,rfl,h.2⟩
 | agg cs=>have:=h.1;rw[hg] at this;cases this
theorem a_mi {t:TypeId}{x:A}(h:TyA P t x)(hg:b_t P t=some true) :∃cs n,x= .agg cs∧tyD P n t cs:=by
 cases x with
 | one d=>have:=h.1;rw[hg] at this;cases this
 | agg cs=>exact ⟨cs,30,rfl,h.2⟩
theorem a_d3 {t:TypeId}{ts:List TypeId}{as0:List A}(h:TyAs P (t::ts) as0) :∃a r,as0=a::r∧TyA P t a∧TyAs P ts r:=h
theorem a_ml {as0:List A}(h:TyAs P [] as0) :as0=[]:=h
def a_j5:Cs→Value
 | .int k=> .int k 0
 | .bool=> .bool false
 | .str=> .string .empty
 | .sl _=> .slice none 0 0
def zeroArg (P:Program)(t:TypeId) :Value:=match b_t P t,h_3 P 9 t with
 | some true,some l=> .agg (l.map a_j5).toArray
 | _,some [c]=>a_j5 c
 | _,_=> .int .i64 0
end Go.Fw
namespace Go.Fw
theorem law_fn2 {H:Type}{s:List (DataW H)→Left H}{ds:List (DataW H)}(h:ds.length=2)(hs:∀a b,s [a,b]= { results:= [.lit (.bool true)],args:= [a,b] } :=by intros;rfl) :s ds= { results:= [.lit (.bool true)],args:=ds } :=by
 match ds,h with
 | [a,b],_=>exact hs a b
end Go.Fw
namespace Go.Fw
def EqR {α:Type}(la lb:List α)(n:Int) :Prop:=∃j:Nat,n=j∧j≤la.length∧la.take j=lb.take j
theorem EqR.start {α:Type}(la lb:List α) :EqR la lb 0:=⟨0,rfl,by omega,by simp⟩
theorem EqR.step {α:Type}{la lb:List α}{n:Int}{m:Nat}(h:EqR la lb n)(hl:la.length=lb.length)(hm:m=la.length)(hs:la.length < 2 ^ 60)(hlt:n < (m:Int)) :
   ∃(j:Nat) (x y:α),n=j∧la[j]? =some x∧lb[j]? =some y∧(x≠y→la≠lb)∧(x=y→EqR la lb (w64 (n+1))∧la.length - (w64 (n+1)).toNat < la.length - n.toNat):=by
 obtain ⟨j,rfl,hj,hF⟩:=h
 have hj':j < la.length:=by omega
 obtain ⟨x,hx⟩:=a_r hj'
 obtain ⟨y,hy⟩:=a_r (l:=lb) (j:=j) (by omega)
 refine ⟨j,x,y,rfl,hx,hy,fun hne e=>?_,fun e=>?_⟩
 · subst e;rw[hx] at hy;cases hy;exact hne rfl
 · rw[a_m (by omega)]
   refine ⟨⟨j+1,rfl,by omega,?_⟩,by omega⟩
   rw[List.take_add_one,List.take_add_one,hF,hx,hy,e]
theorem EqR.done {α:Type}{la lb:List α}{n:Int}{m:Nat}(h:EqR la lb n)(hl:la.length=lb.length)(hm:m=la.length)(hge:¬n < (m:Int)) :la=lb:=by
 obtain ⟨j,rfl,hj,hF⟩:=h
 have:j=la.length:=by omega
 rw[List.take_of_length_le (by omega),List.take_of_length_le (by omega)] at hF
 exact hF
end Go.Fw
namespace Go.Fw
theorem a_kr {P:Program}{t:TypeId}{x:A}{c:Cs}(h:TyA P t x)(hg:b_t P t=some false)(hs:h_3 P 5 t=some [c]) :∃d,x= .one d∧CsOk P c d:=by
 obtain ⟨d,n,rfl,h1⟩:=a_l6 h hg
 obtain ⟨d',r,e,h2,h3⟩:=r_c n 5 t _ _ h1 hs
 have:d=d':=by injection e
 exact ⟨d,rfl,this ▸ h2⟩
end Go.Fw
end
namespace Go.Fw
section
theorem map_set {α β:Type}(f:α→β)(l:List α)(i:Nat)(x:α) :(l.map f).set i (f x) =(l.set i x).map f:=by simp
end
section
structure Vw where
 Occ:List Lk
 Pos:List Lk
 Shut:List Lk
 Lamp:List Lk
def Vw.fits (c:Cf)(v:Vw) :Bool:=decide (v.Occ.length=c.Secs.length∧v.Pos.length=c.Secs.length∧v.Shut.length=c.Xs.length∧v.Lamp.length=c.Sigs.length)
theorem a_is {secs:List Sec}{js:List Jt}(h:d_0 secs js=true){i:Nat}{s:Sec}(hs:secs[i]? =some s) :0≤s.Line∧s.Line≤3:=by
 unfold d_0 at h
 rw[Bool.and_eq_true] at h
 have h2:=h.2
 split at h2
 · cases h2
 · exact ((r_g _ _ _ _).1 h2 i s hs).2.2.1
end
section
section
variable {occ:List Lk} {now:Int} {was may:Bool} {x:Ls} {o:Int} {s:Nat} {lk:Lk}
end
structure SameBut (k k':Co) (l s:Nat) :Prop where
 routes:k'.Routes=k.Routes
 lines:∀m,m≠l→k'.Lines[m]? =k.Lines[m]?
 own:∀t,t≠s→k'.Own[t]? =k.Own[t]?
end
section
def a_nl (c:Cf)(l:List Int) :List Rs→Nat→Bool
 | [],_=>false
 | r::rs,j=>(decide (r.State≠0) && inL l (c.Approach j)) || a_nl c l rs (j+1)
end
end Go.Fw
section
namespace Go.Fw
structure StOk (c:Cf) (r:Rt) (s:St) :Prop where
 sec:∃y,c_c c.Secs s.Sec=some y∧(p_j (j_y y.Kind) s.In s.Out).isSome=true∧(r.Shunt=true→y.Line=0)
theorem u_a {c:Cf}(ht:d_0 c.Secs c.Jts=true)(r:Rt)(ex:Option Sg) :∀(l:List St) (a:Sg) (seen:List Int),t_5 c r ex l a seen=true→
   (∀s ∈ l,StOk c r s∧s.Sec ∉ seen)∧(l.map St.Sec).Nodup
 | [],a,seen,_=>⟨fun s hs=>by simp at hs,by simp⟩
 | s::rest,a,seen,h=>by
   rw[t_5,Bool.and_eq_true] at h
   obtain ⟨h1,h2⟩:=h
   obtain ⟨q1,q2⟩:=u_a ht r ex rest _ _ h2
   unfold y_0 at h1
   cases hn:nxt c.Jts a.Sec a.End_ with
   | none=>rw[hn] at h1;cases h1
   | some p=>
     obtain ⟨q,i⟩:=p
     rw[hn] at h1
     obtain ⟨y,hy⟩:=a_mm ht hn
     simp only[hy,Option.getD_some,Bool.and_eq_true,decide_eq_true_eq,Bool.not_eq_true'] at h1
     obtain ⟨⟨⟨⟨⟨rfl,e2⟩,e3⟩,e4⟩,e5⟩,e6⟩:=h1
     refine ⟨fun x hx=>?_,?_⟩
     · rcases List.mem_cons.1 hx with rfl | hx
       · refine ⟨⟨y,hy,e3,fun hs=>?_⟩,e4⟩
         rw[hs,Bool.true_and,decide_eq_false_iff_not] at e6
         exact Decidable.not_not.1 e6
       · obtain ⟨w1,w2⟩:=q1 x hx
         exact ⟨w1,fun hm=>w2 (List.mem_cons_of_mem _ hm)⟩
     · rw[List.map_cons,List.nodup_cons]
       refine ⟨fun hm=>?_,q2⟩
       obtain ⟨x,hx,e⟩:=List.mem_map.1 hm
       exact (q1 x hx).2 (by rw[e];simp)
structure RtOk (c:Cf) (r:Rt) :Prop where
 entry:∃a,c_c c.Sigs r.Entry=some a
 exit_:r.Exit= -1∨∃x,c_c c.Sigs r.Exit=some x
 len:1≤r.Path.length∧r.Path.length≤8
 step:∀s ∈ r.Path,StOk c r s∧s.Sec≠c.approach r
 dup:(r.Path.map St.Sec).Nodup
 flank:r.Flank=c.flank (c.approach r) r.Path
 over:r.Overlap=c.overlap r
theorem t_9 {c:Cf} :∀{l:List Rt},c.routes l=0→∀r ∈ l,c.route r=0
 | [],_,r,hr=>by simp at hr
 | x::l,h,r,hr=>by
   rw[Cf.routes] at h
   split at h
   · rename_i hne;exact absurd h hne
   · rename_i he
     rcases List.mem_cons.1 hr with rfl | hr
     · simpa using he
     · exact t_9 h r hr
theorem t_p {c:Cf}(h:c.check=0) :d_0 c.Secs c.Jts=true∧c.sigsOk=true∧c.xsOk=true∧c.Rts.length≤12∧c.routes c.Rts=0∧c.timing=true:=by
 unfold Cf.check at h
 split at h
 · cases h
 split at h
 · cases h
 split at h
 · cases h
 split at h
 · cases h
 split at h
 · rename_i hne;exact absurd h hne
 split at h
 · rename_i h1 h2 h3 h4 h5 h6
   exact ⟨by simpa using h1,by simpa using h2,by simpa using h3,by omega,by simpa using h5,h6⟩
 · cases h
theorem a_mx {c:Cf}(ht:d_0 c.Secs c.Jts=true){r:Rt}(h:c.route r=0) :RtOk c r:=by
 unfold Cf.route at h
 split at h
 · cases h
 split at h
 · cases h
 split at h
 · cases h
 rename_i h1 h2 h3
 have h1:c.path r=true:=by simpa using h1
 unfold Cf.path at h1
 cases hg:c_c c.Sigs r.Entry with
 | none=>rw[hg] at h1;cases h1
 | some a=>
   rw[hg] at h1
   simp only[Bool.and_eq_true,Bool.or_eq_true,decide_eq_true_eq] at h1
   obtain ⟨⟨e1,e2⟩,e3⟩:=h1
   obtain ⟨q1,q2⟩:=u_a ht r _ _ _ _ e3
   have ha:c.approach r=a.Sec:=by rw[Cf.approach,hg];rfl
   refine ⟨⟨a,hg⟩,e1.imp id Option.isSome_iff_exists.1,e2,fun s hs=>⟨(q1 s hs).1,fun e=>(q1 s hs).2 (by rw[e,ha];simp)⟩,q2,Decidable.not_not.1 h2,Decidable.not_not.1 h3⟩
theorem a_k6 {c:Cf}(h:c.check=0){r:Rt}(hr:r ∈ c.Rts) :RtOk c r:=by
 obtain ⟨h1,_,_,_,h5,_⟩:=t_p h
 exact a_mx h1 (t_9 h5 r hr)
structure NdOk (c:Cf) (a:Int) (path:List St) (n:Nd) :Prop where
 sec:∃y,c_c c.Secs n.Sec=some y∧y.Kind=1
 pos:1≤n.Pos∧n.Pos≤2
 app:n.Sec≠a
 path:l_l path n.Sec=false
def FlOk (c:Cf)(a:Int)(path:List St)(out:List Nd) :Prop:=(∀n ∈ out,NdOk c a path n)∧(out.map Nd.Sec).Nodup
theorem a_aw {c:Cf}{a:Int}{p:List St}{s:St}{out:List Nd}{e:Int}(h:FlOk c a p out) :FlOk c a p (d_a c a p s out e):=by
 unfold d_a
 split
 · exact h
 · split
   · exact h
   · split
     · exact h
     · rename_i y hy
       split
       · rename_i hc
         obtain ⟨c1,c2,c3,c4,c5⟩:=hc
         refine ⟨fun n hn=>?_,?_⟩
         · rcases List.mem_append.1 hn with hn | hn
           · exact h.1 n hn
           · rw[List.mem_singleton] at hn;subst hn
             exact ⟨⟨y,hy,c1⟩,by simp only;omega,c3,c4⟩
         · rw[List.map_append,List.nodup_append]
           refine ⟨h.2,by simp,fun x hx z hz=>?_⟩
           simp only[List.map_cons,List.map_nil,List.mem_singleton] at hz
           subst hz
           intro e
           obtain ⟨n,hn,e2⟩:=List.mem_map.1 hx
           rw[List.any_eq_false] at c5
           exact c5 n hn (by rw[e2,e];simp)
       · exact h
theorem r_n {c:Cf}{a:Int}{p:List St}{s:St} :∀(n:Nat) (e:Int) (out:List Nd),FlOk c a p out→FlOk c a p (c_t c a p s n e out)
 | 0,_,_,h=>h
 | n+1,e,out,h=>by rw[c_t];exact r_n n _ _ (a_aw h)
theorem t_w {c:Cf}{a:Int}{p:List St} :∀(l:List St) (out:List Nd),FlOk c a p out→FlOk c a p (d_1 c a p l out)
 | [],_,h=>h
 | s::r,out,h=>by
   rw[d_1]
   refine t_w r _ ?_
   split
   · exact h
   · exact r_n _ _ _ h
theorem a_kn (c:Cf)(a:Int)(p:List St) :FlOk c a p (c.flank a p):=t_w p [] ⟨fun n h=>by simp at h,by simp⟩
theorem a_if (c:Cf)(a:Int)(p:List St) :(c.flank a p).length≤4 * p.length:=by
 have:=(l_n c a p p []).2
 simpa[Cf.flank] using this
theorem a_hc {c:Cf}{r:Rt}{q:Int}(h:q ∈ c.overlap r) :(∃y,c_c c.Secs q=some y∧y.Line=0)∧l_l r.Path q=false∧q≠c.approach r:=by
 unfold Cf.overlap at h
 split at h
 · simp at h
 split at h
 · simp at h
 split at h
 · simp at h
 split at h
 · simp at h
 rename_i y hy
 split at h
 · rename_i hc
   rw[List.mem_singleton] at h;subst h
   exact ⟨⟨y,hy,hc.1⟩,hc.2.1,hc.2.2⟩
 · simp at h
theorem a_lt (c:Cf)(r:Rt) :(c.overlap r).length≤1:=by
 unfold Cf.overlap
 split
 · simp
 split
 · simp
 split
 · simp
 split
 · simp
 split <;> simp
theorem RtOk.fl {c:Cf}{r:Rt}(h:RtOk c r) :FlOk c (c.approach r) r.Path r.Flank:=by rw[h.flank];exact a_kn _ _ _
theorem RtOk.flen {c:Cf}{r:Rt}(h:RtOk c r) :r.Flank.length≤32:=by
 rw[h.flank];have:=a_if c (c.approach r) r.Path;have:=h.len;omega
theorem RtOk.olen {c:Cf}{r:Rt}(h:RtOk c r) :r.Overlap.length≤1:=by rw[h.over];exact a_lt _ _
end Go.Fw
namespace Go.Fw
end Go.Fw
end
namespace Go.Fw
section
def zRt:Rt:=⟨0,0,[],[],[],false⟩
def Cf.rt (c:Cf)(i:Int) :Rt:=(c_c c.Rts i).getD zRt
end
section
def cpt:List Int→List Int
 | []=> []
 | x::r=>match cpt r with
   | []=> [x]
   | y::q=>if x=y then y::q else x::y::q
theorem u_7:∀(l:List Int) (z:Int),z ∈ cpt l↔z ∈ l
 | [],z=>by simp[cpt]
 | x::r,z=>by
   have ih:=u_7 r z
   rw[cpt]
   split
   · rename_i h;rw[h] at ih;simp at ih;simp[ih]
   · rename_i y q h
     rw[h] at ih
     split
     · rename_i e;rw[ih,List.mem_cons];exact ⟨.inr,fun hz=>hz.elim (fun e'=>by rw[←ih,e',e];simp) id⟩
     · rw[List.mem_cons,ih,List.mem_cons]
theorem w_x:∀{l:List Int},l.Pairwise (·≤·)→(cpt l).Pairwise (· < ·)
 | [],_=>by simp[cpt]
 | x::r,h=>by
   rw[List.pairwise_cons] at h
   have ih:=w_x h.2
   rw[cpt]
   split
   · simp
   · rename_i y q hq
     rw[hq] at ih
     split
     · exact ih
     · rename_i hne
       rw[List.pairwise_cons]
       refine ⟨fun z hz=>?_,ih⟩
       have h1:y ∈ r:=(u_7 r y).1 (by rw[hq];simp)
       have h2:=h.1 y h1
       rcases List.mem_cons.1 hz with rfl | hz
       · omega
       · have:=(List.pairwise_cons.1 ih).1 z hz;omega
theorem q_d:∀{a b:List Int},a.Pairwise (· < ·)→b.Pairwise (· < ·)→(∀z,z ∈ a↔z ∈ b)→a=b
 | [],[],_,_,_=>rfl
 | [],y::b,_,_,h=>absurd ((h y).2 (by simp)) (by simp)
 | x::a,[],_,_,h=>absurd ((h x).1 (by simp)) (by simp)
 | x::a,y::b,ha,hb,h=>by
   rw[List.pairwise_cons] at ha hb
   have e:x=y:=by
     have h1:=(h x).1 (by simp)
     have h2:=(h y).2 (by simp)
     rcases List.mem_cons.1 h1 with h1 | h1
     · exact h1
     · rcases List.mem_cons.1 h2 with h2 | h2
       · exact h2.symm
       · have:=hb.1 x h1;have:=ha.1 y h2;omega
   subst e
   congr 1
   refine q_d ha.2 hb.2 fun z=>⟨fun hz=>?_,fun hz=>?_⟩
   · rcases List.mem_cons.1 ((h z).1 (by simp[hz])) with e | hz'
     · subst e;have:=ha.1 z hz;omega
     · exact hz'
   · rcases List.mem_cons.1 ((h z).2 (by simp[hz])) with e | hz'
     · subst e;have:=hb.1 z hz;omega
     · exact hz'
theorem a_cx {l:List Int}(h:l.Pairwise (·≤·)) :Lib.compact l=cpt l:=q_d (v_o h) (w_x h) fun z=>by rw[a_de,u_7]
def Cf.lockR (r:Rt) :List Int:=cpt (i_7 (r.Overlap ++ r.Path.map St.Sec ++ r.Flank.map Nd.Sec))
def Cf.lockL (c:Cf)(i:Int) :List Int:=match c_c c.Rts i with
 | some r=>Cf.lockR r
 | none=> []
theorem a_ig {r:Rt}{z:Int} :z ∈ Cf.lockR r↔z ∈ r.Overlap∨z ∈ r.Path.map St.Sec∨z ∈ r.Flank.map Nd.Sec:=by
 rw[Cf.lockR,u_7,(a_dh _).mem_iff];simp[or_assoc]
theorem a_ga (r:Rt) :(Cf.lockR r).Pairwise (· < ·):=w_x (t_t _)
def j_g (out:List Int)(s:Int) :Nat→Nat
 | 0=>0
 | n+1=>match out[n]? with
   | some x=>if s < x then j_g out s n else n+1
   | none=>n+1
def insS (out:List Int)(s:Int) :List Int:=
 if s ∈ out then out else out.take (j_g out s out.length) ++ [s] ++ out.drop (j_g out s out.length)
theorem a_dc (out:List Int)(s:Int) :∀n,n≤out.length→∀i x,j_g out s n≤i→i < n→out[i]? =some x→s < x
 | 0,_,i,x,_,h,_=>by omega
 | n+1,hn,i,x,h1,h2,h3=>by
   rw[j_g] at h1
   split at h1
   · rename_i y hy
     split at h1
     · rename_i hlt
       by_cases e:i=n
       · subst e;rw[hy] at h3;cases h3;exact hlt
       · exact a_dc out s n (by omega) i x h1 (by omega) h3
     · omega
   · omega
theorem u_g {out:List Int}{s:Int}(hp:out.Pairwise (· < ·)) :∀n,n≤out.length→∀i x,i < j_g out s n→out[i]? =some x→x≤s
 | 0,_,i,x,h,_=>by rw[j_g] at h;omega
 | n+1,hn,i,x,h1,h3=>by
   rw[j_g] at h1
   split at h1
   · rename_i y hy
     split at h1
     · exact u_g hp n (by omega) i x h1 h3
     · rename_i hge
       by_cases e:i=n
       · subst e;rw[hy] at h3;cases h3;omega
       · have hlt:i < n:=by omega
         obtain ⟨h4,h5⟩:=List.getElem?_eq_some_iff.1 h3
         obtain ⟨h6,h7⟩:=List.getElem?_eq_some_iff.1 hy
         have:=List.pairwise_iff_getElem.1 hp i n h4 h6 hlt
         rw[h5,h7] at this;omega
   · rename_i hnone;rw[List.getElem?_eq_none_iff] at hnone;omega
theorem a_h8 {out:List Int}{s:Int}(hp:out.Pairwise (· < ·)) :(insS out s).Pairwise (· < ·):=by
 unfold insS
 split
 · exact hp
 · rename_i hs
   have hsplit:=List.take_append_drop (j_g out s out.length) out
   have h1:∀x ∈ out.take (j_g out s out.length),x < s:=by
     intro x hx
     obtain ⟨i,hi,e⟩:=List.getElem_of_mem hx
     have h2:out[i]? =some x:=by rw[List.getElem_take] at e;rw[←e];exact List.getElem?_eq_getElem _
     have h3:=u_g (s:=s) hp out.length (Nat.le_refl _) i x (by rw[List.length_take] at hi;omega) h2
     have:x≠s:=fun e=>hs (e ▸ List.mem_of_getElem? h2)
     omega
   have h2:∀x ∈ out.drop (j_g out s out.length),s < x:=by
     intro x hx
     obtain ⟨i,hi,e⟩:=List.getElem_of_mem hx
     have h2:out[j_g out s out.length+i]? =some x:=by rw[List.getElem_drop] at e;rw[←e];exact List.getElem?_eq_getElem _
     exact a_dc out s out.length (Nat.le_refl _) _ x (by omega) (by rw[List.length_drop] at hi;omega) h2
   rw[←hsplit,List.pairwise_append] at hp
   rw[List.append_assoc,List.pairwise_append]
   refine ⟨hp.1,?_,fun a ha b hb=>?_⟩
   · rw[List.singleton_append,List.pairwise_cons];exact ⟨h2,hp.2.1⟩
   · rcases List.mem_cons.1 hb with rfl | hb
     · exact h1 a ha
     · exact hp.2.2 a ha b hb
theorem a_le {out:List Int}{s z:Int} :z ∈ insS out s↔z ∈ out∨z=s:=by
 unfold insS
 split
 · rename_i hs;exact ⟨.inl,fun h=>h.elim id fun e=>e ▸ hs⟩
 · have : z ∈ out ↔ z ∈ out.take (j_g out s out.length) ∨ z ∈ out.drop (j_g out s out.length) := by
     rw[←List.mem_append,List.take_append_drop]
   rw[this,List.append_assoc,List.mem_append,List.mem_append,List.mem_singleton]
   constructor
   · rintro (h | h | h) <;> simp[h]
   · rintro ((h | h) | h) <;> simp[h]
theorem w_3:∀(l out:List Int),out.Pairwise (· < ·)→(l.foldl insS out).Pairwise (· < ·)∧∀z,z ∈ l.foldl insS out↔z ∈ out∨z ∈ l
 | [],out,h=>⟨h,fun z=>by simp⟩
 | s::r,out,h=>by
   obtain ⟨q1,q2⟩:=w_3 r (insS out s) (a_h8 h)
   refine ⟨q1,fun z=>?_⟩
   rw[List.foldl_cons,q2,a_le,List.mem_cons,or_assoc]
theorem a_fg (r:Rt) :(r.Path.map St.Sec ++ r.Flank.map Nd.Sec ++ r.Overlap).foldl insS []=Cf.lockR r:=by
 obtain ⟨q1,q2⟩:=w_3 (r.Path.map St.Sec ++ r.Flank.map Nd.Sec ++ r.Overlap) [] (by simp)
 refine q_d q1 (a_ga r) fun z=>?_
 rw[q2,a_ig]
 simp only[List.mem_append,List.not_mem_nil,false_or]
 constructor
 · rintro ((h | h) | h) <;> simp[h]
 · rintro (h | h | h) <;> simp[h]
theorem a_gx:∀l:List Int,(cpt l).length≤l.length
 | []=>Nat.le_refl _
 | x::r=>by
   have ih:=a_gx r
   rw[cpt]
   split
   · simp
   · rename_i y q h
     rw[h] at ih
     split
     · simp at ih ⊢;omega
     · simp at ih ⊢;omega
def Co.inh (c:Cf)(k:Co)(r s:Int) :Bool:=
 let o:=(c_c k.Own s).getD 0 - 1
 decide (0≤o∧o≠r) && (decide ((c.rt o).Exit=(c.rt r).Entry) && inL (c.rt o).Overlap s)
def Co.blocked (c:Cf)(k:Co)(r:Int)(l:List Int) :Bool:=l.any fun s=>decide ((c_c k.Own s).getD 0≠0) && !k.inh c r s
def Co.may (c:Cf)(k:Co)(r:Int)(l:List Int) :Int:=
 if a_nl c l k.Routes 0=true then 23 else if k.blocked c r l=true then 22 else 0
def a_ec (c:Cf) :List St→Int
 | []=>0
 | s::r=>let n:=((c_c c.Secs s.Sec).getD ⟨0,0,0⟩).Line;if n > 0 then n else a_ec c r
def Co.done (k:Co)(e:Int)(y:Co) :Co × Int:=(if e=0 then y else k,e)
end
section
structure FitIs (c:Cf) (k:Co) :Prop where
 chk:c.check=0
 lOwn:k.Own.length=c.Secs.length
 lPts:k.Points.length=c.Secs.length
 lRes:k.Resets.length=c.Secs.length
 lRts:k.Routes.length=c.Rts.length
 lXs:k.Xs.length=c.Xs.length
 lLn:k.Lines.length=4
 own:∀o ∈ k.Own,-2≤o∧o≤c.Rts.length
 rts:∀(i:Nat) x r,k.Routes[i]? =some x→c.Rts[i]? =some r→Rs.fits (x,r) =true
 pts:∀m ∈ k.Points,Mv.fits m=true
 xs:∀m ∈ k.Xs,Mv.fits m=true
 lns:∀l ∈ k.Lines,Ls.fits l=true
 res:∀z ∈ k.Resets,tm 1 z=true
theorem a_et {α:Type}{l:List α}{i:Int}{x:α}(h:c_c l i=some x) :x ∈ l:=List.mem_of_getElem? (y_r h).2.2
theorem a_ok {α:Type}{l:List α}{i:Int}{p:α→Prop}{z:α}(hz:p z)(h:∀x ∈ l,p x) :p ((c_c l i).getD z):=by
 cases hg:c_c l i with
 | none=>exact hz
 | some x=>exact h x (a_et hg)
theorem a_at {c:Cf}(h:c.check=0)(l:List St) :0≤a_ec c l∧a_ec c l≤3:=by
 induction l with
 | nil=>exact ⟨Int.le_refl _,by unfold a_ec;omega⟩
 | cons s r ih=>
   rw[a_ec]
   have hs:0≤((c_c c.Secs s.Sec).getD ⟨0,0,0⟩).Line∧((c_c c.Secs s.Sec).getD ⟨0,0,0⟩).Line≤3:=by
     refine a_ok (p:=fun y:Sec=>0≤y.Line∧y.Line≤3) (by decide) fun y hy=>?_
     obtain ⟨i,hi,e⟩:=List.getElem_of_mem hy
     exact a_is (t_p h).1 (i:=i) (by rw[List.getElem?_eq_getElem hi,e])
   split
   · exact hs
   · exact ih
end
end Go.Fw
namespace Go.Proofs.YtfdffboelecgoaaGreatDoor
open Go.Fw Go.Proofs Go.RowKit
open Go.Proofs.Tryz (prog)
section
variable {σ:Store}
theorem a_lg {t:TypeId}{bytes:Nat}{d:D}{rows:List (List D)}{Q:RV→Store→Prop}(h:At prog σ t d rows)(hz:d≠ .zsl)(hb:bytes * rows.length≤140737488355328)
   (hQ:∀d' s,Own prog σ s t d' rows→Q (.a (.one d')) s) :
   ∃b:Bool,(j_q .sl d b)∧a_c (b != false) (Q (.a (.one .nils)) σ) (Fw.newObj σ (.live t []) (fun (id:Nat)=>fun (σ':Store)=>a_e prog σ' t bytes (.osl id 0 0) d (fun (d:D)=>fun (σ'1:Store)=>Q (.a (.one d)) σ'1))):=by
 have new:∀b:Bool,b=false→a_c (b != false) (Q (.a (.one .nils)) σ) (Fw.newObj σ (.live t []) (fun (id:Nat)=>fun (σ':Store)=>a_e prog σ' t bytes (.osl id 0 0) d (fun (d:D)=>fun (σ'1:Store)=>Q (.a (.one d)) σ'1))):=by
   rintro b rfl
   rw[show (false != false) =false from by decide]
   refine (a_n (K:=fun id σ'=>a_e prog σ' t bytes (.osl id 0 0) d fun d σ'1=>Q (.a (.one d)) σ'1) ?_:Fw.newObj σ (.live t []) _)
   refine fun id s hid _ he hs=>?_
   have ho:Own prog σ s t (.osl id 0 0) []:=⟨At.fresh hs (by simp) rfl,he,a_bd hid,fun h=>h,by intro e;cases e⟩
   exact ho.append (h.ext he) (by simpa using hb) (by have:=h.size;simpa using this) fun d' s' ho' _ _=>hQ _ _ (by simpa using ho')
 have hr:=h.rows
 cases d <;> simp only[Go.Fw.Rows] at hr <;> try exact hr.elim
 · subst hr;exact ⟨true,rfl,hQ _ _ (.nil _ (.refl _))⟩
 · exact absurd rfl hz
 · exact ⟨false,rfl,new _ rfl⟩
 · exact ⟨false,rfl,new _ rfl⟩
theorem z_z {d:D}{rows:List (List D)}(h:At prog σ a_f d rows)(hz:d≠ .zsl)(hb:8 * rows.length≤140737488355328) :DCalls prog f_l [.one d] σ fun r s=>∃d',r= .a (.one d')∧Own prog σ s a_f d' rows:=
 p_8 d σ _ (a_lg (Q:=fun r s=>∃d',r= .a (.one d')∧Own prog σ s _ d' rows) h hz hb fun d' s ho=>⟨d',rfl,ho⟩)
end
end Go.Proofs.YtfdffboelecgoaaGreatDoor
namespace Go.Proofs.YtfdffboelecgoaaGreatDoor
open Go.Shelf Go.Proofs
open Go.Proofs.Tryz (prog)
section
def a_bs:Go.Shelf.Ren:=⟨fun | 189=>58 | 125=>96 | 257=>95 | 128=>129 | 129=>130 | 294=>120 | 295=>121 | 296=>122 | 297=>123 | 298=>124 | 299=>125 | 216=>126 | 300=>127 | 301=>128 | 328=>146 | 329=>147 | 330=>148 | 331=>149 | 332=>150 | 215=>151 | 343=>164 | n=>n,fun | 28=>25 | 3=>3 | 46=>40 | 0=>0 | 51=>175 | 53=>177 | 4=>4 | 183=>168 | 182=>167 | 131=>68 | 5=>5 | 9=>9 | 218=>193 | 222=>197 | 228=>214 | 229=>215 | n=>n,fun | n=>n⟩
theorem a_j7:Go.Proofs.Lays.n189 prog a_bs:= {
 mixed:=by kernel_rfl
 f125:=Tryz.func96.trans (congrArg some (by kernel_rfl))
 f128:=Tryz.func129.trans (congrArg some (by kernel_rfl))
 f129:=Tryz.func130.trans (congrArg some (by kernel_rfl))
 f189:=Tryz.func58.trans (congrArg some (by kernel_rfl))
 f215:=Tryz.func151.trans (congrArg some (by kernel_rfl))
 f216:=Tryz.func126.trans (congrArg some (by kernel_rfl))
 f257:=Tryz.func95.trans (congrArg some (by kernel_rfl))
 f294:=Tryz.func120.trans (congrArg some (by kernel_rfl))
 f295:=Tryz.func121.trans (congrArg some (by kernel_rfl))
 f296:=Tryz.func122.trans (congrArg some (by kernel_rfl))
 f297:=Tryz.func123.trans (congrArg some (by kernel_rfl))
 f298:=Tryz.func124.trans (congrArg some (by kernel_rfl))
 f299:=Tryz.func125.trans (congrArg some (by kernel_rfl))
 f300:=Tryz.func127.trans (congrArg some (by kernel_rfl))
 f301:=Tryz.func128.trans (congrArg some (by kernel_rfl))
 f328:=Tryz.func146.trans (congrArg some (by kernel_rfl))
 f329:=Tryz.func147.trans (congrArg some (by kernel_rfl))
 f330:=Tryz.func148.trans (congrArg some (by kernel_rfl))
 f331:=Tryz.func149.trans (congrArg some (by kernel_rfl))
 f332:=Tryz.func150.trans (congrArg some (by kernel_rfl))
 f343:=Tryz.func164.trans (congrArg some (by kernel_rfl))
 t0:=Tryz.underlying0
 a0:=Tryz.isAgg0
 z0:=Tryz.sizeOf0
 v0:=Tryz.zeroValue0
 t3:=Tryz.underlying3
 a3:=Tryz.isAgg3
 z3:=Tryz.sizeOf3
 v3:=Tryz.zeroValue3
 t4:=Tryz.underlying4
 a4:=Tryz.isAgg4
 z4:=Tryz.sizeOf4
 v4:=Tryz.zeroValue4
 t5:=Tryz.underlying5
 a5:=Tryz.isAgg5
 z5:=Tryz.sizeOf5
 v5:=Tryz.zeroValue5
 t9:=Tryz.underlying9
 a9:=Tryz.isAgg9
 z9:=Tryz.sizeOf9
 v9:=Tryz.zeroValue9
 t28:=Tryz.underlying25
 a28:=Tryz.isAgg25
 z28:=Tryz.sizeOf25
 v28:=Tryz.zeroValue25
 t46:=Tryz.underlying40
 a46:=Tryz.isAgg40
 z46:=Tryz.sizeOf40
 v46:=Tryz.zeroValue40
 t51:=Tryz.underlying175
 a51:=Tryz.isAgg175
 z51:=Tryz.sizeOf175
 v51:=Tryz.zeroValue175
 t53:=Tryz.underlying177
 a53:=Tryz.isAgg177
 z53:=Tryz.sizeOf177
 v53:=Tryz.zeroValue177
 t131:=Tryz.underlying68
 a131:=Tryz.isAgg68
 z131:=Tryz.sizeOf68
 v131:=Tryz.zeroValue68
 t182:=Tryz.underlying167
 a182:=Tryz.isAgg167
 z182:=Tryz.sizeOf167
 v182:=Tryz.zeroValue167
 t183:=Tryz.underlying168
 a183:=Tryz.isAgg168
 z183:=Tryz.sizeOf168
 v183:=Tryz.zeroValue168
 t218:=Tryz.underlying193
 a218:=Tryz.isAgg193
 z218:=Tryz.sizeOf193
 v218:=Tryz.zeroValue193
 t222:=Tryz.underlying197
 a222:=Tryz.isAgg197
 z222:=Tryz.sizeOf197
 v222:=Tryz.zeroValue197
 t228:=Tryz.underlying214
 a228:=Tryz.isAgg214
 z228:=Tryz.sizeOf214
 v228:=Tryz.zeroValue214
 t229:=Tryz.underlying215
 a229:=Tryz.isAgg215
 z229:=Tryz.sizeOf215
 v229:=Tryz.zeroValue215 }
end
section
def u_m:Go.Shelf.Ren:=⟨fun | 20=>59 | n=>n,fun | 22=>25 | 3=>3 | 4=>4 | 0=>0 | n=>n,fun | n=>n⟩
theorem a_c1:Go.Proofs.Lays2.n20 prog u_m:= {
 mixed:=by kernel_rfl
 f20:=Tryz.func59.trans (congrArg some (by kernel_rfl))
 t0:=Tryz.underlying0
 a0:=Tryz.isAgg0
 z0:=Tryz.sizeOf0
 v0:=Tryz.zeroValue0
 t3:=Tryz.underlying3
 a3:=Tryz.isAgg3
 z3:=Tryz.sizeOf3
 v3:=Tryz.zeroValue3
 t4:=Tryz.underlying4
 a4:=Tryz.isAgg4
 z4:=Tryz.sizeOf4
 v4:=Tryz.zeroValue4
 t22:=Tryz.underlying25
 a22:=Tryz.isAgg25
 z22:=Tryz.sizeOf25
 v22:=Tryz.zeroValue25
 i3:=by kernel_rfl }
end
end Go.Proofs.YtfdffboelecgoaaGreatDoor
namespace Go.Proofs.YtfdffboelecgoaaGreatDoor
open Go.Fw Go.Proofs Go.RowKit
open Go.Proofs.Tryz (prog)
section
variable {σ σ0:Store}
theorem a_bz {s:Store}{d:D}{l ys:List Int}(h:Own prog σ0 s a_f d (l.map Go.Fw.encI))(h0:l≠[])(hl:ys.length=l.length) :
   ∃id i0 t rows,d= .osl id i0 l.length∧s id= .live t rows∧prog.cellsOf t=1∧i0+l.length≤rows.length∧(rows.drop i0).take l.length=l.map g_m∧σ0 id= .free∧
     Own prog σ0 (s.set id (.live t (rows.take i0 ++ ys.map g_m ++ rows.drop (i0+l.length)))) a_f d (ys.map Go.Fw.encI):=by
 have hr:=h.at_.rows
 have hsz:=h.at_.size
 rw[List.length_map] at hsz
 have hnz:=h.nz
 have hns:=h.nsl
 have hnew:=h.new
 have hlen:=h.at_.lenI
 rw[List.length_map] at hlen
 cases d <;> simp only[Go.Fw.Rows] at hr <;> try exact hr.elim
 · exact absurd (List.map_eq_nil_iff.1 hr) h0
 · exact absurd rfl hnz
 · exact absurd trivial hns
 · rename_i id i0 len
   obtain ⟨t,rows,a1,a2,a3,a4⟩:=hr
   have e:l.length=len:=hlen
   subst e
   have ht:prog.cellsOf t=1:=by rw[a2];exact c_int
   have hn:=hnew _ _ _ rfl
   refine ⟨id,i0,t,rows,rfl,a1,ht,a3,a4.symm,hn,⟨⟨⟨t,_,Store.set_same _ _ _,a2,?_,?_⟩,?_,fun es rows e=>by cases e⟩,?_,hnew,fun h=>h,by intro e;cases e⟩⟩
   · simp;omega
   · have hi0:(rows.take i0).length=i0:=by simp;omega
     rw[List.append_assoc,List.drop_append_of_le_length (by omega),List.drop_of_length_le (by omega),List.nil_append,List.take_append_of_le_length (by simp;omega),List.take_of_length_le (by simp;omega)]
     rfl
   · rw[List.length_map];omega
   · intro i hi
     rw[Store.set_ne _ _ (by intro e;subst e;exact hi hn)]
     exact h.ext i hi
theorem a_cl {s:Store}{d:D}{l:List Int}(h:Own prog σ0 s a_f d (l.map Go.Fw.encI))(h0:l≠[]) :
   DCalls prog j_u [.one d] s fun r s'=>r= .tup []∧Own prog σ0 s' a_f d ((i_7 l).map Go.Fw.encI):=by
 have hsz:=h.at_.size
 rw[List.length_map] at hsz
 obtain ⟨id,i0,t,rows,rfl,a1,ht,a3,a4,hn,ho⟩:=a_bz (ys:=i_7 l) h h0 (by simp[i_7])
 refine (a_d4 a_j7 ht a1 a3 a4 (List.length_pos_iff.2 h0) (by omega)).mono ?_
 rintro r s' ⟨rfl,rfl⟩
 exact ⟨rfl,ho⟩
theorem w_w {s:Store}{d:D}{l:List Int}(h:Own prog σ0 s a_f d (l.map Go.Fw.encI))(h0:l≠[])(hp:l.Pairwise (·≤·)) :
   DCalls prog g_9 [.one d] s fun r s'=>∃d',r= .a (.one d')∧Own prog σ0 s' a_f d' ((cpt l).map Go.Fw.encI):=by
 have hsz:=h.at_.size
 rw[List.length_map] at hsz
 have hc:=a_cx hp
 have hle:=a_gx l
 obtain ⟨id,i0,t,rows,rfl,a1,ht,a3,a4,hn,ho⟩:=a_bz (ys:=Lib.compact l ++ List.replicate (l.length - (Lib.compact l).length) 0) h h0 (by rw[hc];simp;omega)
 refine (w_c a_c1 ht a1 a3 a4 (List.length_pos_iff.2 h0) (by omega)).mono ?_
 rintro r s' ⟨rfl,rfl⟩
 have:=ho.sub (lo:=0) (hi:=(cpt l).length) (by omega) (by rw[hc];simp)
 rw[hc] at this ⊢
 refine ⟨_,rfl,?_⟩
 have e:((((cpt l ++ List.replicate (l.length - (cpt l).length) 0).map Go.Fw.encI).drop 0).take ((cpt l).length - 0)) =(cpt l).map Go.Fw.encI:=by
   rw[List.drop_zero,Nat.sub_zero,List.map_append,List.take_append_of_le_length (by simp),List.take_of_length_le (by simp)]
 rw[e] at this
 exact this
def a_cz:D→Prop
 | .sl _ rows=>∀row ∈ rows,row[4]?≠some .zsl
 | _=>True
theorem a_mj {c4:D}{rows:List (List D)}(hz:a_cz c4)(hat:∀s,At prog s a_z c4 rows){i:Nat}{row:List D}(hr:rows[i]? =some row) :row[4]?≠some .zsl:=by
 have hx:=(hat (fun _=> .free)).rows
 cases c4 <;> simp only[Go.Fw.Rows] at hx <;> try exact hx.elim
 · subst hx;simp at hr
 · subst hx;simp at hr
 · obtain ⟨rfl,_⟩:=hx;exact hz _ (List.mem_of_getElem? hr)
 · obtain ⟨t,rows',h1,_⟩:=hx;cases h1
def RtSz (x:Rt) :Prop:=1≤x.Overlap.length+x.Path.length+x.Flank.length∧x.Path.length≤2 ^ 20∧x.Flank.length≤2 ^ 20∧x.Overlap.length≤2 ^ 20
section
variable {c0 c1 c2 c3 c4:D} {c:Cf} (h:∀s,a_jf prog a_z a_p a_2 a_f s c4 c.Rts)
include h
theorem a_oc {i:Nat}{x:Rt}(hx:c.Rts[i]? =some x) :∃rows d1 d2 d3,(∀s,At prog s a_z c4 rows)∧rows.length=c.Rts.length∧rows[i]? =some [iD x.Entry,iD x.Exit,d1,d2,d3, .bool x.Shunt]∧
   (∀s,At prog s a_p d1 (x.Path.map St.enc))∧(∀s,At prog s a_2 d2 (x.Flank.map Nd.enc))∧(∀s,At prog s a_f d3 (x.Overlap.map Go.Fw.encI)):=by
 obtain ⟨rows,hat,hlen,hrow⟩:=w_6 h
 obtain ⟨row,hrw⟩:=a_r (l:=rows) (j:=i) (by have:=(List.getElem?_eq_some_iff.1 hx).1;omega)
 obtain ⟨d1,d2,d3,rfl,q1,q2,q3⟩:=hrow i row x hrw hx
 exact ⟨rows,d1,d2,d3,hat,hlen,hrw,q1,q2,q3⟩
theorem a_h4 (hs:∀x ∈ c.Rts,RtSz x)(hz:a_cz c4)(i:Int) :DCalls prog d_9 [cfA c0 c1 c2 c3 c4 c,iA i] σ (i_1 σ a_f ((c.lockL i).map Go.Fw.encI)):=by
 refine (a_a3 _ _ _ _ _ _ _ _ _ i σ _ ?_).ret (Q:=fun r s=>∃r' σ',Ret prog σ s r σ' r'∧i_1 σ a_f ((c.lockL i).map Go.Fw.encI) r' σ') (fun r s h=>h)
 intro R hR
 have nil:c_c c.Rts i=none→∃r' σ',Ret prog σ σ (.a (.one .nils)) σ' r'∧i_1 σ a_f ((c.lockL i).map Go.Fw.encI) r' σ':=fun e=>by
   have:c.lockL i=[]:=by unfold Cf.lockL;rw[e]
   rw[this];exact r_j (.nil _ (.refl _)) (a_hr _)
 obtain ⟨rows,hat,hlen,_⟩:=h σ
 refine bcd (fun e=>nil (q_w e)) (fun e0=>hat.lenK (bcd (fun e=>nil (u_9 (by omega))) (fun e1=>hR σ ?_)))
 obtain ⟨x,hx⟩:=a_l8 (l:=c.Rts) (i:=i) e0 (by omega)
 clear hR nil hat
 have hll:c.lockL i=Cf.lockR x:=by unfold Cf.lockL;rw[hx]
 rw[hll]
 obtain ⟨rows,d1,d2,d3,hat,hlen,hrow,q1,q2,q3⟩:=a_oc h (y_r hx).2.2
 obtain ⟨w0,w1,w2,w3⟩:=hs x (a_et hx)
 refine (hat σ).load hrow b_k (by omega) ⟨_,_,_,_,_,_,rfl,(z_z (q3 σ) ?_ (by rw[List.length_map];omega)).mono ?_⟩
 · exact fun e=>a_mj hz hat hrow (by rw[e];rfl)
 rintro r s ⟨d,rfl,ho⟩
 refine ⟨d,rfl,(q1 σ).lenK ⟨fun d n s'=>∃j:Nat,n=j∧j≤x.Path.length∧Own prog σ s' a_f d ((x.Overlap ++ (x.Path.take j).map St.Sec).map Go.Fw.encI),fun _ n _=>x.Path.length - n.toNat,⟨0,rfl,by omega,by simpa using ho⟩,?_⟩⟩
 rintro d n s' ⟨j,rfl,hj,ho⟩
 rw[List.length_map]
 refine bcd (fun hlt=>?_) (fun hge=>?_)
 · obtain ⟨y,hy⟩:=a_r (l:=x.Path) (j:=j) (by omega)
   refine (q1 s').load (a_x hy) e_a rfl ⟨y.Sec,y.In,y.Out,rfl,a_n fun id s2 hid _ he hs2=>?_⟩
   refine (ho.ext' he).append (At.fresh hs2 (by simp) rfl) (by simp;omega) (by simp;omega) fun d4 s5 ho5 _ _=>?_
   rw[a_m (by omega)]
   refine ⟨rfl,⟨j+1,rfl,by omega,?_⟩,a_j1 (by omega)⟩
   have e:x.Overlap ++ (x.Path.take (j+1)).map St.Sec=(x.Overlap ++ (x.Path.take j).map St.Sec) ++ [y.Sec]:=by rw[List.take_add_one,hy];simp
   rw[e,List.map_append];exact ho5
 have e:j=x.Path.length:=by omega
 rw[e,List.take_length] at ho
 refine (q2 s').lenK ⟨fun d n s'=>∃j:Nat,n=j∧j≤x.Flank.length∧Own prog σ s' a_f d ((x.Overlap ++ x.Path.map St.Sec ++ (x.Flank.take j).map Nd.Sec).map Go.Fw.encI),fun _ n _=>x.Flank.length - n.toNat,⟨0,rfl,by omega,by simpa using ho⟩,?_⟩
 rintro d n s' ⟨j,rfl,hj,ho⟩
 rw[List.length_map]
 refine bcd (fun hlt=>?_) (fun hge=>?_)
 · obtain ⟨y,hy⟩:=a_r (l:=x.Flank) (j:=j) (by omega)
   refine (q2 s').load (a_x hy) e_t rfl ⟨y.Sec,y.Pos,rfl,a_n fun id s2 hid _ he hs2=>?_⟩
   refine (ho.ext' he).append (At.fresh hs2 (by simp) rfl) (by simp;omega) (by simp;omega) fun d4 s5 ho5 _ _=>?_
   rw[a_m (by omega)]
   refine ⟨⟨j+1,rfl,by omega,?_⟩,a_j1 (by omega)⟩
   have e:x.Overlap ++ x.Path.map St.Sec ++ (x.Flank.take (j+1)).map Nd.Sec=(x.Overlap ++ x.Path.map St.Sec ++ (x.Flank.take j).map Nd.Sec) ++ [y.Sec]:=by rw[List.take_add_one,hy];simp
   rw[e,List.map_append];exact ho5
 have e:j=x.Flank.length:=by omega
 rw[e,List.take_length] at ho
 have hne:x.Overlap ++ x.Path.map St.Sec ++ x.Flank.map Nd.Sec≠[]:=by
   intro e
   have:=congrArg List.length e
   simp only[List.length_append,List.length_map,List.length_nil] at this;omega
 refine (a_cl ho hne).mono ?_
 rintro r s2 ⟨rfl,ho⟩
 refine ⟨rfl,(w_w ho (fun e=>hne (by
   have:=congrArg List.length e
   simp only[i_7,List.length_mergeSort] at this
   exact List.length_eq_zero_iff.1 this)) (t_t _)).mono ?_⟩
 rintro r s3 ⟨d',rfl,ho⟩
 exact ⟨d',rfl,r_j ho (a_hr _)⟩
end
theorem a_lp {c:Cf}(hok:c.check=0) :∀x ∈ c.Rts,RtSz x:=fun x hx=>by
 have hr:=a_k6 hok hx
 have w1:=hr.len
 have w2:=hr.flen
 have w3:=hr.olen
 exact ⟨by omega,by omega,by omega,by omega⟩
theorem o_3 {c0 c1 c2 c3 c4:D}{c:Cf}(h:∀s,CfAt s c0 c1 c2 c3 c4 c)(hok:c.check=0)(hz:a_cz c4)(i:Int) :DCalls prog d_9 [cfA c0 c1 c2 c3 c4 c,iA i] σ (i_1 σ a_f ((c.lockL i).map Go.Fw.encI)):=
 a_h4 (fun s=>(h s).rts) (a_lp hok) hz i
end
section
theorem ty_i {row:List D}{n:Nat}(h:tyD prog n a_f row) :∃m,row=Go.Fw.encI m∧I64 m:=by
 obtain ⟨_,_,rfl,⟨m,rfl,hm⟩,rfl⟩:=r_c n 2 _ _ [.int .i64] h (by kernel_rfl)
 exact ⟨m,rfl,e_6 hm⟩
theorem a_nn {t:TypeId}{row:List D}{n:Nat}(h:tyD prog n t row)(hs:h_3 prog 5 t=some [.int .i64, .int .i64]) :∃a b,row=[iD a,iD b]∧I64 a∧I64 b:=by
 obtain ⟨_,_,rfl,⟨a,rfl,ha⟩,_,_,rfl,⟨b,rfl,hb⟩,rfl⟩:=r_c n 5 _ _ _ h hs
 exact ⟨a,b,rfl,e_6 ha,e_6 hb⟩
theorem a_ng {t:TypeId}{row:List D}{n:Nat}(h:tyD prog n t row)(hs:h_3 prog 5 t=some [.int .i64, .int .i64, .int .i64]) :∃a b c,row=[iD a,iD b,iD c]∧I64 a∧I64 b∧I64 c:=by
 obtain ⟨_,_,rfl,⟨a,rfl,ha⟩,_,_,rfl,⟨b,rfl,hb⟩,_,_,rfl,⟨c,rfl,hc⟩,rfl⟩:=r_c n 5 _ _ _ h hs
 exact ⟨a,b,c,rfl,e_6 ha,e_6 hb,e_6 hc⟩
theorem a_ou {t:TypeId}{row:List D}{n:Nat}(h:tyD prog n t row)(hs:h_3 prog 5 t=some [.int .i64, .int .i64, .int .i64, .int .i64]) :∃a b c d,row=[iD a,iD b,iD c,iD d]∧I64 a∧I64 b∧I64 c∧I64 d:=by
 obtain ⟨_,_,rfl,⟨a,rfl,ha⟩,_,_,rfl,⟨b,rfl,hb⟩,_,_,rfl,⟨c,rfl,hc⟩,_,_,rfl,⟨d,rfl,hd⟩,rfl⟩:=r_c n 5 _ _ _ h hs
 exact ⟨a,b,c,d,rfl,e_6 ha,e_6 hb,e_6 hc,e_6 hd⟩
theorem a_f7 {row:List D}{n:Nat}(h:tyD prog n a_u row) :∃s:Sec,row=s.enc∧I64 s.Kind∧I64 s.OC∧I64 s.Line:=by
 obtain ⟨a,b,c,rfl,q⟩:=a_ng h (by kernel_rfl)
 exact ⟨⟨a,b,c⟩,rfl,q⟩
theorem a_k7 {row:List D}{n:Nat}(h:tyD prog n b_o row) :∃s:Jt,row=s.enc∧I64 s.A∧I64 s.AEnd∧I64 s.B∧I64 s.BEnd:=by
 obtain ⟨a,b,c,d,rfl,q⟩:=a_ou h (by kernel_rfl)
 exact ⟨⟨a,b,c,d⟩,rfl,q⟩
theorem a_i1 {row:List D}{n:Nat}(h:tyD prog n a_0 row) :∃s:Sg,row=s.enc∧I64 s.Sec∧I64 s.End_:=by
 obtain ⟨a,b,rfl,q⟩:=a_nn h (by kernel_rfl)
 exact ⟨⟨a,b⟩,rfl,q⟩
theorem a_mh {row:List D}{n:Nat}(h:tyD prog n a_p row) :∃s:St,row=s.enc∧I64 s.Sec∧I64 s.In∧I64 s.Out:=by
 obtain ⟨a,b,c,rfl,q⟩:=a_ng h (by kernel_rfl)
 exact ⟨⟨a,b,c⟩,rfl,q⟩
theorem a_md {row:List D}{n:Nat}(h:tyD prog n a_2 row) :∃s:Nd,row=s.enc∧I64 s.Sec∧I64 s.Pos:=by
 obtain ⟨a,b,rfl,q⟩:=a_nn h (by kernel_rfl)
 exact ⟨⟨a,b⟩,rfl,q⟩
structure RtI (r:Rt) :Prop where
 entry:I64 r.Entry
 exit:I64 r.Exit
 path:∀s ∈ r.Path,I64 s.Sec∧I64 s.In∧I64 s.Out
 flank:∀s ∈ r.Flank,I64 s.Sec∧I64 s.Pos
 over:∀o ∈ r.Overlap,I64 o
 np:24 * r.Path.length≤140737488351232
 nf:16 * r.Flank.length≤140737488351232
 no:8 * r.Overlap.length≤140737488351232
structure CfI (c:Cf) :Prop where
 secs:∀s ∈ c.Secs,I64 s.Kind∧I64 s.OC∧I64 s.Line
 jts:∀s ∈ c.Jts,I64 s.A∧I64 s.AEnd∧I64 s.B∧I64 s.BEnd
 sigs:∀s ∈ c.Sigs,I64 s.Sec∧I64 s.End_
 xs:∀s ∈ c.Xs,I64 s
 rts:∀r ∈ c.Rts,RtI r
 age:I64 c.Age
 brake:I64 c.Brake
 hold:I64 c.Hold
 budget:I64 c.Budget
 nsecs:24 * c.Secs.length≤140737488351232
 njts:32 * c.Jts.length≤140737488351232
 nsigs:16 * c.Sigs.length≤140737488351232
 nxs:8 * c.Xs.length≤140737488351232
 nrts:96 * c.Rts.length≤140737488351232
theorem a_ij {row:List D}{n:Nat}(h:tyD prog n a_z row) :∃r:Rt,((∀s,RtAt prog a_p a_2 a_f s row r)∧RtI r)∧row[4]?≠some .zsl:=by
 obtain ⟨_,_,rfl,⟨a,rfl,ha⟩,_,_,rfl,⟨b,rfl,hb⟩,d1,_,rfl,h1,d2,_,rfl,h2,d3,_,rfl,h3,_,_,rfl,⟨sh,rfl⟩,rfl⟩:=r_c n 5 _ _ [.int .i64, .int .i64, .sl a_p, .sl a_2, .sl a_f, .bool] h (by kernel_rfl)
 obtain ⟨l1,a1,b1,_,e1⟩:=l_1 (bytes:=24) St.enc _ (fun row n h=>a_mh h) (by kernel_rfl) (by omega) h1
 obtain ⟨l2,a2,b2,_,e2⟩:=l_1 (bytes:=16) Nd.enc _ (fun row n h=>a_md h) (by kernel_rfl) (by omega) h2
 obtain ⟨l3,a3,b3,z3,e3⟩:=l_1 (bytes:=8) Go.Fw.encI _ (fun row n h=>ty_i h) (by kernel_rfl) (by omega) h3
 exact ⟨⟨a,b,l1,l2,l3,sh⟩,⟨fun s=>⟨d1,d2,d3,rfl,a1 s,a2 s,a3 s⟩,e_6 ha,e_6 hb,b1,b2,b3,e1,e2,e3⟩,fun e=>z3 (by injection e)⟩
theorem a_ft {cs:List D}{n:Nat}(h:tyD prog n t_Config cs) :∃c0 c1 c2 c3 c4 c,cs=[c0,c1,c2,c3,c4,iD c.Age,iD c.Brake,iD c.Hold,iD c.Budget]∧(∀s,CfAt s c0 c1 c2 c3 c4 c)∧CfI c∧a_cz c4:=by
 obtain ⟨c0,_,rfl,h0,c1,_,rfl,h1,c2,_,rfl,h2,c3,_,rfl,h3,c4,_,rfl,h4,_,_,rfl,⟨a,rfl,ha⟩,_,_,rfl,⟨b,rfl,hb⟩,_,_,rfl,⟨ho,rfl,hho⟩,_,_,rfl,⟨bu,rfl,hbu⟩,rfl⟩:=
   r_c n 5 _ _ [.sl a_u, .sl b_o, .sl a_0, .sl a_f, .sl a_z, .int .i64, .int .i64, .int .i64, .int .i64] h (by kernel_rfl)
 obtain ⟨l0,a0,b0,_,e0⟩:=l_1 (bytes:=24) Sec.enc _ (fun row n h=>a_f7 h) (by kernel_rfl) (by omega) h0
 obtain ⟨l1,a1,b1,_,e1⟩:=l_1 (bytes:=32) Jt.enc _ (fun row n h=>a_k7 h) (by kernel_rfl) (by omega) h1
 obtain ⟨l2,a2,b2,_,e2⟩:=l_1 (bytes:=16) Sg.enc _ (fun row n h=>a_i1 h) (by kernel_rfl) (by omega) h2
 obtain ⟨l3,a3,b3,_,e3⟩:=l_1 (bytes:=8) Go.Fw.encI _ (fun row n h=>ty_i h) (by kernel_rfl) (by omega) h3
 obtain ⟨rows,l4,a4,q4,b4,_,e4⟩:=a_nq (bytes:=96) (fun row r=>((∀s,RtAt prog a_p a_2 a_f s row r)∧RtI r)∧row[4]?≠some .zsl) (fun row n h=>a_ij h) (by kernel_rfl) (by omega) h4
 refine ⟨c0,c1,c2,c3,c4,⟨l0,l1,l2,l3,l4,a,b,ho,bu⟩,rfl,fun s=>⟨a0 s,a1 s,a2 s,a3 s,rows,a4 s,q4,fun i row r x y=>(b4 i row r x y).1.1 s⟩,⟨b0,b1,b2,b3,?_,e_6 ha,e_6 hb,e_6 hho,e_6 hbu,e0,e1,e2,e3,e4⟩,?_⟩
 · intro r hr
   obtain ⟨i,hi⟩:=List.mem_iff_getElem?.1 hr
   have hi:l4[i]? =some r:=hi
   have hlt:=(List.getElem?_eq_some_iff.1 hi).1
   obtain ⟨row,hrow⟩:=a_r (l:=rows) (j:=i) (by omega)
   exact (b4 i row r hrow hi).1.2
 · have hr:=(a4 noS).rows
   cases c4 <;> first | trivial | skip
   obtain ⟨rfl,_⟩:=hr
   intro row hrow
   obtain ⟨i,hi⟩:=List.mem_iff_getElem?.1 hrow
   have hlt:=(List.getElem?_eq_some_iff.1 hi).1
   obtain ⟨r,hr⟩:=a_r (l:=l4) (j:=i) (by omega)
   exact (b4 i row r hi hr).2
end
end Go.Proofs.YtfdffboelecgoaaGreatDoor
section
set_option maxRecDepth 20000
namespace Go.Proofs.YtfdffboelecgoaaGreatDoor
open Go.Fw Go.Proofs Go.RowKit
open Go.Proofs.Tryz (prog)
variable {σ σ0:Store}
theorem t_c {d f:D}{l:List Int}{p:Int→Bool}(h:At prog σ a_f d (l.map Go.Fw.encI))(hf:FnIs prog σ f (fun x:Int=>iA x) l p) :
   Pure prog d_7 [.one d, .one f] σ (.a (iA (j_2 p l 0))):=by
 have hl:=h.size
 rw[List.length_map] at hl
 obtain ⟨f1,a,b,as0',bs,rfl,ha,hb,hf⟩:=hf
 refine l_w d _ σ _ (h.lenK ⟨fun n s=>s=σ∧Rng l (fun r=>∀j:Nat,n=j→j_2 p r j=j_2 p l 0) n,fun n _=>l.length - n.toNat,⟨rfl, .start fun j hj=>by cases j with | zero=>rfl | succ j=>omega⟩,?_⟩)
 rintro n τ ⟨rfl,hr⟩
 refine bcd (fun hlt=>?_) (fun hge=>?_)
 · obtain ⟨j,x,rfl,hx,hj,hF,nx⟩:=hr.step (by simp) hl hlt
   refine h.load (a_x hx) c_int rfl ⟨x,rfl,f1,a,b,as0',bs,rfl,ha,hb,?_⟩
   have hF:=hF j rfl
   rw[j_2] at hF
   refine (hf x (List.mem_of_getElem? hx)).mono ?_
   rintro r s ⟨rfl,rfl⟩
   refine ⟨p x,rfl,bc (fun hp=>?_) (fun hp=>?_)⟩
   · rw[if_pos hp] at hF;exact ⟨by rw[←hF],rfl⟩
   · refine r_q rfl (nx _ fun j' hj'=>?_)
     rw[a_m (by omega)] at hj'
     have:j'=j+1:=by omega
     subst this
     rw[if_neg (by rw[hp];simp)] at hF
     exact hF
 · refine ⟨?_,rfl⟩
   obtain ⟨j,hj,hj2,hF⟩:=hr
   have hF:=hF j hj
   rw[List.length_map] at hge
   rw[e_j (by omega)] at hF
   rw[←hF];rfl
theorem o_d {d f:D}{l:List Int}{p:Int→Bool}(h:At prog σ a_f d (l.map Go.Fw.encI))(hf:FnIs prog σ f (fun x:Int=>iA x) l p) :
   Pure prog d_j [.one d, .one f] σ (.a (bA (l.any p))):=
 j_c d f σ _ ((t_c h hf).use ⟨_,rfl,by rw[r_1];exact ⟨rfl,rfl⟩⟩)
theorem r_z {a b:D}{la lb:List Int}(ha:At prog σ a_f a (la.map Go.Fw.encI))(hb:At prog σ a_f b (lb.map Go.Fw.encI)) :Pure prog g_w [.one a, .one b] σ (.a (bA (decide (la=lb)))):=by
 have hs:=ha.size
 rw[List.length_map] at hs
 refine s_2 a b σ _ (ha.lenK (hb.lenK ?_))
 rw[List.length_map,List.length_map]
 refine bcn (fun hne=>⟨?_,rfl⟩) (fun he=>ha.lenK ?_)
 · rw[decide_eq_false (fun e=>hne (by rw[e]))]
 have hl:la.length=lb.length:=by omega
 rw[List.length_map]
 refine ⟨fun n s=>s=σ∧EqR la lb n,fun n _=>la.length - n.toNat,⟨rfl, .start _ _⟩,?_⟩
 rintro n s ⟨rfl,hr⟩
 refine bcd (fun hlt=>?_) (fun hge=>⟨?_,rfl⟩)
 · obtain ⟨j,x,y,rfl,hx,hy,hn,hy2⟩:=hr.step hl rfl hs hlt
   refine ha.load (a_x hx) c_int rfl ⟨x,rfl,hb.load (a_x hy) c_int rfl ⟨y,rfl,bcn (fun e=>⟨?_,rfl⟩) (fun e=>r_q rfl (hy2 e))⟩⟩
   rw[decide_eq_false (hn e)]
 · rw[decide_eq_true (hr.done hl rfl hge)]
theorem u_z {d:D}{l:List Int}(v:Int)(h:At prog σ a_f d (l.map Go.Fw.encI)) :Pure prog e_g [.one d,iA v] σ (.a (bA (inL l v))):=by
 refine m_i d v σ _ ((h_t v h).use ⟨_,rfl,?_,rfl⟩)
 have key:∀(l:List Int) (j:Nat),decide (i_y l v j≥0) =inL l v:=by
   intro l
   induction l with
   | nil=>intro j;simp[i_y,inL]
   | cons x r ih=>
     intro j
     rw[i_y]
     by_cases hx:v=x
     · rw[if_pos hx];simp[inL,hx]
     · rw[if_neg hx,ih,inL,inL];simp[hx]
 rw[key]
def a_fp (c:Cf)(a b:Int) :Bool:=(c.lockL a).any fun s=>inL (c.lockL b) s
theorem s_k {c0 c1 c2 c3 c4:D}{c:Cf}{a b:Int}(hL:∀(s:Store) (i:Int),DCalls prog d_9 [cfA c0 c1 c2 c3 c4 c,iA i] s (i_1 s a_f ((c.lockL i).map Go.Fw.encI))) :
   Fw.Pure prog h_j [cfA c0 c1 c2 c3 c4 c,iA a,iA b] σ (.a (bA (a_fp c a b))):=by
 refine .of (u_p _ _ _ _ _ _ _ _ _ a b σ _ ((hL σ b).mono ?_)) (v_y _)
 rintro r s ⟨rfl,d,rfl,hd⟩
 refine ⟨d,rfl,a_n fun id s1 hid _ he hs=>b_b hs (by simp) fun s2 hs2 ho2=>(hL s2 a).mono ?_⟩
 rintro r s3 ⟨rfl,d1,rfl,hd1⟩
 have hs2:s3 id= .live a_ej [[d]]:=hs2
 refine ⟨d1,rfl,(o_d (hd1 s3) (p:=fun x=>inL (c.lockL b) x) ⟨g_b,_,_,[],[.one (.el (.osl id 0 1) 0 0)],rfl,rfl,rfl,fun x _=>?_⟩).use ⟨_,rfl,rfl,d_r he hid ho2⟩⟩
 exact q_v x _ s3 _ ⟨_,_,_,rfl,_,a_g hs2,d,rfl,(u_z x (hd s3)).use ⟨_,rfl,rfl,rfl⟩⟩
def litS:Cf:=⟨[⟨0,0,0⟩,⟨1,0,0⟩,⟨0,0,0⟩,⟨0,0,0⟩,⟨0,0,1⟩],[⟨0,1,1,0⟩,⟨1,1,2,0⟩,⟨1,2,3,0⟩,⟨2,1,4,0⟩],[⟨0,1⟩,⟨2,1⟩],[],[⟨0,1,[⟨1,0,1⟩,⟨2,0,1⟩],[],[],false⟩,⟨1,-1,[⟨4,0,1⟩],[],[],false⟩],2,1,4,1000⟩
def sD0:D:= .sl 3 [[iD 0,iD 0,iD 0],[iD 1,iD 0,iD 0],[iD 0,iD 0,iD 0],[iD 0,iD 0,iD 0],[iD 0,iD 0,iD 1]]
def sD1:D:= .sl 4 [[iD 0,iD 1,iD 1,iD 0],[iD 1,iD 1,iD 2,iD 0],[iD 1,iD 2,iD 3,iD 0],[iD 2,iD 1,iD 4,iD 0]]
def sD2:D:= .sl 2 [[iD 0,iD 1],[iD 2,iD 1]]
def sD4:D:= .sl 6 [[iD 0,iD 1, .sl 3 [[iD 1,iD 0,iD 1],[iD 2,iD 0,iD 1]], .nils, .nils, .bool false],[iD 1,iD (-1), .sl 3 [[iD 4,iD 0,iD 1]], .nils, .nils, .bool false]]
theorem n_5 (s:Store) :CfAt s sD0 sD1 sD2 .nils sD4 litS:=
 ⟨p_l b_j (by simp),p_l c_q (by simp),p_l b_w (by simp), .nil,⟨_,p_l b_k (by simp),rfl,fun i row r h1 h2=>by
   have hi:i=0∨i=1:=by have:=(List.getElem?_eq_some_iff.1 h1).1;simp at this;omega
   rcases hi with rfl | rfl
   · simp at h1;subst h1
     simp[litS] at h2;subst h2
     exact ⟨_,_,_,rfl,p_l e_a (by simp), .nil, .nil⟩
   · simp at h1;subst h1
     simp[litS] at h2;subst h2
     exact ⟨_,_,_,rfl,p_l e_a (by simp), .nil, .nil⟩⟩⟩
theorem a_hq:a_cz sD4:=by
 intro row hr
 simp only[List.mem_cons,List.not_mem_nil,or_false] at hr
 rcases hr with rfl | rfl <;> (intro e;cases e)
theorem u_8:cf64 litS:=by
 constructor <;> simp[litS,l_o,i64]
theorem a_lc:litS.lockL 0=[1,2]:=by
 show Cf.lockR ⟨0,1,[⟨1,0,1⟩,⟨2,0,1⟩],[],[],false⟩ =[1,2]
 rw[←a_fg];decide +kernel
theorem p_x:litS.check=0:=by decide +kernel
theorem a_ln:(c_b litS).length≤2 ^ 20:=by decide +kernel
theorem law06_small_ok:Pure prog j_8 [] σ (.a (cfA sD0 sD1 sD2 .nils sD4 litS)):=x_u σ _ ⟨rfl,rfl⟩
theorem law06_lives_ok:Pure prog j_z [] σ (.a (bA true)):=by
 have hl:=a_ln
 refine x_8 σ _ (law06_small_ok.use ⟨_,_,_,_,_,_,_,_,_,rfl,(o_3 n_5 p_x a_hq 0).mono ?_⟩)
 rintro r s ⟨rfl,d5,rfl,hd5⟩
 rw[a_lc] at hd5
 refine ⟨d5,rfl,(l_v (n_5 s) u_8 (by omega)).use ⟨_,rfl,(l_s (text:=a_l (c_b litS)) (by rw[f_t];omega)).mono ?_⟩⟩
 rintro r s1 ⟨rfl,e0,e1,e2,e3,e4,rfl,he⟩
 rw[q_h u_8] at he ⊢
 refine ⟨_,_,_,_,_,_,_,_,_,_,rfl,(y_d n_5).use ⟨_,rfl,?_⟩⟩
 rw[p_x]
 refine bce (fun _=>(r_z (hd5 s1) (lb:= [1,2]) (p_l c_int (by simp))).use ⟨_,rfl,bc (fun _=>bce (fun _=>(j_6 (he s1) (n_5 s1) u_8 u_8 (by show (c_b litS).length≤_;omega) (by omega)).use ⟨_,rfl,bc (fun _=>(s_b (n_5 s1) 0).use ⟨_,rfl,?_⟩) (fun e=>?_)⟩) (fun e=>absurd rfl e)) (fun e=>by cases e)⟩) (fun e=>absurd rfl e)
 · rw[show litS.Approach 0=0 from by decide +kernel]
   refine bce (fun _=>(s_k (a:=0) (b:=0) fun s i=>o_3 n_5 p_x a_hq i).use ⟨_,rfl,?_,rfl⟩) (fun e=>absurd rfl e)
   have:a_fp litS 0 0=true:=by unfold a_fp;rw[a_lc];rfl
   rw[this]
 · rw[show (some litS).getD d_i=litS from rfl,beq_self_eq_true] at e;cases e
end Go.Proofs.YtfdffboelecgoaaGreatDoor
end
namespace Go.Fw
section
variable {P:Program} {σ:Store}
def a_or:Store:=fun _=> .free
end
end Go.Fw
section
set_option maxRecDepth 20000
namespace Go.Proofs.YtfdffboelecgoaaGreatDoor
open Go.Fw Go.Proofs Go.RowKit
open Go.Proofs.Tryz (prog)
variable {σ σ0:Store}
def a_l9 (f:FuncId)(xs:List A) :Prop:=DCalls prog f xs noS fun r _=>r= .a (.one (.bool true))
end Go.Proofs.YtfdffboelecgoaaGreatDoor
end
section
set_option maxRecDepth 20000
namespace Go.Proofs.YtfdffboelecgoaaGreatDoor
open Go.Fw Go.Proofs Go.RowKit
open Go.Proofs.Tryz (prog)
variable {σ σ0:Store}
def x_r (x:Rt) :Nat:=6+3 * x.Path.length+2 * x.Flank.length+x.Overlap.length
def cfW (c:Cf) :Nat:=3 * c.Secs.length+4 * c.Jts.length+2 * c.Sigs.length+c.Xs.length+ (c.Rts.map x_r).sum
theorem g_z {w:List UInt8} :∀{ns:List Int},(∀n ∈ ns,i64 n)→(b_m w ns).length≤w.length+22 * ns.length
 | [],_=>by rw[n_w];simp
 | n::ns,h=>by
   have h1:=v_s (h n (by simp))
   have h2:=g_z (w:=w) (ns:=ns) fun m hm=>h m (by simp[hm])
   unfold b_m at h2 ⊢
   simp only[List.map_cons,List.flatten_cons,List.length_append,List.length_cons] at h2 ⊢
   omega
theorem j_o {α:Type}{f:α→List UInt8}{g:α→Nat} :∀{l:List α},(∀a ∈ l,(f a).length≤g a)→(cat f l).length≤(l.map g).sum
 | [],_=>by simp[cat]
 | a::l,h=>by
   have h1:=h a (by simp)
   have h2:=j_o (f:=f) (g:=g) (l:=l) fun b hb=>h b (by simp[hb])
   have e:cat f (a::l) =f a ++ cat f l:=rfl
   rw[e,List.length_append,List.map_cons,List.sum_cons];omega
theorem i_h {α:Type}(k:Nat)(l:List α) :(l.map fun _=>k).sum=k * l.length:=by
 induction l with
 | nil=>rfl
 | cons a l ih=>rw[List.map_cons,List.sum_cons,ih,List.length_cons];rw[Nat.mul_add];omega
theorem a_mr {α:Type}(k:Nat)(f:α→Nat)(l:List α) :(l.map fun a=>k * f a).sum=k * (l.map f).sum:=by
 induction l with
 | nil=>rfl
 | cons a l ih=>rw[List.map_cons,List.sum_cons,ih,List.map_cons,List.sum_cons,Nat.mul_add]
theorem a_e4 {c:Cf}(h:cf64 c) :(c_b c).length≤31 * cfW c+95:=by
 have l0:(cat g_p c.Secs).length≤74 * c.Secs.length:=by
   rw[←i_h 74 c.Secs]
   refine j_o fun s hs=>?_
   obtain ⟨h1,h2,h3⟩:=h.secs s hs
   have:=g_z (w:=wSec) (ns:= [s.Kind,s.OC,s.Line]) (h_u h1 h2 h3)
   show (b_m wSec [s.Kind,s.OC,s.Line] ++ [10]).length≤74
   rw[List.length_append]
   have e:wSec.length=7:=rfl
   simp only[e,List.length_cons,List.length_nil] at this ⊢;omega
 have l1:(cat jtL c.Jts).length≤94 * c.Jts.length:=by
   rw[←i_h 94 c.Jts]
   refine j_o fun s hs=>?_
   obtain ⟨h1,h2,h3,h4⟩:=h.jts s hs
   have:=g_z (w:=wJt) (ns:= [s.A,s.AEnd,s.B,s.BEnd]) (n_4 h1 h2 h3 h4)
   show (b_m wJt [s.A,s.AEnd,s.B,s.BEnd] ++ [10]).length≤94
   rw[List.length_append]
   have e:wJt.length=5:=rfl
   simp only[e,List.length_cons,List.length_nil] at this ⊢;omega
 have l2:(cat sgL c.Sigs).length≤51 * c.Sigs.length:=by
   rw[←i_h 51 c.Sigs]
   refine j_o fun s hs=>?_
   obtain ⟨h1,h2⟩:=h.sigs s hs
   have:=g_z (w:=wSg) (ns:= [s.Sec,s.End_]) (n_9 h1 h2)
   show (b_m wSg [s.Sec,s.End_] ++ [10]).length≤51
   rw[List.length_append]
   have e:wSg.length=6:=rfl
   simp only[e,List.length_cons,List.length_nil] at this ⊢;omega
 have l3:(cat xL c.Xs).length≤31 * c.Xs.length:=by
   rw[←i_h 31 c.Xs]
   refine j_o fun s hs=>?_
   have:=g_z (w:=wX) (ns:= [s]) (fun n hn=>by rw[List.mem_singleton.1 hn];exact h.xs s hs)
   show (b_m wX [s] ++ [10]).length≤31
   rw[List.length_append]
   have e:wX.length=8:=rfl
   simp only[e,List.length_cons,List.length_nil] at this ⊢;omega
 have l4:(cat rtL c.Rts).length≤31 * (c.Rts.map x_r).sum:=by
   rw[←a_mr 31 x_r c.Rts]
   refine j_o fun x hx=>?_
   obtain ⟨h1,h2,h3,h4,h5⟩:=h.rts x hx
   have k1:=g_z (w:=wRoute) (ns:= [x.Entry,x.Exit,if x.Shunt then 1 else 0]) (h_u h1 h2 (by split <;> exact ⟨by decide,by decide⟩))
   have k2:(cat stL x.Path).length≤66 * x.Path.length:=by
     rw[←i_h 66 x.Path]
     refine j_o fun s hs=>?_
     obtain ⟨g1,g2,g3⟩:=h3 s hs
     have:=g_z (w:= []) (ns:= [s.Sec,s.In,s.Out]) (h_u g1 g2 g3)
     show (b_m [] [s.Sec,s.In,s.Out]).length≤66
     simpa using this
   have k3:(cat ndL x.Flank).length≤44 * x.Flank.length:=by
     rw[←i_h 44 x.Flank]
     refine j_o fun s hs=>?_
     obtain ⟨g1,g2⟩:=h4 s hs
     have:=g_z (w:= []) (ns:= [s.Sec,s.Pos]) (n_9 g1 g2)
     show (b_m [] [s.Sec,s.Pos]).length≤44
     simpa using this
   have k4:=g_z (w:=wOver) (ns:=x.Overlap) h5
   have e1:wRoute.length=5:=rfl
   have e2:wPath.length=5:=rfl
   have e3:wFlank.length=6:=rfl
   have e4:wOver.length=8:=rfl
   unfold rtL d_p x_r
   simp only[List.length_append,List.length_cons,List.length_nil] at k1 ⊢
   omega
 obtain ⟨t1,t2,t3,t4⟩:=h.tim
 have l5:=g_z (w:=wTim) (ns:= [c.Age,c.Brake,c.Hold,c.Budget]) (n_4 t1 t2 t3 t4)
 have e:wTim.length=6:=rfl
 have l6:(timL c).length≤95:=by
   show (b_m wTim [c.Age,c.Brake,c.Hold,c.Budget] ++ [10]).length≤95
   rw[List.length_append]
   simp only[e,List.length_cons,List.length_nil] at l5 ⊢;omega
 unfold c_b cfW
 simp only[List.length_append]
 omega
theorem j_f {α:Type}{enc:α→List D}{k:Nat}(hk:∀a,wtL (enc a) =k) :∀l:List α,q_i (l.map enc) =k * l.length
 | []=>by simp[q_i]
 | a::l=>by rw[List.map_cons,q_i,hk,j_f hk l,List.length_cons,Nat.mul_add];omega
theorem u_d {el:TypeId}{d:D}{rows:List (List D)}(h:∀s,At prog s el d rows) :1+q_i rows≤wtD d:=by
 have hx:=(h a_or).rows
 cases d <;> simp only[Go.Fw.Rows] at hx <;> try exact hx.elim
 · subst hx;simp[q_i,wtD]
 · subst hx;simp[q_i,wtD]
 · obtain ⟨rfl,_⟩:=hx;simp only[wtD];omega
 · obtain ⟨t,rows',h1,_⟩:=hx;cases h1
theorem a_ot {c0 c1 c2 c3 c4:D}{c:Cf}(h:∀s,CfAt s c0 c1 c2 c3 c4 c) :cfW c≤wtA (cfA c0 c1 c2 c3 c4 c):=by
 have h0:=(u_d fun s=>(h s).secs)
 have h1:=(u_d fun s=>(h s).jts)
 have h2:=(u_d fun s=>(h s).sigs)
 have h3:=(u_d fun s=>(h s).xs)
 rw[j_f (k:=3) (fun a=>rfl)] at h0
 rw[j_f (k:=4) (fun a=>rfl)] at h1
 rw[j_f (k:=2) (fun a=>rfl)] at h2
 rw[j_f (k:=1) (fun a=>rfl)] at h3
 obtain ⟨rows,hat,hlen,hrow⟩:=w_6 fun s=>(h s).rts
 have h4:=u_d hat
 have key:∀(rows:List (List D)) (l:List Rt),rows.length=l.length→(∀(i:Nat) row x,rows[i]? =some row→l[i]? =some x→x_r x≤wtL row)→(l.map x_r).sum≤q_i rows:=by
   intro rows
   induction rows with
   | nil=>intro l hl _;rw[List.length_eq_zero_iff.1 hl.symm];simp
   | cons row rows ih=>
     intro l hl hr
     cases l with
     | nil=>simp
     | cons x l=>
       have a:=hr 0 row x rfl rfl
       have b:=ih l (by simpa using hl) fun i r y h1 h2=>hr (i+1) r y (by simpa using h1) (by simpa using h2)
       rw[List.map_cons,List.sum_cons,q_i];omega
 have h5:=key rows c.Rts hlen fun i row x hi hx=>by
   obtain ⟨d1,d2,d3,rfl,q1,q2,q3⟩:=hrow i row x hi hx
   have a1:=u_d q1
   have a2:=u_d q2
   have a3:=u_d q3
   rw[j_f (k:=3) (fun a=>rfl)] at a1
   rw[j_f (k:=2) (fun a=>rfl)] at a2
   rw[j_f (k:=1) (fun a=>rfl)] at a3
   show x_r x≤1+ (1+ (wtD d1+ (wtD d2+ (wtD d3+ (1+0)))))
   unfold x_r
   omega
 show cfW c≤wtD c0+ (wtD c1+ (wtD c2+ (wtD c3+ (wtD c4+ (1+ (1+ (1+ (1+0))))))))
 unfold cfW
 omega
theorem a_n4 {c:Cf}(h:CfI c) :cf64 c:=
 ⟨h.secs,h.jts,h.sigs,h.xs,fun r hr=>⟨(h.rts r hr).entry,(h.rts r hr).exit,(h.rts r hr).path,(h.rts r hr).flank,(h.rts r hr).over⟩,h.age,h.brake,h.hold,h.budget⟩
end Go.Proofs.YtfdffboelecgoaaGreatDoor
end
section
set_option maxRecDepth 20000
namespace Go.Proofs.YtfdffboelecgoaaGreatDoor
open Go.Fw Go.Proofs Go.RowKit
open Go.Proofs.Tryz (prog)
variable {σ σ0:Store} {tid:Nat} {F:Nat→Prop}
theorem a_ma {s s1:Store}{r r':RV}{t:TypeId}{row:List D}(hs:∀i,s i≠ .free→i≠tid→s1 i=s i)(hc:s1 tid= .live t [row])(hrow:FzL prog s1 (fun i=>s i≠ .free) row row)(hr:FzR prog s1 (fun i=>s i≠ .free) r r') :
   Ret prog s s1 r (fun i=>match s i with | .free=> .free | _=>s1 i) r':=by
 refine ⟨fun i=>s i≠ .free,fun i hi=>hi,fun i hi=>?_,fun i hi=>?_,hr⟩
 · have:s i= .free:=by by_cases h:s i= .free;exact h;exact absurd h hi
   simp only[this]
 · have e : (match s i with | .free => SO.free | _ => s1 i) = s1 i := by
     cases h:s i <;> first | rfl | exact absurd h hi
   show FzO _ _ _ _ _ (match s i with | .free=>SO.free | _=>s1 i)
   rw[e]
   by_cases hiw:i=tid
   · subst hiw
     refine .inr ?_
     rw[hc]
     refine ⟨rfl,rfl,fun j row1 row' h1 h2=>?_⟩
     rw[h1] at h2;injection h2 with h2;subst h2
     have:row1=row:=by
       cases j with
       | zero=>simpa using h1.symm
       | succ j=>simp at h1
     subst this
     exact hrow
   · exact .inl ⟨rfl,hs i hi hiw⟩
theorem a_n6 {s s1:Store}{i:Nat}(h:s i≠ .free) :(match s i with | .free=>SO.free | _=>s1 i) =s1 i:=by
 cases h2:s i <;> first | rfl | exact absurd h2 h
theorem a_ip {s:Store}{ws:List ByteArray}(h:TkX σ0 s tid ws)(hwl:ws.length < 2 ^ 39) :
   DCalls prog g_1 [.one (pO tid)] s fun r s'=>∃row,r= .a (.agg row)∧RtRow row (d_g ws)∧∀i,i≠tid→s' i=s i:=by
 refine (a_d1 h hwl).ret ?_
 rintro r s1 ⟨d1,d2,d3,ws',rfl,ht,hL,hs⟩
 have hid:∀d,(∀i,s i≠ .free→b_h d≠some i)→∀id,b_h d=some id→¬s id≠ .free:=fun d hd id h1 h2=>hd id h2 h1
 obtain ⟨e1,a1,b1,c1⟩:=j_n (S:=fun i=>s i≠ .free) hL.o1.at_ (hid d1 hL.f1) (e_9 a_gz _)
 obtain ⟨e2,a2,b2,c2⟩:=j_n (S:=fun i=>s i≠ .free) hL.o2.at_ (hid d2 hL.f2) (e_9 a_hb _)
 obtain ⟨e3,a3,b3,c3⟩:=j_n (S:=fun i=>s i≠ .free) hL.o3.at_ (hid d3 hL.f3) (e_9 a_bo _)
 obtain ⟨d,hc,hA⟩:=ht.cell
 have hσ:∀i,σ0 i≠ .free→s i≠ .free:=fun i hi=>by rw[h.ext i hi];exact hi
 refine ⟨.a (.agg [iD (d_g ws).Entry,iD (d_g ws).Exit,e1,e2,e3, .bool (d_g ws).Shunt]),_,a_ma hs hc (.cons (a_ht hA hσ (e_9 (fun a x hx=>by
   simp only[c_f,List.mem_cons,List.not_mem_nil,or_false] at hx
   subst hx;exact .str _) _)) .nil) (.cons (.int _ _) (.cons (.int _ _) (.cons a1 (.cons a2 (.cons a3 (.cons (.bool _) .nil)))))),_,rfl,⟨e1,e2,e3,rfl,b1,b2,b3,c1,c2,c3⟩,fun i hi=>?_⟩
 show (match s i with | .free=>SO.free | _=>s1 i) =s i
 by_cases h2:s i= .free
 · rw[h2]
 · rw[a_n6 h2,hs i h2 hi]
/-! how much is read -/
theorem y_8:∀(n:Nat) (word:List UInt8) (x:Rt) (ws:List ByteArray),let p:=b_l word b_s n x ws
   3 * p.1.Path.length+p.2.length≤3 * x.Path.length+ws.length+2∧p.1.Flank=x.Flank∧p.1.Overlap=x.Overlap
 | 0,word,x,ws=>by simp[b_l]
 | n+1,word,x,ws=>by
   simp only[b_l]
   split
   · rename_i hm
     have ih:=y_8 n word (b_s x (ws,false)).1 (b_s x (ws,false)).2.1
     simp only at ih
     have e1:(b_s x (ws,false)).2.1=ws.tail.tail.tail:=rfl
     have e2:(b_s x (ws,false)).1.Path.length=x.Path.length+1:=by simp[b_s]
     have hne:ws≠[]:=fun e=>by rw[e] at hm;simp[b_a] at hm
     by_cases h3:3≤ws.length
     · refine ⟨?_,ih.2.1,ih.2.2⟩
       have a:=ih.1
       rw[e2] at a
       have el:(b_s x (ws,false)).2.1.length=ws.tail.tail.tail.length:=rfl
       simp only[List.length_tail] at el
       omega
     · have e3:ws.tail.tail.tail=[]:=List.length_eq_zero_iff.1 (by simp only[List.length_tail];omega)
       have h1:1≤ws.length:=by
         cases ws with
         | nil=>exact absurd rfl hne
         | cons=>simp
       have e4:b_l word b_s n (b_s x (ws,false)).1 (b_s x (ws,false)).2.1=((b_s x (ws,false)).1,[]):=by
         rw[e1,e3]
         cases n with
         | zero=>rfl
         | succ n=>
           have:b_a word (([]:List ByteArray),false) =false:=by simp[b_a]
           rw[b_l,this];rfl
       rw[e4]
       refine ⟨?_,rfl,rfl⟩
       simp only[e2,List.length_nil]
       omega
   · refine ⟨?_,rfl,rfl⟩
     show 3 * x.Path.length+ws.length≤_
     omega
theorem y_u:∀(n:Nat) (word:List UInt8) (x:Rt) (ws:List ByteArray),let p:=b_l word b_u n x ws
   2 * p.1.Flank.length+p.2.length≤2 * x.Flank.length+ws.length+1∧p.1.Path=x.Path∧p.1.Overlap=x.Overlap
 | 0,word,x,ws=>by simp[b_l]
 | n+1,word,x,ws=>by
   simp only[b_l]
   split
   · rename_i hm
     have ih:=y_u n word (b_u x (ws,false)).1 (b_u x (ws,false)).2.1
     simp only at ih
     have e1:(b_u x (ws,false)).2.1=ws.tail.tail:=rfl
     have e2:(b_u x (ws,false)).1.Flank.length=x.Flank.length+1:=by simp[b_u]
     have hne:ws≠[]:=fun e=>by rw[e] at hm;simp[b_a] at hm
     by_cases h3:2≤ws.length
     · refine ⟨?_,ih.2.1,ih.2.2⟩
       have a:=ih.1
       rw[e2] at a
       have el:(b_u x (ws,false)).2.1.length=ws.tail.tail.length:=rfl
       simp only[List.length_tail] at el
       omega
     · have e3:ws.tail.tail=[]:=List.length_eq_zero_iff.1 (by simp only[List.length_tail];omega)
       have h1:1≤ws.length:=by
         cases ws with
         | nil=>exact absurd rfl hne
         | cons=>simp
       have e4:b_l word b_u n (b_u x (ws,false)).1 (b_u x (ws,false)).2.1=((b_u x (ws,false)).1,[]):=by
         rw[e1,e3]
         cases n with
         | zero=>rfl
         | succ n=>
           have:b_a word (([]:List ByteArray),false) =false:=by simp[b_a]
           rw[b_l,this];rfl
       rw[e4]
       refine ⟨?_,rfl,rfl⟩
       simp only[e2,List.length_nil]
       omega
   · refine ⟨?_,rfl,rfl⟩
     show 2 * x.Flank.length+ws.length≤_
     omega
theorem y_3:∀(n:Nat) (word:List UInt8) (x:Rt) (ws:List ByteArray),let p:=b_l word b_2 n x ws
   p.1.Overlap.length+p.2.length≤x.Overlap.length+ws.length∧p.1.Path=x.Path∧p.1.Flank=x.Flank
 | 0,word,x,ws=>by simp[b_l]
 | n+1,word,x,ws=>by
   simp only[b_l]
   split
   · rename_i hm
     have ih:=y_3 n word (b_2 x (ws,false)).1 (b_2 x (ws,false)).2.1
     simp only at ih
     have e1:(b_2 x (ws,false)).2.1=ws.tail:=rfl
     have e2:(b_2 x (ws,false)).1.Overlap.length=x.Overlap.length+1:=by simp[b_2]
     have hne:ws≠[]:=fun e=>by rw[e] at hm;simp[b_a] at hm
     have h1:1≤ws.length:=by
       cases ws with
       | nil=>exact absurd rfl hne
       | cons=>simp
     refine ⟨?_,ih.2.1,ih.2.2⟩
     have a:=ih.1
     rw[e2] at a
     have el:(b_2 x (ws,false)).2.1.length=ws.tail.length:=rfl
     simp only[List.length_tail] at el
     omega
   · refine ⟨?_,rfl,rfl⟩
     show x.Overlap.length+ws.length≤_
     omega
theorem a_cs (ws:List ByteArray) :x_r (d_g ws)≤ws.length+9:=by
 obtain ⟨x0,ex0⟩ :∃x0:Rt,x0=⟨rrN ws,rrN ws.tail,[],[],[],rrN ws.tail.tail == 1⟩:=⟨_,rfl⟩
 obtain ⟨p,ep⟩ :∃p,p=b_l (wFlank.drop 1) b_s ws.tail.tail.tail.tail.length x0 ws.tail.tail.tail.tail:=⟨_,rfl⟩
 obtain ⟨q,eq⟩ :∃q,q=b_l (wOver.drop 1) b_u p.2.tail.length p.1 p.2.tail:=⟨_,rfl⟩
 have er:d_g ws=(b_l [] b_2 q.2.tail.length q.1 q.2.tail).1:=by rw[eq,ep,ex0];rfl
 have h1:=y_8 ws.tail.tail.tail.tail.length (wFlank.drop 1) x0 ws.tail.tail.tail.tail
 have h2:=y_u p.2.tail.length (wOver.drop 1) p.1 p.2.tail
 have h3:=y_3 q.2.tail.length [] q.1 q.2.tail
 simp only[←ep] at h1
 simp only[←eq] at h2
 simp only at h3
 have z1:x0.Path.length=0:=by rw[ex0];rfl
 have z2:x0.Flank.length=0:=by rw[ex0];rfl
 have z3:x0.Overlap.length=0:=by rw[ex0];rfl
 rw[er]
 unfold x_r
 rw[h3.2.1,h3.2.2,h2.2.1]
 have a1:=h1.1
 have a2:=h2.1
 have a3:=h3.1
 rw[h1.2.1] at a2
 rw[h2.2.2,h1.2.2] at a3
 have q1:ws.tail.tail.tail.tail.length=ws.length - 4:=by simp only[List.length_tail];omega
 have q2:p.2.tail.length=p.2.length - 1:=List.length_tail
 have q3:q.2.tail.length=q.2.length - 1:=List.length_tail
 omega
theorem d_w (ws:List ByteArray) :i64 (rrN ws):=e_y _
theorem v_a {step:Rt→Ws→Rt × Ws}(hs:∀x s,l_o x→l_o (step x s).1) :∀(n:Nat) (word:List UInt8) (x:Rt) (ws:List ByteArray),l_o x→l_o (b_l word step n x ws).1
 | 0,_,x,_,h=>h
 | n+1,word,x,ws,h=>by
   rw[b_l]
   split
   · exact v_a hs n word _ _ (hs x _ h)
   · exact h
theorem a_gb (ws:List ByteArray) :l_o (d_g ws):=by
 have s1:∀x s,l_o x→l_o (b_s x s).1:=fun x s h=>⟨h.1,h.2.1,fun y hy=>by
   rcases List.mem_append.1 hy with hy | hy
   · exact h.2.2.1 y hy
   · rw[List.mem_singleton.1 hy];exact ⟨e_y _,e_y _,e_y _⟩,h.2.2.2.1,h.2.2.2.2⟩
 have s2:∀x s,l_o x→l_o (b_u x s).1:=fun x s h=>⟨h.1,h.2.1,h.2.2.1,fun y hy=>by
   rcases List.mem_append.1 hy with hy | hy
   · exact h.2.2.2.1 y hy
   · rw[List.mem_singleton.1 hy];exact ⟨e_y _,e_y _⟩,h.2.2.2.2⟩
 have s3:∀x s,l_o x→l_o (b_2 x s).1:=fun x s h=>⟨h.1,h.2.1,h.2.2.1,h.2.2.2.1,fun y hy=>by
   rcases List.mem_append.1 hy with hy | hy
   · exact h.2.2.2.2 y hy
   · rw[List.mem_singleton.1 hy];exact e_y _⟩
 obtain ⟨x0,ex0⟩ :∃x0:Rt,x0=⟨rrN ws,rrN ws.tail,[],[],[],rrN ws.tail.tail == 1⟩:=⟨_,rfl⟩
 obtain ⟨p,ep⟩ :∃p,p=b_l (wFlank.drop 1) b_s ws.tail.tail.tail.tail.length x0 ws.tail.tail.tail.tail:=⟨_,rfl⟩
 obtain ⟨q,eq⟩ :∃q,q=b_l (wOver.drop 1) b_u p.2.tail.length p.1 p.2.tail:=⟨_,rfl⟩
 have er:d_g ws=(b_l [] b_2 q.2.tail.length q.1 q.2.tail).1:=by rw[eq,ep,ex0];rfl
 have h0:l_o x0:=by
   subst ex0
   exact ⟨d_w _,d_w _,fun y hy=>by simp at hy,fun y hy=>by simp at hy,fun y hy=>by simp at hy⟩
 rw[er]
 refine v_a s3 _ _ _ _ ?_
 rw[eq]
 refine v_a s2 _ _ _ _ ?_
 rw[ep]
 exact v_a s1 _ _ _ _ h0
end Go.Proofs.YtfdffboelecgoaaGreatDoor
end
section
set_option maxRecDepth 20000
namespace Go.Proofs.YtfdffboelecgoaaGreatDoor
open Go.Fw Go.Proofs Go.RowKit
open Go.Proofs.Tryz (prog)
variable {σ σ0:Store}
theorem bcl {w l:List UInt8}{x y:Prop}(h1:w=l→x)(h2:w≠l→y) :a_c (w == ByteArray.toList (ByteArray.mk (List.toArray l))) x y:=by
 have e:ByteArray.toList (ByteArray.mk (List.toArray l)) =l:=by rw[Lib.toList_data]
 rw[e]
 exact bc (fun h=>h1 (by simpa using h)) (fun h=>h2 (by simpa using h))
/-! bounds -/
theorem a_k4 (c:Cf)(ws:List ByteArray) :cfW (c_h c ws)≤cfW c+ws.length+9:=by
 have hr:=a_cs ws.tail
 have ht:ws.tail.length≤ws.length:=by rw[List.length_tail];omega
 unfold c_h
 simp only
 repeat' split
 all_goals
   unfold cfW
   try simp only[List.length_append,List.length_cons,List.length_nil,List.map_append,List.map_cons,List.map_nil,List.sum_append,List.sum_cons,List.sum_nil]
   omega
theorem a_i4 (c:Cf)(ws:List ByteArray)(h:cf64 c) :cf64 (c_h c ws):=by
 have hr:=a_gb ws.tail
 unfold c_h
 simp only
 repeat' split
 · exact ⟨fun s hs => by
     rcases List.mem_append.1 hs with hs | hs
     · exact h.secs s hs
     · rw[List.mem_singleton.1 hs];exact ⟨d_w _,d_w _,d_w _⟩,h.jts,h.sigs,h.xs,h.rts,h.tim⟩
 · exact ⟨h.secs, fun s hs => by
     rcases List.mem_append.1 hs with hs | hs
     · exact h.jts s hs
     · rw[List.mem_singleton.1 hs];exact ⟨d_w _,d_w _,d_w _,d_w _⟩,h.sigs,h.xs,h.rts,h.tim⟩
 · exact ⟨h.secs, h.jts, fun s hs => by
     rcases List.mem_append.1 hs with hs | hs
     · exact h.sigs s hs
     · rw[List.mem_singleton.1 hs];exact ⟨d_w _,d_w _⟩,h.xs,h.rts,h.tim⟩
 · exact ⟨h.secs, h.jts, h.sigs, fun s hs => by
     rcases List.mem_append.1 hs with hs | hs
     · exact h.xs s hs
     · rw[List.mem_singleton.1 hs];exact d_w _,h.rts,h.tim⟩
 · exact ⟨h.secs, h.jts, h.sigs, h.xs, fun s hs => by
     rcases List.mem_append.1 hs with hs | hs
     · exact h.rts s hs
     · rw[List.mem_singleton.1 hs];exact hr,h.tim⟩
 · exact ⟨h.secs,h.jts,h.sigs,h.xs,h.rts,⟨d_w _,d_w _,d_w _,d_w _⟩⟩
 · exact h
theorem a_ez (c:Cf)(ws:List ByteArray)(n:Nat)(h:r_o c n) :r_o (c_h c ws) (n+1):=by
 obtain ⟨h1,h2,h3,h4,h5⟩:=h
 unfold c_h
 simp only
 repeat' split
 all_goals
   refine ⟨?_,?_,?_,?_,?_⟩ <;> (try simp only[List.length_append,List.length_cons,List.length_nil]) <;> omega
theorem z_k:∀(ls:List ByteArray) (c:Cf) (k:Nat),(∀l ∈ ls,l.size≤k)→cfW (c_3 c ls)≤cfW c+ (k+10) * ls.length
 | [],c,k,_=>by simp[c_3]
 | l::ls,c,k,h=>by
   have h1:=a_k4 c (pieces 32 l)
   have h2:=(i_g 32 l).1
   have h3:=h l (by simp)
   have h4:=z_k ls (c_h c (pieces 32 l)) k fun x hx=>h x (by simp[hx])
   have e:c_3 c (l::ls) =c_3 (c_h c (pieces 32 l)) ls:=rfl
   rw[e,List.length_cons,Nat.mul_add]
   omega
theorem w_8:∀(ls:List ByteArray) (c:Cf),cf64 c→cf64 (c_3 c ls)
 | [],_,h=>h
 | l::ls,c,h=>w_8 ls (c_h c (pieces 32 l)) (a_i4 c _ h)
theorem s_l (t:ByteArray) :cf64 (h_l t):=w_8 _ _ v_c
theorem a_f1 {t:ByteArray}(ht:t.size≤1048576) :(c_b (h_l t)).length≤2 ^ 46:=by
 have h1:=a_e4 (s_l t)
 have h2:=i_g 10 t
 have h3:=z_k (pieces 10 t) d_i t.size h2.2
 have e:cfW d_i=0:=rfl
 have e2:c_3 d_i (pieces 10 t) =h_l t:=rfl
 rw[e,e2] at h3
 have h4:(t.size+10) * (pieces 10 t).length≤(1048576+10) * (1048576+1):=Nat.mul_le_mul (by omega) (by omega)
 omega
structure L5 (σ0 s:Store) (c:Cf) (d0 d1 d2 d3 d4:D) (rows:List (List D)) :Prop where
 o0:Own prog σ0 s a_u d0 (c.Secs.map Sec.enc)
 o1:Own prog σ0 s b_o d1 (c.Jts.map Jt.enc)
 o2:Own prog σ0 s a_0 d2 (c.Sigs.map Sg.enc)
 o3:Own prog σ0 s a_f d3 (c.Xs.map Go.Fw.encI)
 o4:Own prog σ0 s a_z d4 rows
 rts:RtRows rows c.Rts
section
variable {s s':Store} {c:Cf} {d0 d1 d2 d3 d4:D} {rows:List (List D)}
theorem L5.ext' (h:L5 σ0 s c d0 d1 d2 d3 d4 rows)(he:Ext s s') :L5 σ0 s' c d0 d1 d2 d3 d4 rows:=
 ⟨h.o0.ext' he,h.o1.ext' he,h.o2.ext' he,h.o3.ext' he,h.o4.ext' he,h.rts⟩
theorem L5.add0 {z:Sec}{K:D→Store→Prop}(h:L5 σ0 s c d0 d1 d2 d3 d4 rows)(hl:c.Secs.length < 2 ^ 40)(hk:∀d' s',L5 σ0 s' { c with Secs:=c.Secs ++ [z] } d' d1 d2 d3 d4 rows→K d' s') :
   Fw.newObj s (.live a_u [Sec.enc z]) fun id s1=>a_e prog s1 a_u 24 d0 (.osl id 0 1) K:=
 r_p h.o0 (by rw[List.length_map];omega) (by rw[List.length_map];omega) fun d' s2 g1 g2 g3=>hk d' s2 {
   o0:=by rw[List.map_append];exact g1
   o1:=h.o1.stay g2 (c_6 h.o1.at_ h.o0.at_ (b_7 c_q b_j (by decide))) g1.ext
   o2:=h.o2.stay g2 (c_6 h.o2.at_ h.o0.at_ (b_7 b_w b_j (by decide))) g1.ext
   o3:=h.o3.stay g2 (c_6 h.o3.at_ h.o0.at_ (b_7 c_int b_j (by decide))) g1.ext
   o4:=h.o4.stay g2 (c_6 h.o4.at_ h.o0.at_ (b_7 b_k b_j (by decide))) g1.ext
   rts:=h.rts }
theorem L5.add1 {z:Jt}{K:D→Store→Prop}(h:L5 σ0 s c d0 d1 d2 d3 d4 rows)(hl:c.Jts.length < 2 ^ 40)(hk:∀d' s',L5 σ0 s' { c with Jts:=c.Jts ++ [z] } d0 d' d2 d3 d4 rows→K d' s') :
   Fw.newObj s (.live b_o [Jt.enc z]) fun id s1=>a_e prog s1 b_o 32 d1 (.osl id 0 1) K:=
 r_p h.o1 (by rw[List.length_map];omega) (by rw[List.length_map];omega) fun d' s2 g1 g2 g3=>hk d' s2 {
   o1:=by rw[List.map_append];exact g1
   o0:=h.o0.stay g2 (c_6 h.o0.at_ h.o1.at_ (b_7 b_j c_q (by decide))) g1.ext
   o2:=h.o2.stay g2 (c_6 h.o2.at_ h.o1.at_ (b_7 b_w c_q (by decide))) g1.ext
   o3:=h.o3.stay g2 (c_6 h.o3.at_ h.o1.at_ (b_7 c_int c_q (by decide))) g1.ext
   o4:=h.o4.stay g2 (c_6 h.o4.at_ h.o1.at_ (b_7 b_k c_q (by decide))) g1.ext
   rts:=h.rts }
theorem L5.add2 {z:Sg}{K:D→Store→Prop}(h:L5 σ0 s c d0 d1 d2 d3 d4 rows)(hl:c.Sigs.length < 2 ^ 40)(hk:∀d' s',L5 σ0 s' { c with Sigs:=c.Sigs ++ [z] } d0 d1 d' d3 d4 rows→K d' s') :
   Fw.newObj s (.live a_0 [Sg.enc z]) fun id s1=>a_e prog s1 a_0 16 d2 (.osl id 0 1) K:=
 r_p h.o2 (by rw[List.length_map];omega) (by rw[List.length_map];omega) fun d' s2 g1 g2 g3=>hk d' s2 {
   o2:=by rw[List.map_append];exact g1
   o0:=h.o0.stay g2 (c_6 h.o0.at_ h.o2.at_ (b_7 b_j b_w (by decide))) g1.ext
   o1:=h.o1.stay g2 (c_6 h.o1.at_ h.o2.at_ (b_7 c_q b_w (by decide))) g1.ext
   o3:=h.o3.stay g2 (c_6 h.o3.at_ h.o2.at_ (b_7 c_int b_w (by decide))) g1.ext
   o4:=h.o4.stay g2 (c_6 h.o4.at_ h.o2.at_ (b_7 b_k b_w (by decide))) g1.ext
   rts:=h.rts }
theorem L5.add3 {z:Int}{K:D→Store→Prop}(h:L5 σ0 s c d0 d1 d2 d3 d4 rows)(hl:c.Xs.length < 2 ^ 40)(hk:∀d' s',L5 σ0 s' { c with Xs:=c.Xs ++ [z] } d0 d1 d2 d' d4 rows→K d' s') :
   Fw.newObj s (.live a_f [Go.Fw.encI z]) fun id s1=>a_e prog s1 a_f 8 d3 (.osl id 0 1) K:=
 r_p h.o3 (by rw[List.length_map];omega) (by rw[List.length_map];omega) fun d' s2 g1 g2 g3=>hk d' s2 {
   o3:=by rw[List.map_append];exact g1
   o0:=h.o0.stay g2 (c_6 h.o0.at_ h.o3.at_ (b_7 b_j c_int (by decide))) g1.ext
   o1:=h.o1.stay g2 (c_6 h.o1.at_ h.o3.at_ (b_7 c_q c_int (by decide))) g1.ext
   o2:=h.o2.stay g2 (c_6 h.o2.at_ h.o3.at_ (b_7 b_w c_int (by decide))) g1.ext
   o4:=h.o4.stay g2 (c_6 h.o4.at_ h.o3.at_ (b_7 b_k c_int (by decide))) g1.ext
   rts:=h.rts }
theorem L5.add4 {row:List D}{x:Rt}{K:D→Store→Prop}(h:L5 σ0 s c d0 d1 d2 d3 d4 rows)(hx:RtRow row x)(hl:c.Rts.length < 2 ^ 40)(hk:∀d' s',L5 σ0 s' { c with Rts:=c.Rts ++ [x] } d0 d1 d2 d3 d' (rows ++ [row])→K d' s') :
   Fw.newObj s (.live a_z [row]) fun id s1=>a_e prog s1 a_z 96 d4 (.osl id 0 1) K:=by
 have hlen:=h.rts.1
 exact r_p h.o4 (by omega) (by omega) fun d' s2 g1 g2 g3=>hk d' s2 {
   o4:=g1
   o0:=h.o0.stay g2 (c_6 h.o0.at_ h.o4.at_ (b_7 b_j b_k (by decide))) g1.ext
   o1:=h.o1.stay g2 (c_6 h.o1.at_ h.o4.at_ (b_7 c_q b_k (by decide))) g1.ext
   o2:=h.o2.stay g2 (c_6 h.o2.at_ h.o4.at_ (b_7 b_w b_k (by decide))) g1.ext
   o3:=h.o3.stay g2 (c_6 h.o3.at_ h.o4.at_ (b_7 c_int b_k (by decide))) g1.ext
   rts:=h.rts.add hx }
theorem L5.cf (h:L5 σ0 s c d0 d1 d2 d3 d4 rows) :CfAt s d0 d1 d2 d3 d4 c:=
 ⟨h.o0.at_,h.o1.at_,h.o2.at_,h.o3.at_,rows,h.o4.at_,h.rts.1,fun i row x h1 h2=>by
   obtain ⟨x1,x2,x3,rfl,y1,y2,y3,_⟩:=h.rts.2 i row x h1 h2
   exact ⟨x1,x2,x3,rfl,y1 s,y2 s,y3 s⟩⟩
end
theorem a_n0 {s1:Store}{c:Cf}{d0 d1 d2 d3 d4:D}{rows:List (List D)}{k:Int}(h:L5 σ s1 c d0 d1 d2 d3 d4 rows)(he:Ext σ s1) :
   ∃e0 e1 e2 e3 e4,Ret prog σ s1 (.tup [.agg (h_e c d0 d1 d2 d3 d4),iA k]) σ (.tup [cfA e0 e1 e2 e3 e4 c,iA k])∧∀s,CfAt s e0 e1 e2 e3 e4 c:=by
 have hr:=h.rts
 have fz:∀{el:TypeId} {d:D} {rs:List (List D)},Own prog σ s1 el d rs→(∀row ∈ rs,∀x ∈ row,Sf x)→∃d',Fz prog s1 (fun i=>σ i≠ .free) d d'∧(∀s',At prog s' el d' rs)∧Sf d':=fun ho hf=>
   j_n ho.at_ (fun id hi hn=>hn (a_bc ho hi)) hf
 obtain ⟨e0,a0,b0,_⟩:=fz h.o0 (e_9 (fun a x hx=>by
   simp only[Sec.enc,List.mem_cons,List.not_mem_nil,or_false] at hx;rcases hx with rfl | rfl | rfl <;> exact .int _ _) _)
 obtain ⟨e1,a1,b1,_⟩:=fz h.o1 (e_9 (fun a x hx=>by
   simp only[Jt.enc,List.mem_cons,List.not_mem_nil,or_false] at hx;rcases hx with rfl | rfl | rfl | rfl <;> exact .int _ _) _)
 obtain ⟨e2,a2,b2,_⟩:=fz h.o2 (e_9 (fun a x hx=>by
   simp only[Sg.enc,List.mem_cons,List.not_mem_nil,or_false] at hx;rcases hx with rfl | rfl <;> exact .int _ _) _)
 obtain ⟨e3,a3,b3,_⟩:=fz h.o3 (e_9 a_bo _)
 obtain ⟨e4,a4,b4,_⟩:=fz h.o4 (fun row hrow=>by
   obtain ⟨j,hj⟩:=List.getElem?_of_mem hrow
   obtain ⟨x,hx⟩:=a_r (l:=c.Rts) (j:=j) (by rw[←hr.1];exact (List.getElem?_eq_some_iff.1 hj).1)
   exact (hr.2 j row x hj hx).sf)
 refine ⟨e0,e1,e2,e3,e4, .pure he ⟨rfl,fun i x y h1 h2=>?_⟩,fun s=>⟨b0 s,b1 s,b2 s,b3 s,rows,b4 s,hr.1,fun i row x h1 h2=>?_⟩⟩
 · match i,h1,h2 with
   | 0,h1,h2=>
     injection h1 with h1;injection h2 with h2;subst h1 h2
     exact .cons a0 (.cons a1 (.cons a2 (.cons a3 (.cons a4 (.cons (.int _ _) (.cons (.int _ _) (.cons (.int _ _) (.cons (.int _ _) .nil))))))))
   | 1,h1,h2=>
     injection h1 with h1;injection h2 with h2;subst h1 h2
     exact .int _ _
   | i+2,h1,h2=>simp at h1
 · obtain ⟨x1,x2,x3,rfl,y1,y2,y3,_⟩:=hr.2 i row x h1 h2
   exact ⟨x1,x2,x3,rfl,y1 s,y2 s,y3 s⟩
def n_q (t:ByteArray) :Option Cf:=if c_b (h_l t) =t.data.toList then some (h_l t) else none
theorem nil5 (he:Ext σ0 σ) :L5 σ0 σ d_i .nils .nils .nils .nils .nils []:=
 ⟨.nil _ he, .nil _ he, .nil _ he, .nil _ he, .nil _ he,⟨rfl,fun j row x h _=>by simp at h⟩⟩
theorem L5.base {s s1:Store}{c:Cf}{d0 d1 d2 d3 d4:D}{rows:List (List D)}(h:L5 s s1 c d0 d1 d2 d3 d4 rows)(he:Ext σ s) :L5 σ s1 c d0 d1 d2 d3 d4 rows:=
 ⟨Own.from he h.o0,Own.from he h.o1,Own.from he h.o2,Own.from he h.o3,Own.from he h.o4,h.rts⟩
theorem a_fq {text:ByteArray}(ht:text.size≤1048576) :
   DCalls prog h_y [sA text] σ fun r s'=>∃d0 d1 d2 d3 d4 rows,r= .tup [.agg (h_e ((n_q text).getD d_i) d0 d1 d2 d3 d4),iA (if (n_q text).isSome then 0 else 13)]∧Ext σ s'∧L5 σ s' ((n_q text).getD d_i) d0 d1 d2 d3 d4 rows:=by
 have hp:=i_g 10 text
 refine a_az text σ _ ((r_x (c:=10) (by omega)).mono ?_)
 rintro _ σA ⟨d,rfl,hd⟩
 refine ⟨_,rfl,hd.at_.lenK ?_⟩
 rw[List.length_map]
 refine ⟨fun d1 d2 d3 d4 d5 n n1 n2 n3 n4 s=>∃(i:Nat) (c:Cf) (rows:List (List D)),n4=i∧h_l text=c_3 c ((pieces 10 text).drop i)∧n=c.Age∧n1=c.Brake∧n2=c.Hold∧n3=c.Budget∧L5 σA s c d1 d2 d3 d4 d5 rows∧r_o c i∧i≤(pieces 10 text).length,
   fun _ _ _ _ _ _ _ _ _ n4 _=>(pieces 10 text).length - n4.toNat,⟨0,d_i,[],rfl,by rw[List.drop_zero];rfl,rfl,rfl,rfl,rfl,nil5 (.refl _),⟨Nat.le_refl _,Nat.le_refl _,Nat.le_refl _,Nat.le_refl _,Nat.le_refl _⟩,Nat.zero_le _⟩,?_⟩
 rintro d1 d2 d3 d4 d5 n n1 n2 n3 n4 s1 ⟨i,c,rows,rfl,hgo,rfl,rfl,rfl,rfl,hL,hlen,hile⟩
 refine bcd (fun hlt=>?_) (fun hge=>?_)
 · obtain ⟨l,hl⟩:=a_r (l:=pieces 10 text) (j:=i) (by omega)
   have hA1:=hd.at_.ext hL.o0.ext
   have hsz:=hp.2 l (List.mem_of_getElem? hl)
   have hg:(List.map c_f (pieces 10 text))[i]? =some (c_f l):=by rw[List.getElem?_map,hl];rfl
   refine hA1.load (n:=(i:Int)) (j:=i) hg f_h rfl ⟨l,rfl,(r_x (c:=32) (by omega)).mono ?_⟩
   rintro _ s2 ⟨d6,rfl,h6⟩
   have hp32:=i_g 32 l
   rw[k_v hl] at hgo
   have hgo:h_l text=c_3 (c_h c (pieces 32 l)) ((pieces 10 text).drop (i+1)):=hgo
   have hlen':=a_ez c (pieces 32 l) i hlen
   obtain ⟨w,ws,hws⟩ :∃w ws,pieces 32 l=w::ws:=by
     cases h:pieces 32 l with
     | nil=>rw[o_a] at h;exact absurd (List.map_eq_nil_iff.1 h) (k_l _ _)
     | cons w ws=>exact ⟨w,ws,rfl⟩
   rw[hws] at h6 hp32 hgo hlen'
   obtain ⟨l0,l1,l2,l3,l4⟩:=hlen
   refine ⟨_,rfl,h6.at_.sliceFromK (lo:=1) f_h rfl (by simp) (a_n fun id s3 hid _ he3 hc3=>?_)⟩
   have hT:TkX s2 s3 id ws:=⟨hid,he3,⟨_,hc3,a_ar h6.at_⟩,fun x hx=>by have:=hp32.2 x (by simp[hx]);omega⟩
   have h63:=h6.at_.ext he3
   have e13:Ext s1 s3:=h6.ext.trans he3
   have hwl:ws.length < 2 ^ 39:=by have:=hp32.1;simp only[List.length_cons] at this;omega
   have e1x:∀{s4:Store} {us:List ByteArray},TkX s2 s4 id us→Ext s1 s4:=fun h=>h6.ext.trans h.ext
   have hmu:(pieces 10 text).length - (w64 ((i:Int) +1)).toNat < (pieces 10 text).length - ((i:Int)).toNat:=by
     rw[a_m (by omega)];omega
   have hw1:w64 ((i:Int) +1) =((i+1:Nat) :Int):=a_m (by omega)
   have hilt:i+1≤(pieces 10 text).length:=by omega
   have e64:((w::ws).headD (a_l [])).data.toList=w.data.toList:=rfl
   refine h63.load (n:=0) (j:=0) rfl f_h rfl ⟨w,rfl,?_⟩
   rw[Lib.toList_data]
   have go : ∀ (k0 k1 k2 k3 k4 : D) (m0 m1 m2 m3 : Int) (s9 : Store) (c' : Cf) (rows' : List (List D)), L5 σA s9 c' k0 k1 k2 k3 k4 rows' → c_h c (w :: ws) = c' → m0 = c'.Age → m1 = c'.Brake → m2 = c'.Hold → m3 = c'.Budget →
       ([[.nils, .nils, .nils, .nils, .nils, .int .i64 0, .int .i64 0, .int .i64 0, .int .i64 0]]:List (List D)) =[[.nils, .nils, .nils, .nils, .nils, .int .i64 0, .int .i64 0, .int .i64 0, .int .i64 0]]∧
       (∃(i':Nat) (c:Cf) (rows:List (List D)),w64 ((i:Int) +1) =i'∧h_l text=c_3 c ((pieces 10 text).drop i')∧m0=c.Age∧m1=c.Brake∧m2=c.Hold∧m3=c.Budget∧L5 σA s9 c k0 k1 k2 k3 k4 rows∧r_o c i'∧i'≤(pieces 10 text).length)∧
       (pieces 10 text).length - (w64 ((i:Int) +1)).toNat < (pieces 10 text).length - ((i:Int)).toNat:=fun k0 k1 k2 k3 k4 m0 m1 m2 m3 s9 c' rows' h1 h2 h3 h4 h5 h6=>
     ⟨rfl,⟨i+1,c',rows',hw1,by rw[←h2];exact hgo,h3,h4,h5,h6,h1,by rw[←h2];exact hlen',hilt⟩,hmu⟩
   refine bcl (fun e=>?_) (fun n1=>bcl (fun e=>?_) (fun n2=>bcl (fun e=>?_) (fun n3=>bcl (fun e=>?_) (fun n4=>bcl (fun e=>?_) (fun n5=>bcl (fun e=>?_) (fun n6=>?_))))))
   · have hc : c_h c (w :: ws) = { c with Secs := c.Secs ++ [⟨rrN ws, rrN ws.tail, rrN ws.tail.tail⟩] } := by
       unfold c_h;exact if_pos e
     refine (a_w hT fun _ _=>rfl).mono ?_
     rintro _ s4 ⟨rfl,hT1,ho1⟩
     refine ⟨_,rfl,(a_w hT1 ho1).mono ?_⟩
     rintro _ s5 ⟨rfl,hT2,ho2⟩
     refine ⟨_,rfl,(a_w hT2 ho2).mono ?_⟩
     rintro _ s6 ⟨rfl,hT3,ho3⟩
     exact ⟨_,rfl,(hL.ext' (e1x hT3)).add0 (by omega) fun d' s' g=>go _ _ _ _ _ _ _ _ _ _ _ _ g hc rfl rfl rfl rfl⟩
   · have hc : c_h c (w :: ws) = { c with Jts := c.Jts ++ [⟨rrN ws, rrN ws.tail, rrN ws.tail.tail, rrN ws.tail.tail.tail⟩] } := by
       unfold c_h;exact (if_neg n1).trans (if_pos e)
     refine (a_w hT fun _ _=>rfl).mono ?_
     rintro _ s4 ⟨rfl,hT1,ho1⟩
     refine ⟨_,rfl,(a_w hT1 ho1).mono ?_⟩
     rintro _ s5 ⟨rfl,hT2,ho2⟩
     refine ⟨_,rfl,(a_w hT2 ho2).mono ?_⟩
     rintro _ s6 ⟨rfl,hT3,ho3⟩
     refine ⟨_,rfl,(a_w hT3 ho3).mono ?_⟩
     rintro _ s7 ⟨rfl,hT4,ho4⟩
     exact ⟨_,rfl,(hL.ext' (e1x hT4)).add1 (by omega) fun d' s' g=>go _ _ _ _ _ _ _ _ _ _ _ _ g hc rfl rfl rfl rfl⟩
   · have hc : c_h c (w :: ws) = { c with Sigs := c.Sigs ++ [⟨rrN ws, rrN ws.tail⟩] } := by
       unfold c_h;exact (if_neg n1).trans ((if_neg n2).trans (if_pos e))
     refine (a_w hT fun _ _=>rfl).mono ?_
     rintro _ s4 ⟨rfl,hT1,ho1⟩
     refine ⟨_,rfl,(a_w hT1 ho1).mono ?_⟩
     rintro _ s5 ⟨rfl,hT2,ho2⟩
     exact ⟨_,rfl,(hL.ext' (e1x hT2)).add2 (by omega) fun d' s' g=>go _ _ _ _ _ _ _ _ _ _ _ _ g hc rfl rfl rfl rfl⟩
   · have hc : c_h c (w :: ws) = { c with Xs := c.Xs ++ [rrN ws] } := by
       unfold c_h;exact (if_neg n1).trans ((if_neg n2).trans ((if_neg n3).trans (if_pos e)))
     refine (a_w hT fun _ _=>rfl).mono ?_
     rintro _ s4 ⟨rfl,hT1,ho1⟩
     exact ⟨_,rfl,(hL.ext' (e1x hT1)).add3 (by omega) fun d' s' g=>go _ _ _ _ _ _ _ _ _ _ _ _ g hc rfl rfl rfl rfl⟩
   · have hc : c_h c (w :: ws) = { c with Rts := c.Rts ++ [d_g ws] } := by
       unfold c_h;exact (if_neg n1).trans ((if_neg n2).trans ((if_neg n3).trans ((if_neg n4).trans (if_pos e))))
     refine (a_ip hT hwl).mono ?_
     rintro _ s4 ⟨row,rfl,hrow,hsame⟩
     have e14:Ext s1 s4:=fun j hj=>by
       have hne:j≠id:=fun e=>by
         have:=h6.ext j hj
         rw[e,hid] at this;rw[e] at hj;exact hj this.symm
       rw[hsame j hne,e13 j hj]
     obtain ⟨x1,x2,x3,hr,_⟩:=(show RtRow row (d_g ws) from hrow)
     subst hr
     exact ⟨_,_,_,_,_,_,rfl,(hL.ext' e14).add4 hrow (by omega) fun d' s' g=>go _ _ _ _ _ _ _ _ _ _ _ _ g hc rfl rfl rfl rfl⟩
   · have hc : c_h c (w :: ws) = { c with Age := rrN ws, Brake := rrN ws.tail, Hold := rrN ws.tail.tail, Budget := rrN ws.tail.tail.tail } := by
       unfold c_h;exact (if_neg n1).trans ((if_neg n2).trans ((if_neg n3).trans ((if_neg n4).trans ((if_neg n5).trans (if_pos e)))))
     refine (a_w hT fun _ _=>rfl).mono ?_
     rintro _ s4 ⟨rfl,hT1,ho1⟩
     refine ⟨_,rfl,(a_w hT1 ho1).mono ?_⟩
     rintro _ s5 ⟨rfl,hT2,ho2⟩
     refine ⟨_,rfl,(a_w hT2 ho2).mono ?_⟩
     rintro _ s6 ⟨rfl,hT3,ho3⟩
     refine ⟨_,rfl,(a_w hT3 ho3).mono ?_⟩
     rintro _ s7 ⟨rfl,hT4,ho4⟩
     have hL4:=hL.ext' (e1x hT4)
     exact ⟨_,rfl,go _ _ _ _ _ _ _ _ _ _ { c with Age:=rrN ws,Brake:=rrN ws.tail,Hold:=rrN ws.tail.tail,Budget:=rrN ws.tail.tail.tail } rows ⟨hL4.o0,hL4.o1,hL4.o2,hL4.o3,hL4.o4,hL4.rts⟩ hc rfl rfl rfl rfl⟩
   · have hc : c_h c (w :: ws) = c := by
       unfold c_h;exact (if_neg n1).trans ((if_neg n2).trans ((if_neg n3).trans ((if_neg n4).trans ((if_neg n5).trans (if_neg n6)))))
     exact go _ _ _ _ _ _ _ _ _ _ c rows (hL.ext' e13) hc rfl rfl rfl rfl
 · have hie:i=(pieces 10 text).length:=by omega
   subst hie
   rw[List.drop_length] at hgo
   have hgo:h_l text=c:=hgo
   subst hgo
   refine (g_y hL.cf (s_l text) (a_f1 ht)).use ⟨_,rfl,?_⟩
   rw[h_f,Lib.toList_data]
   have eA:Ext σ s1:=hd.ext.trans hL.o0.ext
   refine c_g (fun e=>?_) (fun e=>?_)
   · have en:n_q text=none:=if_neg fun h=>by rw[h,beq_self_eq_true] at e;cases e
     rw[en]
     exact ⟨.nils, .nils, .nils, .nils, .nils,[],rfl,eA,nil5 eA⟩
   · have es:n_q text=some (h_l text):=if_pos (by simpa using e)
     rw[es]
     exact ⟨d1,d2,d3,d4,d5,rows,rfl,eA,hL.base hd.ext⟩
theorem x_3 {text:ByteArray}(ht:text.size≤1048576) :
   DCalls prog h_y [sA text] σ fun r s'=>s'=σ∧∃c0 c1 c2 c3 c4,r= .tup [cfA c0 c1 c2 c3 c4 ((n_q text).getD d_i),iA (if (n_q text).isSome then 0 else 13)]∧∀s,CfAt s c0 c1 c2 c3 c4 ((n_q text).getD d_i):=by
 refine (a_fq ht).ret ?_
 rintro r s1 ⟨d0,d1,d2,d3,d4,rows,rfl,he,hL⟩
 obtain ⟨e0,e1,e2,e3,e4,h1,h2⟩:=a_n0 hL he
 exact ⟨_,σ,h1,rfl,e0,e1,e2,e3,e4,rfl,h2⟩
theorem a_oz (t:ByteArray) :c_p t=n_q t:=by
 have ofT:∀{c:Cf},c_b c=t.data.toList→a_l (c_b c) =t:=fun h=>by rw[h];exact f_u _
 cases h:c_p t with
 | some c=>
   obtain ⟨h1,h2⟩:=q_r h
   have h3:=a_fu h2
   rw[ofT h1] at h3
   unfold n_q
   rw[h3,if_pos h1]
 | none=>
   unfold n_q
   split
   · rename_i he
     have h3:=q_h (s_l t)
     rw[ofT he] at h3
     rw[h3] at h;cases h
   · rfl
end Go.Proofs.YtfdffboelecgoaaGreatDoor
end
section
set_option maxRecDepth 20000
namespace Go.Proofs.YtfdffboelecgoaaGreatDoor
open Go.Fw Go.Proofs Go.RowKit
open Go.Proofs.Tryz (prog)
variable {σ σ0:Store}
theorem law06_ConfTexts_ok {xs:List A}(h:TyAs prog [t_Config,t_string] xs)(hs:(xs.map wtA).sum≤1048576) :a_l9 j_k xs:=by
 obtain ⟨a0,xs,rfl,h0,hr0⟩:=a_d3 h
 obtain ⟨a1,xs,rfl,h1,hr1⟩:=a_d3 hr0
 obtain rfl:=a_ml hr1
 obtain ⟨cs,_,rfl,p0⟩:=a_mi h0 (by kernel_rfl)
 obtain ⟨c0,c1,c2,c3,c4,c,rfl,hc,hci,hz⟩:=a_ft p0
 obtain ⟨_,rfl,text,rfl,htx⟩:=a_kr h1 (c:= .str) (by kernel_rfl) (by kernel_rfl)
 clear h h0 h1 hr0 hr1 p0
 have hw:cfW c≤wtA (.agg [c0,c1,c2,c3,c4,iD c.Age,iD c.Brake,iD c.Hold,iD c.Budget]):=a_ot hc
 have hwt:text.size+1=wtA (.one (.str text)):=rfl
 simp only[List.map_cons,List.map_nil,List.sum_cons,List.sum_nil] at hs
 have h64:=a_n4 hci
 have hlen:=a_e4 h64
 have htl:text.size≤1048576:=by omega
 have ht:(c_b c).length≤2 ^ 46:=by omega
 have hba:(a_l (c_b c)).size≤2 ^ 31:=by rw[f_t];omega
 refine r_6 _ _ _ _ _ _ _ _ _ text noS _ (law06_lives_ok.use ⟨true,rfl,c_g (fun e=>by cases e) (fun _=>(l_v (hc noS) h64 ht).use ⟨_,rfl,(g_y (hc noS) h64 ht).use ⟨_,rfl,c_g (fun e=>?_) (fun _=>(l_s hba).mono ?_)⟩⟩)⟩)
 · rw[beq_self_eq_true] at e;cases e
 rintro _ s1 ⟨rfl,d0,d1,d2,d3,d4,rfl,hd⟩
 rw[q_h h64] at hd ⊢
 refine ⟨_,_,_,_,_,_,_,_,_,_,rfl,fun R hR=>bcn (fun e=>absurd rfl e) (fun _=>(j_6 (hd _) (hc _) h64 h64 ht ht).use ⟨true,by rw[show (some c).getD d_i=c from rfl,beq_self_eq_true],c_g (fun e=>by cases e) (fun _=>hR _ ?_)⟩)⟩
 have hn:(c_b d_i).length≤2 ^ 46:=by
   have:=a_e4 v_c
   have e:cfW d_i=0:=rfl
   omega
 refine (l_s (by omega)).mono ?_
 rintro _ s2 ⟨rfl,k0,k1,k2,k3,k4,rfl,hk⟩
 refine ⟨_,_,_,_,_,_,_,_,_,_,rfl,(x_3 htl).mono ?_⟩
 rintro _ s3 ⟨rfl,m0,m1,m2,m3,m4,rfl,hm⟩
 rw[←a_oz] at hm ⊢
 have g64:cf64 ((c_p text).getD d_i)∧(c_b ((c_p text).getD d_i)).length≤2 ^ 46:=by
   cases hr:c_p text with
   | none=>exact ⟨v_c,hn⟩
   | some c=>
     obtain ⟨q1,q2⟩:=q_r hr
     refine ⟨q2,?_⟩
     show (c_b c).length≤_
     rw[q1]
     have:text.data.toList.length=text.size:=by simp
     omega
 refine ⟨_,_,_,_,_,_,_,_,_,_,rfl,bce (fun _=>(j_6 (hk _) (hm _) g64.1 g64.1 g64.2 g64.2).use ⟨true,by rw[beq_self_eq_true],?_⟩) (fun e=>absurd rfl e)⟩
 show a_c _ _ _
 refine bcn (fun _=>rfl) (fun e=>?_)
 refine (l_v (hk _) g64.1 g64.2).use ⟨_,rfl,?_⟩
 cases hr:c_p text with
 | none=>rw[hr] at e;cases e
 | some c=>
   obtain ⟨q1,q2⟩:=q_r hr
   show RV.a (.one (.bool (ByteArray.toList (a_l (c_b c)) == ByteArray.toList text))) =_
   rw[h_f,Lib.toList_data,q1,beq_self_eq_true]
end Go.Proofs.YtfdffboelecgoaaGreatDoor
end
