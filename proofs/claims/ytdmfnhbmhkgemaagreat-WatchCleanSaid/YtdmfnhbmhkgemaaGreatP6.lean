/-
  Proofs that the statement of this claim leans on: part 6.
-/
import Derived.Test.YtdmfnhbmhkgemaaGreatP5
set_option linter.unusedVariables false
set_option linter.unusedSimpArgs false
namespace Go.Proofs.YtdmfnhbmhkgemaaGreat
open Go.Fw Go.Proofs Go.RowKit
open Go.Proofs.Tryz (prog)
section
variable {σ σ0:Store}
section
variable {c0 c1 c2 c3 c4:D} {c:Cf} (hc:∀s,CfAt s c0 c1 c2 c3 c4 c)
def Does (σ0:Store)(c0 c1 c2 c3 c4:D)(c:Cf)(k:Co)(f:FuncId)(bs:List A)(E:Int)(Y:Co)(s:Store) :Prop:=
 ∀id d0 d1 d2 d3 d4 d5 s1,Ext s s1→CoIn σ0 s1 id d_k (cfC c0 c1 c2 c3 c4 c) [] d0 d1 d2 d3 d4 d5 k→
   DCalls prog f ([] ++ [.one (.el (.osl id 0 1) 0 0)] ++ bs) s1 fun r s'=>r= .a (iA E)∧Ext σ0 s'∧(E=0→CoIn σ0 s' id d_k (cfC c0 c1 c2 c3 c4 c) [] d0 d1 d2 d3 d4 d5 Y)
include hc
theorem g_0 {k0 k1 k2 k3 k4 k5:D}{k Y:Co}{E:Int}{f:FuncId}{b:List (Bool × List D)}{bs:List A}(h:CoAt σ k0 k1 k2 k3 k4 k5 k)(hf:CoFit k0 k1 k2 k3 k4 k5 k)(now:Int)(hb:f_v b=some bs)
   (hd:k.fits c=true→tm 0 now=true→Does σ c0 c1 c2 c3 c4 c k f bs E Y σ) :
   DCalls prog e_l [cfA c0 c1 c2 c3 c4 c,coA k0 k1 k2 k3 k4 k5 k.Dirty,iA now, .one (.fn f [] b)] σ (CoPost σ (k.done (k.gate c now E) Y)):=by
 refine a_hf _ _ _ _ _ _ _ _ _ k0 k1 k2 k3 k4 k5 k.Dirty now _ σ _ ((u_w hc h hf).mono ?_)
 rintro r s1 ⟨id,d0,d1,d2,d3,d4,d5,rfl,hI⟩
 refine ⟨_,_,rfl,?_⟩
 intro R hR
 have bad:∀(e:Int) s,Ext σ s→e≠0→k.gate c now E=e→R e s:=fun e s he hne hg=>by
   refine hR e s ?_
   rw[show (e != 0) =true by simpa using hne]
   refine (u_w hc (h.ext' he) hf).mono ?_
   rintro r s2 ⟨id,d0,d1,d2,d3,d4,d5,rfl,hI2⟩
   refine ⟨_,_,rfl,trivial,_,_,_,rfl,_,a_e hI2.row,d0,d1,d2,d3,d4,d5,k.Dirty,rfl,?_⟩
   rw[Co.done,hg,if_neg hne]
   exact ⟨d0,d1,d2,d3,d4,d5,rfl,hI2.co.from he⟩
 refine a_p (fun e1=>⟨rfl,bad 21 s1 hI.ext (by decide) (by rw[Co.gate,if_pos e1])⟩) (fun e1=>?_)
 have hg1:k.gate c now E=if tm 0 now=false then 32 else E:=by rw[Co.gate,if_neg (by rw[e1];decide)]
 refine a_d fun id2 s2 hid2 _ he2 hs2=>?_
 have hat:At prog s2 a_i (.osl id2 0 1) ([now].map Go.Fw.encI):=At.fresh hs2 (by simp) rfl
 refine (e_t 0 (by omega) hat).use ⟨_,rfl,?_⟩
 have ht:([now].all fun n=>decide (0≤n∧n≤4294967295+0)) =tm 0 now:=by simp[tm]
 rw[ht]
 refine a_p (fun e2=>⟨rfl,bad 32 s2 (hI.ext.trans he2) (by decide) (by rw[hg1,if_pos e2])⟩) (fun e2=>?_)
 rw[if_neg (by rw[e2];decide)] at hg1
 have hI2:CoIn σ s2 id d_k (cfC c0 c1 c2 c3 c4 c) [] d0 d1 d2 d3 d4 d5 k:=
   ⟨hI.new,(he2 id (by rw[hI.row];intro e;cases e)).trans hI.row,⟨hI.co.own.ext' he2,hI.co.routes.ext' he2,hI.co.points.ext' he2,hI.co.xs.ext' he2,hI.co.lines.ext' he2,hI.co.resets.ext' he2,hI.co.apart⟩,hI.ids⟩
 refine ⟨f,[],b,[],bs,rfl,rfl,hb,(hd e1 e2 id d0 d1 d2 d3 d4 d5 s2 (hI.ext.trans he2) hI2).mono ?_⟩
 rintro r s3 ⟨rfl,he3,hy⟩
 refine ⟨E,rfl,rfl,?_⟩
 by_cases hE:E=0
 · subst hE
   have hI3:=hy rfl
   refine hR 0 s3 ?_
   refine ⟨trivial,_,_,_,rfl,_,a_e hI3.row,d0,d1,d2,d3,d4,d5,Y.Dirty,rfl,?_⟩
   rw[Co.done,hg1,if_pos rfl]
   exact ⟨d0,d1,d2,d3,d4,d5,rfl,hI3.co⟩
 · exact bad E s3 he3 hE hg1
omit hc
variable {id:Nat} {t:TypeId} {d0 d1 d2 d3 d4 d5:D} {k:Co}
theorem u_3 (hI:CoIn σ0 σ id t (cfC c0 c1 c2 c3 c4 c) [] d0 d1 d2 d3 d4 d5 k)(r:Int) :
   Pure prog e_3 [.one (.el (.osl id 0 1) 0 0),iA r] σ (match a_k k.Routes r with | none=> .tup [.one .nilp,iA 20] | some _=> .tup [.one (.el d1 r.toNat 0),iA 0]):=by
 have hs:=hI.at.routes.size
 rw[List.length_map] at hs
 refine w_8 _ r σ _ ⟨trivial,_,_,_,rfl,_,a_e hI.row,d1,rfl,hI.at.routes.lenK ((b_u _ _ _).use ⟨_,rfl,?_⟩)⟩
 rw[List.length_map,a_w (by omega) (by omega)]
 refine a_p (fun e=>?_) (fun e=>?_)
 · have e:=of_decide_eq_false e
   have:a_k k.Routes r=none:=by
     by_cases h0:r < 0
     · exact b_z h0
     · exact c_z (by omega)
   rw[this];exact ⟨rfl,rfl⟩
 · have e:=of_decide_eq_true e
   obtain ⟨x,hx⟩:=c_8 (l:=k.Routes) (i:=r) (by omega) (by omega)
   rw[hx]
   refine ⟨trivial,_,_,_,rfl,_,a_e hI.row,d1,rfl,hI.at.routes.idxK a_x (Int.toNat_of_nonneg e.1).symm (by rw[List.length_map];omega) ⟨rfl,rfl⟩⟩
include hc
theorem a_bb (hI:CoIn σ0 σ id t (cfC c0 c1 c2 c3 c4 c) [] d0 d1 d2 d3 d4 d5 k){r s o:Int}(ho:a_k k.Own s=some o)(hlo: -2≤o∧o≤c.Rts.length)(hr:0≤r∧r < c.Rts.length) :
   Pure prog f_e [.one (.el (.osl id 0 1) 0 0),iA r,iA s] σ (.a (bA (k.inh c r s))):=by
 obtain ⟨g1,g2,g3⟩:=a_l ho
 have w:w64 (o - 1) =o - 1:=a_w (by omega) (by have:=(i_1 (hc σ));obtain ⟨rows,ha,hl⟩:=this;have:=ha.size;omega)
 have hi:k.inh c r s=(decide (0≤o - 1∧o - 1≠r) && (decide ((c.rt (o - 1)).Exit=(c.rt r).Entry) && inL (c.rt (o - 1)).Overlap s)):=by
   unfold Co.inh;rw[ho];rfl
 have no:¬(0≤o - 1∧o - 1≠r)→k.inh c r s=false:=fun e=>by rw[hi,decide_eq_false e];rfl
 refine p_5 _ r s σ _ ⟨trivial,_,_,_,rfl,_,a_e hI.row,d0,rfl,hI.at.own.load (a_c g3) c_int (Int.toNat_of_nonneg g1).symm ⟨o,rfl,?_⟩⟩
 rw[w]
 refine bcd (fun e=>by rw[no (by omega)];exact ⟨rfl,rfl⟩) (fun e1=>bce (fun e=>by rw[no (by omega)];exact ⟨rfl,rfl⟩) (fun e2=>?_))
 obtain ⟨q,hq⟩:=c_8 (l:=c.Rts) (i:=o - 1) e1 (by omega)
 obtain ⟨x,hx⟩:=c_8 (l:=c.Rts) (i:=r) (by omega) (by omega)
 obtain ⟨rows,q1,q2,q3,hat,hlen,hrow,f1,f2,f3⟩:=p_h hc (a_l hq).2.2
 obtain ⟨rows',x1,x2,x3,hat',hlen',hrow',_,_,_⟩:=p_h hc (a_l hx).2.2
 rw[hi,decide_eq_true (by omega),b_j hq,b_j hx,Bool.true_and]
 refine ⟨trivial,_,_,_,rfl,_,a_e hI.row,c4,rfl,(hat σ).load hrow c_p (by omega) ⟨_,_,_,_,_,_,rfl,trivial,_,_,_,rfl,_,a_e hI.row,c4,rfl,(hat' σ).load hrow' c_p (by omega) ⟨x.Entry,rfl,bce (fun e=>?_) (fun e=>?_)⟩⟩⟩
 · exact (g_w s (f3 σ)).use ⟨_,rfl,by rw[decide_eq_true e];exact ⟨rfl,rfl⟩⟩
 · rw[decide_eq_false e];exact ⟨rfl,rfl⟩
theorem a_ms (hI:CoIn σ0 σ id t (cfC c0 c1 c2 c3 c4 c) [] d0 d1 d2 d3 d4 d5 k){r:Int}{ds:D}{l:List Int}(hl:At prog σ a_i ds (l.map Go.Fw.encI))(hr:0≤r∧r < c.Rts.length)
   (hin:∀s ∈ l,∃o,a_k k.Own s=some o) (hlo:∀o ∈ k.Own,-2≤o∧o≤c.Rts.length) :
   Pure prog i_m [.one (.el (.osl id 0 1) 0 0),iA r, .one ds] σ (.a (iA (k.may c r l))):=by
 have hs:=hI.at.routes.size
 rw[List.length_map] at hs
 have hls:=hl.size
 rw[List.length_map] at hls
 refine a_at _ r _ σ _ ⟨trivial,_,_,_,rfl,_,a_e hI.row,d1,rfl,hI.at.routes.lenK ⟨fun n s=>s=σ∧Rng k.Routes (fun q=>u_z c l q n.toNat=u_z c l k.Routes 0) n,fun n _=>k.Routes.length - n.toNat,⟨rfl, .start rfl⟩,?_⟩⟩
 rintro n s ⟨rfl,hq⟩
 rw[List.length_map]
 refine bcd (fun hlt=>?_) (fun hge=>?_)
 · obtain ⟨j,x,rfl,hx,hj,hF,nx⟩:=hq.step rfl (by omega) hlt
   rw[u_z,Int.toNat_natCast] at hF
   have next:(decide (x.State≠0) && inL l (c.Approach j)) =false→(s=s∧Rng k.Routes (fun q=>u_z c l q (w64 ((j:Int) +1)).toNat=u_z c l k.Routes 0) (w64 ((j:Int) +1)))∧k.Routes.length - (w64 ((j:Int) +1)).toNat < k.Routes.length - (j:Int).toNat:=fun e=>by
     rw[e,Bool.false_or] at hF
     exact c_6 rfl (nx _ (by rw[a_m (by omega),Int.toNat_natCast];exact hF))
   refine hI.at.routes.load (a_c hx) a_x rfl ⟨x.State,x.Since,x.Next,x.Mark,rfl,bcn (fun e=>?_) (fun e=>next (by rw[decide_eq_false (by simpa using e)];rfl))⟩
   refine ⟨trivial,_,_,_,rfl,_,a_e hI.row,c0,c1,c2,c3,c4,_,_,_,_,rfl,(n_l (hc s) j).use ⟨_,rfl,(g_w _ hl).use ⟨_,rfl,bc (fun e2=>?_) (fun e2=>next (by rw[e2,Bool.and_false]))⟩⟩⟩
   have:u_z c l k.Routes 0=true:=by rw[←hF,e2,decide_eq_true e];rfl
   rw[Co.may,if_pos this];exact ⟨rfl,rfl⟩
 · have hF:=hq.done rfl hge
   have hap:u_z c l k.Routes 0=false:=by rw[←hF];rfl
   have hm:k.may c r l=if k.blocked c r l=true then 22 else 0:=by rw[Co.may,if_neg (by rw[hap];decide)]
   rw[hm]
   refine hl.lenK ⟨fun n s'=>s'=s∧Rng l (fun q=>k.blocked c r q=k.blocked c r l) n,fun n _=>l.length - n.toNat,⟨rfl, .start rfl⟩,?_⟩
   rintro n s' ⟨rfl,hq⟩
   rw[List.length_map]
   refine bcd (fun hlt=>?_) (fun hge=>?_)
   · obtain ⟨j,v,rfl,hv,hj,hF,nx⟩:=hq.step rfl (by omega) hlt
     obtain ⟨o,ho⟩:=hin v (List.mem_of_getElem? hv)
     obtain ⟨g1,g2,g3⟩:=a_l ho
     have hF:((decide ((a_k k.Own v).getD 0≠0) && !k.inh c r v) || k.blocked c r (l.drop (j+1))) =k.blocked c r l:=hF
     rw[ho,Option.getD_some] at hF
     refine hl.load (a_c hv) c_int rfl ⟨v,rfl,trivial,_,_,_,rfl,_,a_e hI.row,d0,rfl,hI.at.own.load (a_c g3) c_int (Int.toNat_of_nonneg g1).symm ⟨o,rfl,bcn (fun e=>?_) (fun e=>?_)⟩⟩
     · refine (a_bb hc hI ho (hlo o (d_3 ho)) hr).use ⟨_,rfl,a_p (fun e2=>?_) (fun e2=>?_)⟩
       · rw[e2,decide_eq_true e] at hF
         rw[if_pos (by rw[←hF];rfl)];exact ⟨rfl,rfl⟩
       · rw[e2,Bool.not_true,Bool.and_false,Bool.false_or] at hF
         exact c_6 rfl (nx _ hF)
     · rw[decide_eq_false (by simpa using e),Bool.false_and,Bool.false_or] at hF
       exact c_6 rfl (nx _ hF)
   · have hF:=hq.done rfl hge
     rw[if_neg (by rw[←hF];show ¬(false=true);decide)];exact ⟨rfl,rfl⟩
end
end
section
variable {σ σ0:Store}
def a_em (xs:List A)(s:Store) :Prop:=∃(m:Mv) (now cmd:Int),xs=[.agg m.enc,iA now,iA cmd]
def s_1 (xs:List A)(s:Store)(r:RV)(s':Store) :Prop:=∃(m:Mv) (now cmd:Int),xs=[.agg m.enc,iA now,iA cmd]∧r= .a (.agg (g_o m now cmd).enc)∧s'=s
theorem z_0 (m:Mv)(now cmd:Int) :Pure prog c_g [.agg m.enc,iA now,iA cmd] σ (.a (.agg (g_o m now cmd).enc)):=
 a_cz m.Cmd m.Other now cmd σ _ (bcn (fun e=>⟨by rw[g_o,if_pos e];rfl,rfl⟩) (fun e=>⟨by rw[g_o,if_neg (by simpa using e)];rfl,rfl⟩))
theorem x_3:h_k prog c_g a_em s_1:=by
 refine ⟨?_,?_,?_,?_,?_⟩
 · rintro xs s ⟨m,now,cmd,rfl⟩
   exact (z_0 m now cmd).use ⟨m,now,cmd,rfl,rfl,rfl⟩
 · rintro xs s ⟨m,now,cmd,rfl⟩ hf
   exact ⟨_,s,⟨m,now,cmd,rfl,rfl,rfl⟩,hf⟩
 · rintro xs s r s' ⟨m,now,cmd,rfl,rfl,rfl⟩ hf
   exact hf
 · rintro xs s id so hid hso ⟨m,now,cmd,rfl⟩
   refine ⟨⟨m,now,cmd,rfl⟩,?_⟩
   rintro r s' ⟨m,now,cmd,e,rfl,rfl⟩
   exact ⟨s,⟨m,now,cmd,e,rfl,rfl⟩,hid,rfl⟩
 · rintro xs s r s' _ ⟨m,now,cmd,rfl,rfl,rfl⟩ i _
   rfl
theorem y_e {m:Mv}{now cmd:Int}{s s':Store}{r:RV}(h:s_1 [.agg m.enc,iA now,iA cmd] s r s') :r= .a (.agg (g_o m now cmd).enc)∧s'=s:=by
 obtain ⟨m',now',cmd',e,h1,h2⟩:=h
 injection e with e1 e2
 injection e2 with e2 e3
 injection e3 with e3 _
 injection e1 with e1
 injection e2 with e2
 injection e3 with e3
 injection e2 with _ e2
 injection e3 with _ e3
 subst e2 e3
 have:m=m':=by
   cases m;cases m'
   simp[Mv.enc,iD] at e1
   simp[e1]
 subst this
 exact ⟨h1,h2⟩
section
variable {c0 c1 c2 c3 c4:D} {c:Cf} (hc:∀s,CfAt s c0 c1 c2 c3 c4 c) {id:Nat} {t:TypeId} {d0 d1 d2 d3 d4 d5:D} {k:Co}
include hc
theorem a_iv (hI:CoIn σ0 σ id t (cfC c0 c1 c2 c3 c4 c) [] d0 d1 d2 d3 d4 d5 k)(hok:c.check=0)(hl4:k.Lines.length=4){r:Int}{x:Rt}(hx:a_k c.Rts r=some x) :
   Pure prog h_9 [.one (.el (.osl id 0 1) 0 0),iA r] σ (.a (.one (if b_b c x.Path > 0 then .el d4 (b_b c x.Path).toNat 0 else .nilp))):=by
 have hr:=a_7 hok (d_3 hx)
 obtain ⟨rows,q1,q2,q3,hat,hlen,hrow,f1,f2,f3⟩:=p_h hc (a_l hx).2.2
 have hg:=a_l hx
 have w1:=hr.len
 refine y_l _ r σ _ ⟨trivial,_,_,_,rfl,_,a_e hI.row,c4,rfl,(hat σ).load hrow c_p (by omega) ⟨q1,rfl,(f1 σ).lenK ⟨fun n s=>s=σ∧Rng x.Path (fun q=>b_b c q=b_b c x.Path) n,fun n _=>x.Path.length - n.toNat,⟨rfl, .start rfl⟩,?_⟩⟩⟩
 rintro n s ⟨rfl,hq⟩
 rw[List.length_map]
 refine bcd (fun hlt=>?_) (fun hge=>?_)
 · obtain ⟨j,y,rfl,hy,hj,hF,nx⟩:=hq.step rfl (by omega) hlt
   obtain ⟨z,hz,_⟩:=(hr.step y (List.mem_of_getElem? hy)).1.sec
   have hgz:=a_l hz
   rw[b_b,hz,Option.getD_some] at hF
   refine (f1 s).load (a_c hy) g_f rfl ⟨y.Sec,y.In,y.Out,rfl,trivial,_,_,_,rfl,_,a_e hI.row,c0,rfl,(hc s).secs.load (a_c hgz.2.2) b_n (Int.toNat_of_nonneg hgz.1).symm ⟨z.Line,rfl,bcd (fun e=>?_) (fun e=>?_)⟩⟩
   · rw[if_pos e] at hF
     rw[←hF,if_pos e]
     have hz3:=k_f (h_j hok).1 hgz.2.2
     exact ⟨trivial,_,_,_,rfl,_,a_e hI.row,d4,rfl,hI.at.lines.idxK b_8 (Int.toNat_of_nonneg (by omega)).symm (by rw[List.length_map];omega) ⟨rfl,rfl⟩⟩
   · rw[if_neg e] at hF
     exact c_6 rfl (nx _ hF)
 · have hF:=hq.done rfl hge
   rw[←hF];exact ⟨rfl,rfl⟩
theorem a_c5 (hI:CoIn σ0 σ id t (cfC c0 c1 c2 c3 c4 c) [] d0 d1 d2 d3 d4 d5 k)(hz:u_4 c4)(hfit:k.fits c=true)(now r:Int) :
   DCalls prog f_n [.one (.el (.osl id 0 1) 0 0),iA now,iA r] σ fun q s'=>q= .a (iA (k.reqE c r))∧Ext σ0 s'∧(k.reqE c r=0→CoIn σ0 s' id t (cfC c0 c1 c2 c3 c4 c) [] d0 d1 d2 d3 d4 d5 (k.lockC c now r)):=by
 have hfi:=fits_iff.1 hfit
 have hok:=hfi.chk
 have err:∀e:Int,k.reqE c r=e→e≠0→(RV.a (iA e) =RV.a (iA (k.reqE c r))∧Ext σ0 σ∧(k.reqE c r=0→CoIn σ0 σ id t (cfC c0 c1 c2 c3 c4 c) [] d0 d1 d2 d3 d4 d5 (k.lockC c now r))):=fun e h1 h2=>
   ⟨by rw[h1],hI.ext,fun h3=>absurd (h1.symm.trans h3) h2⟩
 refine q_8 _ now r σ _ ((u_3 hI r).use ?_)
 cases hgr:a_k k.Routes r with
 | none=>exact ⟨_,_,rfl,err 20 (by rw[Co.reqE,hgr]) (by decide)⟩
 | some x=>
   have hgx:=a_l hgr
   have hsz:=hI.at.routes.size
   rw[List.length_map] at hsz
   have hxl:=(List.getElem?_eq_some_iff.1 hgx.2.2).1
   have hE:k.reqE c r=if x.State≠0 then 28 else if k.may c r (c.lockL r)≠0 then k.may c r (c.lockL r) else if b_b c (c.rt r).Path > 0∧((a_k k.Lines (b_b c (c.rt r).Path)).getD zLs).Ask≥4294967295 then 5 else 0:=by
     rw[Co.reqE,hgr]
   obtain ⟨y,hy,hym⟩:=a_uz hfi hgr
   have hrok:=a_7 hok hym
   have hyl:=(List.getElem?_eq_some_iff.1 (a_l hy).2.2).1
   have hcl:c.Rts.length=k.Routes.length:=hfi.lRts.symm
   have hll:c.lockL r=Cf.lockR y:=by unfold Cf.lockL;rw[hy]
   have hsec:∀s ∈ c.lockL r,∃z,a_k c.Secs s=some z:=fun s hs=>a_a4 hrok (by rw[←hll];exact hs)
   refine ⟨_,_,rfl,?_⟩
   show a_b ((0:Int) != 0) _ _
   rw[show ((0:Int) != 0) =false from by decide]
   refine ⟨trivial,_,_,_,rfl,_,hI.at.routes.row (a_c hgx.2.2),x.State,rfl,bcn (fun e=>err 28 (by rw[hE,if_pos e]) (by decide)) (fun e1=>?_)⟩
   rw[if_neg (by simpa using e1)] at hE
   refine ⟨trivial,_,_,_,rfl,_,a_e hI.row,c0,c1,c2,c3,c4,_,_,_,_,rfl,(a_ix hc hok hz r).mono ?_⟩
   rintro q s ⟨rfl,d7,rfl,h7⟩
   have hin:∀v ∈ c.lockL r,∃o,a_k k.Own v=some o:=fun v hv=>by
     obtain ⟨z,hz⟩:=hsec v hv
     have hg:=a_l hz
     have:=(List.getElem?_eq_some_iff.1 hg.2.2).1
     exact c_8 (by omega) (by have:=hfi.lOwn;omega)
   refine ⟨d7,rfl,(a_ms hc hI (h7 s) (by omega) hin hfi.own).use ⟨_,rfl,bcn (fun e=>err _ (by rw[hE,if_pos e]) e) (fun e2=>?_)⟩⟩
   rw[if_neg (by simpa using e2),b_j hy] at hE
   intro R hR
   have body:(b_b c y.Path > 0→((a_k k.Lines (b_b c y.Path)).getD zLs).Ask < 4294967295)→∀s3,CoIn σ0 s3 id t (cfC c0 c1 c2 c3 c4 c) [] d0 d1 d2 d3 d4 d5 { k with Lines:=k_p (b_b c y.Path) k.Lines }→R s3:=by
     intro hask s3 hI3
     have hE0:k.reqE c r=0:=by rw[hE,if_neg (by intro h;have:=hask h.1;omega)]
     refine hR s3 ?_
     have hz7:=(h7 s3).size
     rw[List.length_map] at hz7
     refine (h7 s3).lenK ⟨fun n s=>∃j:Nat,n=j∧j≤(c.lockL r).length∧CoIn σ0 s id t (cfC c0 c1 c2 c3 c4 c) [] d0 d1 d2 d3 d4 d5 { k with Lines:=k_p (b_b c y.Path) k.Lines,Own:=((c.lockL r).take j).foldl (fun w s=>w.set s.toNat (r+1)) k.Own },
       fun n _=>(c.lockL r).length - n.toNat,⟨0,rfl,by omega,by simpa using hI3⟩,?_⟩
     rintro n s4 ⟨j,rfl,hj,hI4⟩
     rw[List.length_map]
     refine bcd (fun hlt=>?_) (fun hge=>?_)
     · obtain ⟨v,hv⟩:=a_g (l:=c.lockL r) (j:=j) (by omega)
       obtain ⟨o,ho⟩:=hin v (List.mem_of_getElem? hv)
       have hgo:=a_l ho
       have hvl:=(List.getElem?_eq_some_iff.1 hgo.2.2).1
       have hlo:=z_k (r+1) ((c.lockL r).take j) k.Own
       obtain ⟨o',ho'⟩:=a_g (l:=((c.lockL r).take j).foldl (fun w s=>w.set s.toNat (r+1)) k.Own) (j:=v.toNat) (by omega)
       refine (h7 s4).load (a_c hv) c_int rfl ⟨v,rfl,trivial,_,_,_,rfl,_,a_e hI4.row,d0,rfl,hI4.at.own.idxK c_int (Int.toNat_of_nonneg hgo.1).symm (by simp only[List.length_map];omega) ?_⟩
       rw[a_w (n:=r+1) (by omega) (by omega)]
       refine hI4.putO (k:= { k with Lines:=k_p (b_b c y.Path) k.Lines,Own:=((c.lockL r).take j).foldl (fun w s=>w.set s.toNat (r+1)) k.Own }) (y:=r+1) ho' rfl (by simp) rfl fun s5 hI5 _=>?_
       rw[a_m (by omega)]
       refine ⟨⟨j+1,rfl,by omega,?_⟩,c_9 (by omega)⟩
       rw[List.take_add_one,hv,List.foldl_append]
       exact hI5
     have e:j=(c.lockL r).length:=by omega
     rw[e,List.take_length] at hI4
     have hxr:=hgx.2.2
     refine ⟨trivial,_,_,_,rfl,hI4.putR (k:= { k with Lines:=k_p (b_b c y.Path) k.Lines,Own:=(c.lockL r).foldl (fun w s=>w.set s.toNat (r+1)) k.Own }) (y:=⟨1,0,0,0⟩) hxr rfl (by simp) rfl fun s5 hI5 _=>?_⟩
     have hyn:(c.rt r).Path.length≤2 ^ 20:=by rw[b_j hy];have:=hrok.len;omega
     have hyf:(c.rt r).Flank.length≤2 ^ 20:=by rw[b_j hy];have:=hrok.flen;omega
     refine ⟨trivial,_,_,_,rfl,_,a_e hI5.row,c0,c1,c2,c3,c4,_,_,_,_,rfl,(k_y hc r hyn hyf).mono ?_⟩
     rintro q s6 ⟨rfl,d13,rfl,h13⟩
     have hnl:(c.Needs r).length≤41:=by
       rw[Cf.Needs,b_j hy]
       have:=k_m c y
       have:=hrok.len;have:=hrok.flen;omega
     refine ⟨d13,rfl,(h13 s6).lenK ⟨fun n s=>∃j:Nat,n=j∧j≤(c.Needs r).length∧CoIn σ0 s id t (cfC c0 c1 c2 c3 c4 c) [] d0 d1 d2 d3 d4 d5 { k with Lines:=k_p (b_b c y.Path) k.Lines,Own:=(c.lockL r).foldl (fun w s=>w.set s.toNat (r+1)) k.Own,Routes:=k.Routes.set r.toNat ⟨1,0,0,0⟩,Points:=j_3 now ((c.Needs r).take j) k.Points },
       fun n _=>(c.Needs r).length - n.toNat,⟨0,rfl,by omega,hI5⟩,?_⟩⟩
     rintro n s7 ⟨j,rfl,hj,hI7⟩
     rw[List.length_map]
     refine bcd (fun hlt=>?_) (fun hge=>?_)
     · obtain ⟨nd,hnd⟩:=a_g (l:=c.Needs r) (j:=j) (by omega)
       have hnm:=List.mem_of_getElem? hnd
       obtain ⟨⟨z,hz⟩,_⟩:=k_h hrok (by rw[Cf.Needs,b_j hy] at hnm;exact hnm)
       have hgz:=a_l hz
       have hzl:=(List.getElem?_eq_some_iff.1 hgz.2.2).1
       have hpl:=a_eu now ((c.Needs r).take j) k.Points
       have hpl2:=hfi.lPts
       obtain ⟨m,hm⟩:=a_g (l:=j_3 now ((c.Needs r).take j) k.Points) (j:=nd.Sec.toNat) (by omega)
       have hgm:a_k (j_3 now ((c.Needs r).take j) k.Points) nd.Sec=some m:=by unfold a_k;rw[if_neg (by omega),hm]
       refine (h13 s7).load (a_c hnd) m_m rfl ⟨nd.Sec,nd.Pos,rfl,a_em,s_1,x_3,trivial,_,_,_,rfl,_,a_e hI7.row,d2,rfl,trivial,_,_,_,rfl,_,a_e hI7.row,d2,rfl,
         hI7.at.points.load (a_c hm) c_l (Int.toNat_of_nonneg hgz.1).symm ⟨m.Cmd,m.Other,rfl,⟨m,now,nd.Pos,rfl⟩,?_⟩⟩
       intro q s8 hq
       obtain ⟨rfl,rfl⟩:=y_e (m:=m) hq
       refine ⟨_,_,rfl,hI7.at.points.idxK c_l (Int.toNat_of_nonneg hgz.1).symm (by simp only[List.length_map];omega) ?_⟩
       refine hI7.putP (k:= { k with Lines:=k_p (b_b c y.Path) k.Lines,Own:=(c.lockL r).foldl (fun w s=>w.set s.toNat (r+1)) k.Own,Routes:=k.Routes.set r.toNat ⟨1,0,0,0⟩,Points:=j_3 now ((c.Needs r).take j) k.Points }) (y:=g_o m now nd.Pos) hm rfl (by simp) rfl fun s9 hI9 _=>?_
       rw[a_m (by omega)]
       refine ⟨⟨j+1,rfl,by omega,?_⟩,c_9 (by omega)⟩
       have e:j_3 now ((c.Needs r).take (j+1)) k.Points=(j_3 now ((c.Needs r).take j) k.Points).set nd.Sec.toNat (g_o m now nd.Pos):=by
         rw[List.take_add_one,hnd,j_3,List.foldl_append]
         show (j_3 now ((c.Needs r).take j) k.Points).set nd.Sec.toNat (g_o ((a_k (j_3 now ((c.Needs r).take j) k.Points) nd.Sec).getD ⟨0,0⟩) now nd.Pos) =_
         rw[hgm];rfl
       rw[e];exact hI9
     have e:j=(c.Needs r).length:=by omega
     rw[e,List.take_length] at hI7
     have hxs:=(q_y hok).2.2
     refine ⟨trivial,_,_,_,rfl,_,a_e hI7.row,c0,c1,c2,c3,c4,_,_,_,_,rfl,(g_8 hc r (by omega)).mono ?_⟩
     rintro q s8 ⟨rfl,d19,rfl,h19⟩
     have hcl2:(c.Cross r).length≤c.Xs.length:=i_o _ _ _
     refine ⟨d19,rfl,(h19 s8).lenK ⟨fun n s=>∃j:Nat,n=j∧j≤(c.Cross r).length∧CoIn σ0 s id t (cfC c0 c1 c2 c3 c4 c) [] d0 d1 d2 d3 d4 d5 { k with Lines:=k_p (b_b c y.Path) k.Lines,Own:=(c.lockL r).foldl (fun w s=>w.set s.toNat (r+1)) k.Own,Routes:=k.Routes.set r.toNat ⟨1,0,0,0⟩,Points:=j_3 now (c.Needs r) k.Points,Xs:=xsC now ((c.Cross r).take j) k.Xs },
       fun n _=>(c.Cross r).length - n.toNat,⟨0,rfl,by omega,hI7⟩,?_⟩⟩
     rintro n s9 ⟨j,rfl,hj,hI9⟩
     rw[List.length_map]
     refine bcd (fun hlt=>?_) (fun hge=>?_)
     · obtain ⟨v,hv⟩:=a_g (l:=c.Cross r) (j:=j) (by omega)
       obtain ⟨i,xx,e3,hxx,_⟩:=f_y _ _ _ _ (List.mem_of_getElem? hv)
       rw[Nat.zero_add] at e3
       subst e3
       have hil:=(List.getElem?_eq_some_iff.1 hxx).1
       have hpl:=a_l8 now ((c.Cross r).take j) k.Xs
       have hpl2:=hfi.lXs
       obtain ⟨m,hm⟩:=a_g (l:=xsC now ((c.Cross r).take j) k.Xs) (j:=i) (by omega)
       have hgm:a_k (xsC now ((c.Cross r).take j) k.Xs) (i:Int) =some m:=by rw[d_s,hm]
       refine (h19 s9).load (a_c hv) c_int rfl ⟨(i:Int),rfl,a_em,s_1,x_3,trivial,_,_,_,rfl,_,a_e hI9.row,d3,rfl,trivial,_,_,_,rfl,_,a_e hI9.row,d3,rfl,
         hI9.at.xs.load (a_c hm) c_l rfl ⟨m.Cmd,m.Other,rfl,⟨m,now,1,rfl⟩,?_⟩⟩
       intro q s10 hq
       obtain ⟨rfl,rfl⟩:=y_e (m:=m) hq
       refine ⟨_,_,rfl,hI9.at.xs.idxK c_l rfl (by simp only[List.length_map];omega) ?_⟩
       refine hI9.putX (k:= { k with Lines:=k_p (b_b c y.Path) k.Lines,Own:=(c.lockL r).foldl (fun w s=>w.set s.toNat (r+1)) k.Own,Routes:=k.Routes.set r.toNat ⟨1,0,0,0⟩,Points:=j_3 now (c.Needs r) k.Points,Xs:=xsC now ((c.Cross r).take j) k.Xs }) (y:=g_o m now 1) hm (by rw[Int.toNat_natCast]) (by simp) rfl fun s11 hI11 _=>?_
       rw[a_m (by omega)]
       refine ⟨⟨j+1,rfl,by omega,?_⟩,c_9 (by omega)⟩
       have e:xsC now ((c.Cross r).take (j+1)) k.Xs=(xsC now ((c.Cross r).take j) k.Xs).set i (g_o m now 1):=by
         rw[List.take_add_one,hv,xsC,List.foldl_append]
         show (xsC now ((c.Cross r).take j) k.Xs).set ((i:Int)).toNat (g_o ((a_k (xsC now ((c.Cross r).take j) k.Xs) (i:Int)).getD ⟨0,0⟩) now 1) =_
         rw[hgm];rfl
       rw[e];exact hI11
     have e:j=(c.Cross r).length:=by omega
     rw[e,List.take_length] at hI9
     refine ⟨trivial,_,_,_,rfl,hI9.dirty (b:=true) rfl fun s10 hI10 _=>⟨by rw[hE0],hI10.ext,fun _=>?_⟩⟩
     have:k.lockC c now r= { k with Lines:=k_p (b_b c y.Path) k.Lines,Own:=(c.lockL r).foldl (fun w s=>w.set s.toNat (r+1)) k.Own,Routes:=k.Routes.set r.toNat ⟨1,0,0,0⟩,Points:=j_3 now (c.Needs r) k.Points,Xs:=xsC now (c.Cross r) k.Xs,Dirty:=true } :=by
       rw[Co.lockC,b_j hy]
     rw[this];exact hI10
   refine (a_iv hc hI hok hfi.lLn hy).use ⟨_,rfl,?_⟩
   by_cases hl:b_b c y.Path > 0
   · rw[if_pos hl]
     have hl3:=(x_9 hok y.Path).2
     obtain ⟨u,hu⟩:=a_g (l:=k.Lines) (j:=(b_b c y.Path).toNat) (by have:=hfi.lLn;omega)
     have hgu:a_k k.Lines (b_b c y.Path) =some u:=by unfold a_k;rw[if_neg (by omega),hu]
     refine ⟨false,rfl,?_⟩
     show a_b (false != true) _ _
     rw[show (false != true) =true from by decide]
     refine ⟨trivial,_,_,_,rfl,_,hI.at.lines.row (a_c hu),u.Ask,rfl,bcd (fun e=>err 5 (by rw[hE,if_pos ⟨hl,by rw[hgu];exact e⟩]) (by decide)) (fun e3=>?_)⟩
     refine ⟨trivial,_,_,_,rfl,_,hI.at.lines.row (a_c hu),u.Ask,rfl,trivial,_,_,_,rfl,?_⟩
     have hua:=(hfi.lns u (List.mem_of_getElem? hu))
     simp only[Ls.fits,tm,Bool.and_eq_true,decide_eq_true_eq] at hua
     rw[a_w (n:=u.Ask+1) (by omega) (by omega)]
     refine hI.putL (y:= { u with Ask:=u.Ask+1 }) hu rfl (by simp) rfl fun s4 hI4 _=>body (fun _=>by rw[hgu];show u.Ask < 4294967295;omega) s4 ?_
     have:k_p (b_b c y.Path) k.Lines=k.Lines.set (b_b c y.Path).toNat { u with Ask:=u.Ask+1 } :=by rw[k_p,if_pos hl,hgu];rfl
     rw[this];exact hI4
   · rw[if_neg hl]
     refine ⟨true,rfl,?_⟩
     show a_b (true != true) _ _
     rw[show (true != true) =false from by decide]
     refine body (fun h=>absurd h hl) s ?_
     have:k_p (b_b c y.Path) k.Lines=k.Lines:=by rw[k_p,if_neg hl]
     rw[this];exact hI
end
end
section
variable {σ σ0:Store}
theorem a_1 {s s':Store}{id:Nat}{t:TypeId}{rows:List (List D)}(h:s id= .live t rows)(he:Ext s s') :s' id= .live t rows:=(he id (by rw[h];intro e;cases e)).trans h
theorem CoPost.from {σ1 s:Store}{p:Co × Int}{r:RV}(he:Ext σ σ1)(h:CoPost σ1 p r s) :CoPost σ p r s:=by
 obtain ⟨d0,d1,d2,d3,d4,d5,e,ho⟩:=h
 exact ⟨d0,d1,d2,d3,d4,d5,e,ho.from he⟩
theorem CoPost.pass {s:Store}{p:Co × Int}{r:RV}{Q:RV→Store→Prop}(h:CoPost σ p r s)(hq:Q r s) :
   ∃d d1 d2 d3 d4 d5:D,∃b:Bool,∃n1:Int,r= .tup [.agg [d,d1,d2,d3,d4,d5, .bool b], .one (.int .i64 n1)]∧Q (.tup [.agg [d,d1,d2,d3,d4,d5, .bool b], .one (.int .i64 n1)]) s:=by
 obtain ⟨d0,d1,d2,d3,d4,d5,e,ho⟩:=h
 refine ⟨d0,d1,d2,d3,d4,d5,p.1.Dirty,p.2,e,?_⟩
 rw[←e];exact hq
section
variable {c0 c1 c2 c3 c4 k0 k1 k2 k3 k4 k5:D} {c:Cf} (hc:∀s,CfAt s c0 c1 c2 c3 c4 c) {k:Co} (h:CoAt σ k0 k1 k2 k3 k4 k5 k) (hf:CoFit k0 k1 k2 k3 k4 k5 k)
include hc h hf
theorem z_1 (hz:u_4 c4)(now r:Int) :DCalls prog j_n [cfA c0 c1 c2 c3 c4 c,coA k0 k1 k2 k3 k4 k5 k.Dirty,iA now,iA r] σ (CoPost σ (k.requestC c now r)):=by
 refine a_dp _ _ _ _ _ _ _ _ _ k0 k1 k2 k3 k4 k5 k.Dirty now r σ _ (a_d fun id s1 hid _ e1 q1=>a_d fun id1 s2 hid1 _ e2 q2=>?_)
 have q12:=a_1 q1 e2
 refine ⟨_,a_e q12,now,rfl,(g_0 hc (h.ext' (e1.trans e2)) hf now (bs:= [.one (.el (.osl id 0 1) 0 0), .one (.el (.osl id1 0 1) 0 0)]) (E:=k.reqE c r) (Y:=k.lockC c now r) rfl ?_).mono fun q s3 hp=>hp.pass (hp.from (e1.trans e2))⟩
 intro hfit ht id' d0 d1 d2 d3 d4 d5 s3 he hI
 refine x_y _ _ _ s3 _ ⟨_,_,_,rfl,_,a_e (a_1 q12 he),now,rfl,_,_,_,rfl,_,a_e (a_1 q2 he),r,rfl,(a_c5 hc hI hz hfit now r).mono ?_⟩
 rintro q s4 ⟨rfl,w1,w2⟩
 exact ⟨_,rfl,rfl,w1,w2⟩
theorem m_r (r to now:Int){fr:List Int}{fd:D}(hfr:At prog σ a_i fd (fr.map Go.Fw.encI)) :
   DCalls prog h_1 [cfA c0 c1 c2 c3 c4 c,coA k0 k1 k2 k3 k4 k5 k.Dirty,iA r,iA to,iA now, .one fd] σ (CoPost σ (k.leadC c r to now fr)):=by
 refine a_nk _ _ _ _ _ _ _ _ _ k0 k1 k2 k3 k4 k5 k.Dirty r to now fd σ _ (a_d fun i1 s1 _ _ e1 q1=>a_d fun i2 s2 _ _ e2 q2=>a_d fun i3 s3 _ _ e3 q3=>a_d fun i4 s4 _ _ e4 q4=>?_)
 have g3:=a_1 q3 e4
 have g2:=a_1 (a_1 q2 e3) e4
 have g1:=a_1 (a_1 (a_1 q1 e2) e3) e4
 have eA:Ext σ s4:=((e1.trans e2).trans e3).trans e4
 refine ⟨_,a_e g3,now,rfl,(g_0 hc (h.ext' eA) hf now (bs:= [.one (.el (.osl i1 0 1) 0 0), .one (.el (.osl i4 0 1) 0 0), .one (.el (.osl i2 0 1) 0 0), .one (.el (.osl i3 0 1) 0 0)]) (E:=k.leadE r fr) (Y:=k.leadY r to now) rfl ?_).mono fun q s5 hp=>hp.pass (hp.from eA)⟩
 intro hfit ht id d0 d1 d2 d3 d4 d5 s he hI
 refine a_e1 _ _ _ _ _ s _ ⟨_,_,_,rfl,_,a_e (a_1 g1 he),r,rfl,(u_3 hI r).use ?_⟩
 have err:∀e:Int,k.leadE r fr=e→e≠0→(RV.a (iA e) =RV.a (iA (k.leadE r fr))∧Ext s4 s∧(k.leadE r fr=0→CoIn s4 s id d_k (cfC c0 c1 c2 c3 c4 c) [] d0 d1 d2 d3 d4 d5 (k.leadY r to now))):=fun e h1 h2=>
   ⟨by rw[h1],hI.ext,fun h3=>absurd (h1.symm.trans h3) h2⟩
 cases hgr:a_k k.Routes r with
 | none=>exact ⟨_,_,rfl,err 20 (by rw[Co.leadE,hgr]) (by decide)⟩
 | some x=>
   have hgx:=a_l hgr
   have hE:k.leadE r fr=if inL fr x.State=false then 28 else 0:=by rw[Co.leadE,hgr]
   have hxl:=(List.getElem?_eq_some_iff.1 hgx.2.2).1
   refine ⟨_,_,rfl,?_⟩
   show a_b ((0:Int) != 0) _ _
   rw[show ((0:Int) != 0) =false from by decide]
   refine ⟨_,_,_,rfl,_,a_e (a_1 q4 he),fd,rfl,trivial,_,_,_,rfl,_,hI.at.routes.row (a_c hgx.2.2),x.State,rfl,(g_w x.State (hfr.ext (eA.trans he))).use ⟨_,rfl,a_p (fun e=>err 28 (by rw[hE,if_pos e]) (by decide)) (fun e1=>?_)⟩⟩
   rw[if_neg (by rw[e1];decide)] at hE
   refine ⟨_,_,_,rfl,_,a_e (a_1 g2 he),to,rfl,trivial,_,_,_,rfl,?_⟩
   have ow:∀{s':Store},CoIn s4 s id d_k (cfC c0 c1 c2 c3 c4 c) [] d0 d1 d2 d3 d4 d5 k→(∀i,a_5 d1≠some i→s' i=s i)→∀{j:Nat} {tt:TypeId} {rows:List (List D)},s4 j= .live tt rows→s' j= .live tt rows:=by
     intro s' _ hs j tt rows hj
     have hne:a_5 d1≠some j:=by
       intro e
       have:=n_e hI.co.routes e
       rw[hj] at this;cases this
     rw[hs j hne];exact a_1 hj he
   refine hI.putR (y:= { x with State:=to }) hgx.2.2 rfl (by simp) rfl fun s5 hI5 f5=>?_
   refine ⟨_,_,_,rfl,_,a_e (ow hI f5 g2),to,rfl,bce (fun e2=>?_) (fun e2=>?_)⟩
   · refine ⟨_,_,_,rfl,_,a_e (ow hI f5 g3),now,rfl,trivial,_,_,_,rfl,?_⟩
     refine hI5.putR (x:= { x with State:=to }) (y:= { x with State:=to,Since:=now }) (by show (k.Routes.set r.toNat _)[r.toNat]? =_;rw[List.getElem?_set,if_pos rfl,if_pos hxl]) rfl (by simp) rfl fun s6 hI6 f6=>?_
     refine ⟨trivial,_,_,_,rfl,hI6.putR (x:= { x with State:=to,Since:=now }) (y:= { x with State:=to,Since:=now,Mark:=0 }) (by show ((k.Routes.set r.toNat _).set r.toNat _)[r.toNat]? =_;rw[List.getElem?_set,if_pos rfl,if_pos (by simpa using hxl)]) rfl (by simp) rfl fun s7 hI7 f7=>?_⟩
     refine ⟨trivial,_,_,_,rfl,hI7.dirty (b:=true) rfl fun s8 hI8 _=>⟨by rw[hE],hI8.ext,fun _=>?_⟩⟩
     have:k.leadY r to now= { k with Routes:=((k.Routes.set r.toNat { x with State:=to }).set r.toNat { x with State:=to,Since:=now }).set r.toNat { x with State:=to,Since:=now,Mark:=0 },Dirty:=true } :=by
       rw[List.set_set,List.set_set,Co.leadY,if_pos e2,hgr];rfl
     rw[this];exact hI8
   · refine ⟨by rw[hE],hI5.ext,fun _=>?_⟩
     have:k.leadY r to now= { k with Routes:=k.Routes.set r.toNat { x with State:=to } } :=by rw[Co.leadY,if_neg e2,hgr];rfl
     rw[this];exact hI5
theorem a_gc (now s:Int) :DCalls prog n_b [cfA c0 c1 c2 c3 c4 c,coA k0 k1 k2 k3 k4 k5 k.Dirty,iA now,iA s] σ (CoPost σ (k.resetC c now s)):=by
 refine a_jo _ _ _ _ _ _ _ _ _ k0 k1 k2 k3 k4 k5 k.Dirty now s σ _ (a_d fun i1 s1 _ _ e1 q1=>a_d fun i2 s2 _ _ e2 q2=>?_)
 have g1:=a_1 q1 e2
 have eA:Ext σ s2:=e1.trans e2
 refine ⟨_,a_e g1,now,rfl,(g_0 hc (h.ext' eA) hf now (bs:= [.one (.el (.osl i2 0 1) 0 0), .one (.el (.osl i1 0 1) 0 0)]) (E:=k.resetE s) (Y:= { k with Resets:=k.Resets.set s.toNat (now+1) }) rfl ?_).mono fun q s5 hp=>hp.pass (hp.from eA)⟩
 intro hfit ht id d0 d1 d2 d3 d4 d5 s3 he hI
 have hfi:=fits_iff.1 hfit
 have hsz:=hI.at.own.size
 rw[List.length_map] at hsz
 have err:∀e:Int,k.resetE s=e→e≠0→(RV.a (iA e) =RV.a (iA (k.resetE s))∧Ext s2 s3∧(k.resetE s=0→CoIn s2 s3 id d_k (cfC c0 c1 c2 c3 c4 c) [] d0 d1 d2 d3 d4 d5 { k with Resets:=k.Resets.set s.toNat (now+1) })):=fun e h1 h2=>
   ⟨by rw[h1],hI.ext,fun h3=>absurd (h1.symm.trans h3) h2⟩
 refine a_d3 _ _ _ s3 _ ⟨_,_,_,rfl,_,a_e (a_1 q2 he),s,rfl,trivial,_,_,_,rfl,_,a_e hI.row,d0,rfl,hI.at.own.lenK ((b_u _ _ _).use ⟨_,rfl,?_⟩)⟩
 rw[List.length_map,a_w (by omega) (by omega)]
 refine a_p (fun e=>err 20 ?_ (by decide)) (fun e=>?_)
 · have e:=of_decide_eq_false e
   have:a_k k.Own s=none:=by
     by_cases h0:s < 0
     · exact b_z h0
     · exact c_z (by omega)
   rw[Co.resetE,this]
 · have e:=of_decide_eq_true e
   obtain ⟨o,ho⟩:=c_8 (l:=k.Own) (i:=s) (by omega) (by omega)
   have hE:k.resetE s=if o≠-1 then 28 else 0:=by rw[Co.resetE,ho]
   obtain ⟨z,hz⟩:=a_g (l:=k.Resets) (j:=s.toNat) (by have:=hfi.lOwn;have:=hfi.lRes;omega)
   refine ⟨trivial,_,_,_,rfl,_,a_e hI.row,d0,rfl,_,_,_,rfl,_,a_e (a_1 q2 he),s,rfl,hI.at.own.load (a_c (a_l ho).2.2) c_int (Int.toNat_of_nonneg e.1).symm ⟨o,rfl,bcn (fun e2=>err 28 (by rw[hE,if_pos e2]) (by decide)) (fun e2=>?_)⟩⟩
   rw[if_neg (by simpa using e2)] at hE
   simp only[tm,decide_eq_true_eq] at ht
   refine ⟨trivial,_,_,_,rfl,_,a_e hI.row,d5,rfl,_,_,_,rfl,_,a_e (a_1 q2 he),s,rfl,_,_,_,rfl,_,a_e (a_1 g1 he),now,rfl,hI.at.resets.idxK c_int (Int.toNat_of_nonneg e.1).symm (by rw[List.length_map];exact (List.getElem?_eq_some_iff.1 hz).1) ?_⟩
   rw[a_w (n:=now+1) (by omega) (by omega)]
   exact hI.putZ (y:=now+1) hz rfl (by simp) rfl fun s4 hI4 _=>⟨by rw[hE],hI4.ext,fun _=>hI4⟩
theorem a_fr (now s pos:Int) :DCalls prog m_1 [cfA c0 c1 c2 c3 c4 c,coA k0 k1 k2 k3 k4 k5 k.Dirty,iA now,iA s,iA pos] σ (CoPost σ (k.throwC c now s pos)):=by
 refine a_jr _ _ _ _ _ _ _ _ _ k0 k1 k2 k3 k4 k5 k.Dirty now s pos σ _ (a_d fun i1 s1 _ _ e1 q1=>a_d fun i2 s2 _ _ e2 q2=>a_d fun i3 s2' _ _ e3 q3=>?_)
 have g2:=a_1 q2 e3
 have g1:=a_1 (a_1 q1 e2) e3
 have eA:Ext σ s2':=(e1.trans e2).trans e3
 refine ⟨_,a_e g1,now,rfl,(g_0 hc (h.ext' eA) hf now (bs:= [.one (.el (.osl i2 0 1) 0 0), .one (.el (.osl i3 0 1) 0 0), .one (.el (.osl i1 0 1) 0 0)]) (E:=k.throwE c s pos) (Y:= { k with Points:=k.Points.set s.toNat (g_o ((a_k k.Points s).getD ⟨0,0⟩) now pos) }) rfl ?_).mono fun q s5 hp=>hp.pass (hp.from eA)⟩
 intro hfit ht id d0 d1 d2 d3 d4 d5 s3 he hI
 have hfi:=fits_iff.1 hfit
 have hsz:=hI.at.own.size
 rw[List.length_map] at hsz
 have err:∀e:Int,k.throwE c s pos=e→e≠0→(RV.a (iA e) =RV.a (iA (k.throwE c s pos))∧Ext s2' s3∧(k.throwE c s pos=0→CoIn s2' s3 id d_k (cfC c0 c1 c2 c3 c4 c) [] d0 d1 d2 d3 d4 d5 { k with Points:=k.Points.set s.toNat (g_o ((a_k k.Points s).getD ⟨0,0⟩) now pos) })):=fun e h1 h2=>
   ⟨by rw[h1],hI.ext,fun h3=>absurd (h1.symm.trans h3) h2⟩
 refine a_de _ _ _ _ s3 _ ?_
 intro R hR
 have p1:=a_e (a_1 g2 he)
 have p2:=a_e (a_1 q3 he)
 have p3:=a_e (a_1 g1 he)
 have body:(0≤s∧s < k.Own.length)→k.throwE c s pos=0→R s3:=fun hs hE=>by
   refine hR s3 ?_
   obtain ⟨m,hm⟩:=a_g (l:=k.Points) (j:=s.toNat) (by have:=hfi.lOwn;have:=hfi.lPts;omega)
   have hgm:a_k k.Points s=some m:=by unfold a_k;rw[if_neg (by omega),hm]
   have hml:=(List.getElem?_eq_some_iff.1 hm).1
   refine ⟨a_em,s_1,x_3,trivial,_,_,_,rfl,_,a_e hI.row,d2,rfl,_,_,_,rfl,_,p1,s,rfl,trivial,_,_,_,rfl,_,a_e hI.row,d2,rfl,_,_,_,rfl,_,p1,s,rfl,
     hI.at.points.load (a_c hm) c_l (Int.toNat_of_nonneg hs.1).symm ⟨m.Cmd,m.Other,rfl,_,_,_,rfl,_,p3,now,rfl,_,_,_,rfl,_,p2,pos,rfl,⟨m,now,pos,rfl⟩,?_⟩⟩
   intro q s8 hq
   obtain ⟨rfl,rfl⟩:=y_e (m:=m) hq
   refine ⟨_,_,rfl,hI.at.points.idxK c_l (Int.toNat_of_nonneg hs.1).symm (by rw[List.length_map];exact hml) ?_⟩
   refine hI.putP (y:=g_o m now pos) hm rfl (by simp) rfl fun s9 hI9 _=>⟨by rw[hE],hI9.ext,fun _=>?_⟩
   rw[hgm];exact hI9
 refine ⟨_,_,_,rfl,_,p1,s,rfl,trivial,_,_,_,rfl,_,a_e hI.row,d0,rfl,hI.at.own.lenK ((b_u _ _ _).use ⟨_,rfl,?_⟩)⟩
 rw[List.length_map,a_w (by omega) (by omega)]
 refine a_p (fun e=>err 20 ?_ (by decide)) (fun e=>?_)
 · have e:=of_decide_eq_false e
   have:a_k k.Own s=none:=by
     by_cases h0:s < 0
     · exact b_z h0
     · exact c_z (by omega)
   rw[Co.throwE,this]
 · have e:=of_decide_eq_true e
   obtain ⟨o,ho⟩:=c_8 (l:=k.Own) (i:=s) (by omega) (by omega)
   obtain ⟨z,hz⟩:=c_8 (l:=c.Secs) (i:=s) (by omega) (by have:=hfi.lOwn;omega)
   have hE:k.throwE c s pos=if z.Kind≠1 then 20 else if pos≠1∧pos≠2 then 32 else if o≠0 then 22 else 0:=by rw[Co.throwE,ho,h_e hz]
   refine ⟨trivial,_,_,_,rfl,_,a_e hI.row,c0,rfl,_,_,_,rfl,_,p1,s,rfl,(hc s3).secs.load (a_c (a_l hz).2.2) b_n (Int.toNat_of_nonneg e.1).symm ⟨z.Kind,rfl,bcn (fun e2=>err 20 (by rw[hE,if_pos e2]) (by decide)) (fun e2=>?_)⟩⟩
   rw[if_neg (by simpa using e2)] at hE
   have own:∀{X:Prop},(pos=1∨pos=2)→(o≠0→k.throwE c s pos=22)∧(o=0→k.throwE c s pos=0):=fun hp=>by
     rw[if_neg (by omega)] at hE
     exact ⟨fun h=>by rw[hE,if_pos h],fun h=>by rw[hE,if_neg (by simpa using h)]⟩
   refine ⟨_,_,_,rfl,_,p2,pos,rfl,bcn (fun e3=>⟨_,_,_,rfl,_,p2,pos,rfl,bcn (fun e4=>err 32 (by rw[hE,if_pos ⟨e3,e4⟩]) (by decide)) (fun e4=>?_)⟩) (fun e3=>?_)⟩
   · refine ⟨trivial,_,_,_,rfl,_,a_e hI.row,d0,rfl,_,_,_,rfl,_,p1,s,rfl,hI.at.own.load (a_c (a_l ho).2.2) c_int (Int.toNat_of_nonneg e.1).symm ⟨o,rfl,bcn (fun e5=>err 22 ((own (X:=True) (.inr e4)).1 e5) (by decide)) (fun e5=>body (by omega) ((own (X:=True) (.inr e4)).2 e5))⟩⟩
   · refine ⟨trivial,_,_,_,rfl,_,a_e hI.row,d0,rfl,_,_,_,rfl,_,p1,s,rfl,hI.at.own.load (a_c (a_l ho).2.2) c_int (Int.toNat_of_nonneg e.1).symm ⟨o,rfl,bcn (fun e5=>err 22 ((own (X:=True) (.inl e3)).1 e5) (by decide)) (fun e5=>body (by omega) ((own (X:=True) (.inl e3)).2 e5))⟩⟩
theorem a_cx (now r:Int) :DCalls prog l_g [cfA c0 c1 c2 c3 c4 c,coA k0 k1 k2 k3 k4 k5 k.Dirty,iA now,iA r] σ (CoPost σ (k.cancelC c now r)):=
 a_es _ _ _ _ _ _ _ _ _ k0 k1 k2 k3 k4 k5 k.Dirty now r σ _ (a_d fun i1 s1 _ _ e1 q1=>
   (m_r hc (h.ext' e1) hf r 4 now (fr:= [1,2,3]) (At.fresh q1 (by simp) rfl)).mono fun q s5 hp=>hp.pass (hp.from e1))
theorem a_ai (now r:Int) :DCalls prog j_q [cfA c0 c1 c2 c3 c4 c,coA k0 k1 k2 k3 k4 k5 k.Dirty,iA now,iA r] σ (CoPost σ (k.releaseC c now r)):=
 a_dq _ _ _ _ _ _ _ _ _ k0 k1 k2 k3 k4 k5 k.Dirty now r σ _ (a_d fun i1 s1 _ _ e1 q1=>
   (m_r hc (h.ext' e1) hf r 4 now (fr:= [5]) (At.fresh q1 (by simp) rfl)).mono fun q s5 hp=>hp.pass (hp.from e1))
theorem a_bi (r:Int) :DCalls prog j_f [cfA c0 c1 c2 c3 c4 c,coA k0 k1 k2 k3 k4 k5 k.Dirty,iA r] σ (CoPost σ (k.restoreC c r)):=
 a_d2 _ _ _ _ _ _ _ _ _ k0 k1 k2 k3 k4 k5 k.Dirty r σ _ (a_d fun i1 s1 _ _ e1 q1=>
   (m_r hc (h.ext' e1) hf r 1 0 (fr:= [3]) (At.fresh q1 (by simp) rfl)).mono fun q s5 hp=>hp.pass (hp.from e1))
end
end
section
theorem a_t5 {row:List D}{n:Nat}(h:tyD prog n m_f row) :∃r:Rt,((∀s,RtAt prog d_0 a_4 a_i s row r)∧RtI r)∧row[4]?≠some .zsl:=by
 obtain ⟨_,_,rfl,⟨a,rfl,ha⟩,_,_,rfl,⟨b,rfl,hb⟩,d1,_,rfl,h1,d2,_,rfl,h2,d3,_,rfl,h3,_,_,rfl,⟨sh,rfl⟩,rfl⟩:=r_s n 5 _ _ [.int .i64, .int .i64, .sl d_0, .sl a_4, .sl a_i, .bool] h (by kernel_rfl)
 obtain ⟨l1,a1,b1,_,e1⟩:=h_x (bytes:=24) St.enc _ (fun row n h=>a_xh h) (by kernel_rfl) (by omega) h1
 obtain ⟨l2,a2,b2,_,e2⟩:=h_x (bytes:=16) Nd.enc _ (fun row n h=>a_xw h) (by kernel_rfl) (by omega) h2
 obtain ⟨l3,a3,b3,z3,e3⟩:=h_x (bytes:=8) Go.Fw.encI _ (fun row n h=>ty_i h) (by kernel_rfl) (by omega) h3
 exact ⟨⟨a,b,l1,l2,l3,sh⟩,⟨fun s=>⟨d1,d2,d3,rfl,a1 s,a2 s,a3 s⟩,f_g ha,f_g hb,b1,b2,b3,e1,e2,e3⟩,fun e=>z3 (by injection e)⟩
theorem a_sg {cs:List D}{n:Nat}(h:tyD prog n t_Config cs) :∃c0 c1 c2 c3 c4 c,cs=[c0,c1,c2,c3,c4,iD c.Age,iD c.Brake,iD c.Hold,iD c.Budget]∧(∀s,CfAt s c0 c1 c2 c3 c4 c)∧CfI c∧u_4 c4:=by
 obtain ⟨c0,_,rfl,h0,c1,_,rfl,h1,c2,_,rfl,h2,c3,_,rfl,h3,c4,_,rfl,h4,_,_,rfl,⟨a,rfl,ha⟩,_,_,rfl,⟨b,rfl,hb⟩,_,_,rfl,⟨ho,rfl,hho⟩,_,_,rfl,⟨bu,rfl,hbu⟩,rfl⟩:=
   r_s n 5 _ _ [.sl i_i, .sl j_7, .sl e_6, .sl a_i, .sl m_f, .int .i64, .int .i64, .int .i64, .int .i64] h (by kernel_rfl)
 obtain ⟨l0,a0,b0,_,e0⟩:=h_x (bytes:=24) Sec.enc _ (fun row n h=>a_rq h) (by kernel_rfl) (by omega) h0
 obtain ⟨l1,a1,b1,_,e1⟩:=h_x (bytes:=32) Jt.enc _ (fun row n h=>a_vd h) (by kernel_rfl) (by omega) h1
 obtain ⟨l2,a2,b2,_,e2⟩:=h_x (bytes:=16) Sg.enc _ (fun row n h=>a_uj h) (by kernel_rfl) (by omega) h2
 obtain ⟨l3,a3,b3,_,e3⟩:=h_x (bytes:=8) Go.Fw.encI _ (fun row n h=>ty_i h) (by kernel_rfl) (by omega) h3
 obtain ⟨rows,l4,a4,q4,b4,_,e4⟩:=a_v4 (bytes:=96) (fun row r=>((∀s,RtAt prog d_0 a_4 a_i s row r)∧RtI r)∧row[4]?≠some .zsl) (fun row n h=>a_t5 h) (by kernel_rfl) (by omega) h4
 refine ⟨c0,c1,c2,c3,c4,⟨l0,l1,l2,l3,l4,a,b,ho,bu⟩,rfl,fun s=>⟨a0 s,a1 s,a2 s,a3 s,rows,a4 s,q4,fun i row r x y=>(b4 i row r x y).1.1 s⟩,⟨b0,b1,b2,b3,?_,f_g ha,f_g hb,f_g hho,f_g hbu,e0,e1,e2,e3,e4⟩,?_⟩
 · intro r hr
   obtain ⟨i,hi⟩:=List.mem_iff_getElem?.1 hr
   have hi:l4[i]? =some r:=hi
   have hlt:=(List.getElem?_eq_some_iff.1 hi).1
   obtain ⟨row,hrow⟩:=a_g (l:=rows) (j:=i) (by omega)
   exact (b4 i row r hrow hi).1.2
 · have hr:=(a4 noS).rows
   cases c4 <;> first | trivial | skip
   obtain ⟨rfl,_⟩:=hr
   intro row hrow
   obtain ⟨i,hi⟩:=List.mem_iff_getElem?.1 hrow
   have hlt:=(List.getElem?_eq_some_iff.1 hi).1
   obtain ⟨r,hr⟩:=a_g (l:=l4) (j:=i) (by omega)
   exact (b4 i row r hi hr).2
end
end Go.Proofs.YtdmfnhbmhkgemaaGreat
namespace Go.Fw
section
theorem a_u5 {c:Cf}{k:Co}(hf:FitIs c k)(now:Int){r:Int}{y:Rt}(hy:a_k c.Rts r=some y){v:Int}(hv:v ∈ c.lockL r) :a_k (k.lockC c now r).Own v=some (r+1):=by
 have hr:=a_7 hf.chk (d_3 hy)
 have hll:c.lockL r=Cf.lockR y:=by unfold Cf.lockL;rw[hy]
 have hsec:∀s ∈ c.lockL r,∃z,a_k c.Secs s=some z:=fun s hs=>a_a4 hr (by rw[←hll];exact hs)
 obtain ⟨z,hz⟩:=hsec v hv
 have hgz:=a_l hz
 have hzl:=(List.getElem?_eq_some_iff.1 hgz.2.2).1
 unfold a_k
 rw[if_neg (by omega)]
 show ((c.lockL r).foldl (fun w s=>w.set s.toNat (r+1)) k.Own)[v.toNat]? =_
 rw[a_ey (c.lockL r) k.Own (fun x hx=>by obtain ⟨z,hz⟩:=hsec x hx;exact (a_l hz).1) (by have:=hf.lOwn;omega),if_pos (by rw[Int.toNat_of_nonneg hgz.1];exact hv)]
theorem q_4 {c:Cf}{k:Co}(h:k.fits c=true) :k.Own.length≤16∧k.Routes.length≤12∧k.Points.length≤16∧k.Xs.length≤4∧k.Lines.length=4∧k.Resets.length≤16:=by
 have hf:=fits_iff.1 h
 have hs:=a_y hf.chk
 have:=hf.lOwn;have:=hf.lRts;have:=hf.lPts;have:=hf.lXs;have:=hf.lLn;have:=hf.lRes
 omega
end
section
def zLk:Lk:=⟨0,0,false⟩
def lkG (l:List Lk)(s:Int) :Lk:=(a_k l s).getD zLk
def mvG (l:List Mv)(s:Int) :Mv:=(a_k l s).getD ⟨0,0⟩
def lnG (l:List Ls)(s:Int) :Ls:=(a_k l s).getD zLs
def rsG (l:List Rs)(s:Int) :Rs:=(a_k l s).getD ⟨0,0,0,0⟩
def h_d (l:List Int)(s:Int) :Int:=(a_k l s).getD 0
def Lk.clear (l:Lk) :Bool:=l.Valid && decide (l.Value=0)
def clr (o:List Lk)(l:List Int) :Bool:=l.all fun s=>(lkG o s).clear
def bnd (n:Int) :Int:=min (max n (-1)) 4611686018427387904
def a_j7 (m:Mv)(l:Lk)(age:Int) :Bool:=decide (l.Valid=true∧m.Cmd≠0∧m.Cmd=l.Value∧bnd l.Stamp - bnd m.Other > bnd age)
def Cf.pathS (c:Cf)(r:Int) :List Int:=(c.rt r).Path.map St.Sec
def Cf.lineR (c:Cf)(r:Int) :Int:=b_b c (c.rt r).Path
def m_5 (c:Cf)(k:Co)(v:Vw)(n:Nd) :Bool:=decide ((mvG k.Points n.Sec).Cmd=n.Pos) && a_j7 (mvG k.Points n.Sec) (lkG v.Pos n.Sec) c.Age
def j_1 (c:Cf)(k:Co)(v:Vw)(i:Int) :Bool:=a_j7 (mvG k.Xs i) (lkG v.Shut i) c.Age
def Co.ownS (c:Cf)(k:Co)(r:Int) :List Int:=(c.rt r).Overlap.filter fun s=>decide (h_d k.Own s=r+1)
def a_ra (c:Cf)(k:Co)(v:Vw)(r:Int) :Bool:=
 (lkG v.Lamp (c.rt r).Entry).Valid && (decide ((lkG v.Lamp (c.rt r).Entry).Value=1) && (decide (c.lineR r=0) || decide ((lnG k.Lines (c.lineR r)).PGrant=(lnG k.Lines (c.lineR r)).Ask)))
def Co.ready (c:Cf)(k:Co)(v:Vw)(r:Int) :Bool:=
 clr v.Occ (c.pathS r) && (clr v.Occ (k.ownS c r) && ((c.Needs r).all (m_5 c k v) && ((c.Cross r).all (j_1 c k v) && a_ra c k v r)))
def Co.setR (k:Co)(r:Int)(x:Rs) :Co:= { k with Routes:=k.Routes.set r.toNat x }
def d_i (o:Int)(l:List Int) :List Int:=l.map fun z=>if z=o then 0 else z
def l_7 (n:Int)(w:List Ls) :List Ls:=if n > 0 then w.set n.toNat { lnG w n with Done:=(lnG w n).Ask } else w
def Co.endR (c:Cf)(k:Co)(r:Int) :Co:= { k with Own:=d_i (r+1) k.Own,Lines:=l_7 (c.lineR r) k.Lines,Routes:=k.Routes.set r.toNat ⟨0,0,0,0⟩,Dirty:=true }
def Co.goOn (c:Cf)(k:Co)(v:Vw)(now r:Int) :Co:=
 match a_k (c.pathS r) (rsG k.Routes r).Next with
 | none=>k
 | some s=>
   if h_d k.Own s≠r+1 then k.setR r { rsG k.Routes r with Next:=(rsG k.Routes r).Next+1 }
   else if (lkG v.Occ s).clear=true∧(lkG v.Occ s).Stamp > (rsG k.Routes r).Since+c.Hold∧(lkG v.Occ s).Stamp > (rsG k.Routes r).Mark then
     { k with Own:=k.Own.set s.toNat 0,Dirty:=true,Routes:=k.Routes.set r.toNat { rsG k.Routes r with Next:=(rsG k.Routes r).Next+1,Mark:=now } }
   else k
def Co.endingR (c:Cf)(k:Co)(v:Vw)(now r:Int) :Co:=
 if now < (rsG k.Routes r).Since+c.Hold then k
 else if (rsG (k.goOn c v now r).Routes r).Next=(c.pathS r).length then (k.goOn c v now r).endR c r else k.goOn c v now r
def Co.routeR (c:Cf)(v:Vw)(now:Int)(d:Bool)(k:Co)(r:Int) :Co:=
 if ((rsG k.Routes r).State=2∨(rsG k.Routes r).State=3)∧clr v.Occ (c.pathS r) =false then k.setR r { rsG k.Routes r with State:=4,Since:=now,Mark:=0 }
 else if (rsG k.Routes r).State=2∧k.ready c v r=false then k.setR r { rsG k.Routes r with State:=3 }
 else if (rsG k.Routes r).State=1∧d=false∧k.ready c v r=true then k.setR r { rsG k.Routes r with State:=2 }
 else if (rsG k.Routes r).State=4 then k.endingR c v now r
 else k
def routesR (c:Cf)(v:Vw)(now:Int)(d:Bool)(k:Co) :Nat→Co
 | 0=>k
 | n+1=>(routesR c v now d k n).routeR c v now d n
def xsN (c:Cf)(own:List Int)(now:Int)(w:List Mv) :Nat→List Mv
 | 0=>w
 | n+1=>match c.Xs[n]? with
   | none=>xsN c own now w n
   | some s=>(xsN c own now w n).set n (g_o (mvG (xsN c own now w n) n) now (if h_d own s=0 then 2 else 1))
def Co.rstOne (v:Vw)(k:Co)(s:Int) :Co:=
 if h_d k.Resets s≤0 then k else if h_d k.Own s≠-1 then { k with Resets:=k.Resets.set s.toNat 0 }
 else if (lkG v.Occ s).clear=true∧(lkG v.Occ s).Stamp≥h_d k.Resets s then { k with Own:=k.Own.set s.toNat 0,Dirty:=true,Resets:=k.Resets.set s.toNat 0 } else k
def rstN (v:Vw)(k:Co) :Nat→Co
 | 0=>k
 | n+1=>(rstN v k n).rstOne v n
def i_k (c:Cf)(rs:List Rs) :Nat→List Int
 | 0=>List.replicate c.Sigs.length 0
 | n+1=>if (rsG rs n).State=2 then (i_k c rs n).set (c.rt n).Entry.toNat (max (h_d (i_k c rs n) (c.rt n).Entry) (if (c.rt n).Shunt=true then 1 else 2)) else i_k c rs n
def Co.stepR (c:Cf)(k:Co)(v:Vw)(now:Int) :Co:=routesR c v now k.Dirty k c.Rts.length
def Co.stepX (c:Cf)(k:Co)(v:Vw)(now:Int) :Co:= { k.stepR c v now with Xs:=xsN c (k.stepR c v now).Own now (k.stepR c v now).Xs c.Xs.length }
def Co.stepY (c:Cf)(k:Co)(v:Vw)(now:Int) :Co:=rstN v (k.stepX c v now) (k.stepX c v now).Resets.length
def Co.stepK (c:Cf)(k:Co)(v:Vw)(now:Int) :Co × List Int × Int:=
 if k.fits c=false∨v.fits c=false then (k,[],21) else if tm 0 now=false then (k,[],32)
 else (k.stepY c v now,i_k c (k.stepY c v now).Routes c.Rts.length,0)
/-! facts -/
theorem n_3 {α:Type}{l:List α}{s t:Int}{x:α}(hs:0≤s) :a_k (l.set s.toNat x) t=if t=s∧s < l.length then some x else a_k l t:=by
 unfold a_k
 by_cases ht:t < 0
 · rw[if_pos ht,if_pos ht,if_neg (by omega)]
 · rw[if_neg ht,if_neg ht,List.getElem?_set]
   by_cases e:t=s
   · subst e
     rw[if_pos rfl]
     by_cases hl:t < l.length
     · rw[if_pos (by omega),if_pos ⟨rfl,hl⟩]
     · rw[if_neg (by omega),if_neg (by omega),List.getElem?_eq_none (by omega)]
   · rw[if_neg (by omega),if_neg (by omega)]
theorem f_o {α:Type}{l:List α}{s t:Int}{x:α}(hs:0≤s)(h:t≠s) :a_k (l.set s.toNat x) t=a_k l t:=by rw[n_3 hs,if_neg (by omega)]
theorem r_1 {α:Type}{l:List α}{s:Int}{x:α}(hs:0≤s)(h:s < l.length) :a_k (l.set s.toNat x) s=some x:=by rw[n_3 hs,if_pos ⟨rfl,h⟩]
theorem a_gt {α β:Type}{l:List α}{t:Int}{f:α→β} :a_k (l.map f) t=(a_k l t).map f:=by
 unfold a_k;split
 · rfl
 · rw[List.getElem?_map]
structure Turn (c:Cf) (v:Vw) (now:Int) (d:Bool) (k k':Co) (r:Int) :Prop where
 pts:k'.Points=k.Points
 xs:k'.Xs=k.Xs
 res:k'.Resets=k.Resets
 lOwn:k'.Own.length=k.Own.length
 lRts:k'.Routes.length=k.Routes.length
 rts:∀j,j≠r→rsG k'.Routes j=rsG k.Routes j
 own:∀s,a_k k'.Own s=a_k k.Own s∨(a_k k.Own s=some (r+1)∧a_k k'.Own s=some 0∧k'.Dirty=true∧(rsG k.Routes r).State=4∧(rsG k.Routes r).Since+c.Hold≤now∧
   ((rsG k'.Routes r).State=0∨(a_k (c.pathS r) (rsG k.Routes r).Next=some s∧(lkG v.Occ s).clear=true∧(lkG v.Occ s).Stamp > (rsG k.Routes r).Since+c.Hold)))
 ln:∀l,(lnG k'.Lines l).PGrant=(lnG k.Lines l).PGrant∧(lnG k'.Lines l).Ask=(lnG k.Lines l).Ask
 dirty:k.Dirty=true→k'.Dirty=true
 opn:(rsG k'.Routes r).State=2→((rsG k.Routes r).State=2∨((rsG k.Routes r).State=1∧d=false))∧k.ready c v r=true
structure Turns (c:Cf) (v:Vw) (now:Int) (d:Bool) (k k':Co) (n:Nat) :Prop where
 pts:k'.Points=k.Points
 xs:k'.Xs=k.Xs
 res:k'.Resets=k.Resets
 lOwn:k'.Own.length=k.Own.length
 lRts:k'.Routes.length=k.Routes.length
 rts:∀j:Int,(n:Int)≤j→rsG k'.Routes j=rsG k.Routes j
 own:∀s,a_k k'.Own s=a_k k.Own s∨∃r:Int,0≤r∧r < n∧a_k k.Own s=some (r+1)∧a_k k'.Own s=some 0∧k'.Dirty=true∧(rsG k.Routes r).State=4∧(rsG k.Routes r).Since+c.Hold≤now∧
   ((rsG k'.Routes r).State=0∨(a_k (c.pathS r) (rsG k.Routes r).Next=some s∧(lkG v.Occ s).clear=true∧(lkG v.Occ s).Stamp > (rsG k.Routes r).Since+c.Hold))
 ln:∀l,(lnG k'.Lines l).PGrant=(lnG k.Lines l).PGrant∧(lnG k'.Lines l).Ask=(lnG k.Lines l).Ask
 dirty:k.Dirty=true→k'.Dirty=true
 opn:∀r:Int,0≤r→r < n→(rsG k'.Routes r).State=2→((rsG k.Routes r).State=2∨((rsG k.Routes r).State=1∧d=false))∧k.ready c v r=true
end
section
theorem s_t {l:List Rs}{r:Int}(hr:0≤r)(hl:r < l.length) :l[r.toNat]? =some (rsG l r):=by
 unfold rsG a_k;rw[if_neg (by omega),List.getElem?_eq_getElem (show r.toNat < l.length by omega)];rfl
theorem a_v1 {c:Cf}{r:Int}{q:Rt}(hr:0≤r)(h:c.Rts[r.toNat]? =some q) :c.rt r=q:=by
 unfold Cf.rt a_k;rw[if_neg (by omega),h];rfl
theorem FitIs.rs {c:Cf}{k:Co}{r:Int}{x:Rs}(h:FitIs c k)(hr:0≤r)(hx:∀q,c.Rts[r.toNat]? =some q→Rs.fits (rsG k.Routes r,q) =true→Rs.fits (x,q) =true) :
   ∀(i:Nat) z q,(k.Routes.set r.toNat x)[i]? =some z→c.Rts[i]? =some q→Rs.fits (z,q) =true:=by
 intro i z q hz hq
 rw[List.getElem?_set] at hz
 split at hz
 · rename_i e
   split at hz
   · rename_i hl
     cases hz
     subst e
     exact hx q hq (h.rts r.toNat _ q (s_t hr (by omega)) hq)
   · cases hz
 · exact h.rts i z q hz hq
theorem s_z {c:Cf}{k:Co}{r:Int}{x:Rs}(h:FitIs c k)(hr:0≤r)(hx:∀q,c.Rts[r.toNat]? =some q→Rs.fits (rsG k.Routes r,q) =true→Rs.fits (x,q) =true) :FitIs c (k.setR r x):=
 ⟨h.chk,h.lOwn,h.lPts,h.lRes,by simp only[Co.setR,List.length_set];exact h.lRts,h.lXs,h.lLn,h.own,h.rs hr hx,h.pts,h.xs,h.lns,h.res⟩
theorem a_s3 {c:Cf}{k:Co}(h:FitIs c k)(s:Nat) :∀o ∈ k.Own.set s 0,-2≤o∧o≤c.Rts.length:=fun o ho=>by
 rcases List.mem_or_eq_of_mem_set ho with ho | rfl
 · exact h.own o ho
 · omega
theorem s_2 {c:Cf}{k:Co}{v:Vw}{now r:Int}(h:FitIs c k)(hn:tm 0 now=true)(hr:0≤r) :FitIs c (k.goOn c v now r):=by
 unfold Co.goOn
 split
 · exact h
 rename_i s hs
 have hnext:∀q,c.Rts[r.toNat]? =some q→0≤(rsG k.Routes r).Next∧(rsG k.Routes r).Next < q.Path.length:=fun q hq=>by
   have h2:=a_l hs
   rw[Cf.pathS,a_v1 hr hq,List.length_map] at h2
   exact ⟨h2.1,h2.2.1⟩
 split
 · refine s_z h hr fun q hq hf=>?_
   have:=hnext q hq
   simp only[Rs.fits,tm,Bool.and_eq_true,decide_eq_true_eq] at hf ⊢;omega
 split
 · refine ⟨h.chk,by simp only[List.length_set];exact h.lOwn,h.lPts,h.lRes,by simp only[List.length_set];exact h.lRts,h.lXs,h.lLn,a_s3 h _,h.rs hr fun q hq hf=>?_,h.pts,h.xs,h.lns,h.res⟩
   have:=hnext q hq
   simp only[Rs.fits,tm,Bool.and_eq_true,decide_eq_true_eq] at hf hn ⊢;omega
 · exact h
theorem a_kl {c:Cf}{k:Co}{r:Int}(h:FitIs c k)(hr:0≤r) :FitIs c (k.endR c r):=by
 refine ⟨h.chk,by simp only[Co.endR,d_i,List.length_map];exact h.lOwn,h.lPts,h.lRes,by simp only[Co.endR,List.length_set];exact h.lRts,h.lXs,by simp only[Co.endR,l_7];split <;> simp[h.lLn],fun o ho=>?_,h.rs hr fun q hq hf=>?_,h.pts,h.xs,fun l hl=>?_,h.res⟩
 · obtain ⟨z,hz,rfl⟩:=List.mem_map.1 ho
   have:=h.own z hz
   split <;> omega
 · simp only[Rs.fits,tm,Bool.and_eq_true,decide_eq_true_eq] at hf ⊢;omega
 · simp only[Co.endR,l_7] at hl
   split at hl
   · rcases List.mem_or_eq_of_mem_set hl with hl | rfl
     · exact h.lns l hl
     · have h6:=v_u (i:=c.lineR r) (p:=fun l=>Ls.fits l=true) (z:=zLs) rfl h.lns
       simp only[lnG]
       simp only[Ls.fits,tm,Bool.and_eq_true,decide_eq_true_eq] at h6 ⊢
       omega
   · exact h.lns l hl
theorem a_cm {c:Cf}{k:Co}{v:Vw}{now r:Int}{d:Bool}(h:FitIs c k)(hn:tm 0 now=true)(hr:0≤r) :FitIs c (k.routeR c v now d r):=by
 have hn':=hn
 simp only[tm,decide_eq_true_eq] at hn'
 unfold Co.routeR
 split
 · refine s_z h hr fun q hq hf=>?_
   simp only[Rs.fits,tm,Bool.and_eq_true,decide_eq_true_eq] at hf ⊢;omega
 split
 · refine s_z h hr fun q hq hf=>?_
   simp only[Rs.fits,tm,Bool.and_eq_true,decide_eq_true_eq] at hf ⊢;omega
 split
 · refine s_z h hr fun q hq hf=>?_
   simp only[Rs.fits,tm,Bool.and_eq_true,decide_eq_true_eq] at hf ⊢;omega
 split
 · unfold Co.endingR
   split
   · exact h
   split
   · exact a_kl (s_2 h hn hr) hr
   · exact s_2 h hn hr
 · exact h
theorem j_w {c:Cf}{k:Co}{v:Vw}{now:Int}{d:Bool}(h:FitIs c k)(hn:tm 0 now=true) :∀n,FitIs c (routesR c v now d k n)
 | 0=>h
 | n+1=>a_cm (j_w h hn n) hn (by omega)
theorem x_w {c:Cf}{own:List Int}{now:Int}{w:List Mv} :∀n,(xsN c own now w n).length=w.length
 | 0=>rfl
 | n+1=>by rw[xsN];split <;> simp[x_w n]
theorem y_0 {c:Cf}{own:List Int}{now:Int}{w:List Mv}(hn:tm 0 now=true)(h:∀m ∈ w,Mv.fits m=true) :∀n,∀m ∈ xsN c own now w n,Mv.fits m=true
 | 0=>h
 | n+1=>fun m hm=>by
   rw[xsN] at hm
   split at hm
   · exact y_0 hn h n m hm
   · rcases List.mem_or_eq_of_mem_set hm with hm | rfl
     · exact y_0 hn h n m hm
     · exact z_a (v_u (p:=fun m=>Mv.fits m=true) rfl (y_0 hn h n)) hn (by split <;> omega)
theorem z_j (m:Mv)(now p:Int) :(g_o m now p).Cmd=p:=by
 rw[g_o]
 split
 · rfl
 · rename_i h;exact Decidable.not_not.1 h
theorem a_sy {c:Cf}{own:List Int}{now:Int}{w:List Mv}(hl:w.length=c.Xs.length) :∀(n:Nat),n≤w.length→∀(i:Nat) s m,i < n→c.Xs[i]? =some s→(xsN c own now w n)[i]? =some m→m.Cmd=if h_d own s=0 then 2 else 1
 | 0,_,i,s,m,h,_,_=>by omega
 | n+1,hn,i,s,m,hi,hs,hm=>by
   rw[xsN] at hm
   obtain ⟨s',hs'⟩:=a_g (l:=c.Xs) (j:=n) (by omega)
   rw[hs'] at hm
   simp only at hm
   rw[List.getElem?_set] at hm
   by_cases e:i=n
   · subst e
     rw[if_pos rfl,if_pos (by rw[x_w];omega)] at hm
     rw[hs] at hs';cases hs'
     injection hm with hm;subst hm
     exact z_j _ _ _
   · rw[if_neg (by omega)] at hm
     exact a_sy hl n (by omega) i s m (by omega) hs hm
structure Rst (v:Vw) (k k':Co) (n:Nat) :Prop where
 pts:k'.Points=k.Points
 xs:k'.Xs=k.Xs
 ln:k'.Lines=k.Lines
 rts:k'.Routes=k.Routes
 lOwn:k'.Own.length=k.Own.length
 lRes:k'.Resets.length=k.Resets.length
 res:∀j:Int,(n:Int)≤j→a_k k'.Resets j=a_k k.Resets j
 ownL:∀j:Int,(n:Int)≤j→a_k k'.Own j=a_k k.Own j
 own:∀s,a_k k'.Own s=a_k k.Own s∨(a_k k.Own s=some (-1)∧a_k k'.Own s=some 0∧k'.Dirty=true∧0 < h_d k.Resets s∧(lkG v.Occ s).clear=true∧h_d k.Resets s≤(lkG v.Occ s).Stamp)
 dirty:k.Dirty=true→k'.Dirty=true
theorem a_of {v:Vw}{k:Co} :∀n,Rst v k (rstN v k n) n
 | 0=>⟨rfl,rfl,rfl,rfl,rfl,rfl,fun _ _=>rfl,fun _ _=>rfl,fun _=> .inl rfl,id⟩
 | n+1=>by
   have ih:=a_of (v:=v) (k:=k) n
   rw[rstN]
   generalize rstN v k n=k1 at *
   have hz:h_d k1.Resets (n:Int) =h_d k.Resets n:=by unfold h_d;rw[ih.res _ (by omega)]
   have ho:a_k k1.Own (n:Int) =a_k k.Own n:=ih.ownL _ (by omega)
   unfold Co.rstOne
   split
   · exact ⟨ih.pts,ih.xs,ih.ln,ih.rts,ih.lOwn,ih.lRes,fun j hj=>ih.res j (by omega),fun j hj=>ih.ownL j (by omega),ih.own,ih.dirty⟩
   split
   · exact ⟨ih.pts,ih.xs,ih.ln,ih.rts,ih.lOwn,by simp only[List.length_set];exact ih.lRes,fun j hj=>(f_o (by omega) (by omega)).trans (ih.res j (by omega)),fun j hj=>ih.ownL j (by omega),ih.own,ih.dirty⟩
   rename_i h1 h2
   split
   · rename_i h3
     refine ⟨ih.pts,ih.xs,ih.ln,ih.rts,by simp only[List.length_set];exact ih.lOwn,by simp only[List.length_set];exact ih.lRes,fun j hj=>(f_o (by omega) (by omega)).trans (ih.res j (by omega)),fun j hj=>(f_o (by omega) (by omega)).trans (ih.ownL j (by omega)),fun s=>?_,fun _=>rfl⟩
     have h2:h_d k1.Own (n:Int) = -1:=Decidable.not_not.1 h2
     by_cases e:s=n
     · subst e
       have hg:a_k k1.Own (n:Int) =some (-1):=by
         unfold h_d at h2
         cases hgs:a_k k1.Own (n:Int) with
         | none=>rw[hgs] at h2;simp at h2
         | some z=>rw[hgs] at h2;simp at h2;rw[h2]
       obtain ⟨g1,g2,_⟩:=a_l hg
       rw[hz] at h1 h3
       exact .inr ⟨ho ▸ hg,r_1 g1 g2,rfl,by omega,h3.1,h3.2⟩
     · rcases ih.own s with e' | ⟨a1,a2,a3,a4⟩
       · exact .inl ((f_o (by omega) e).trans e')
       · exact .inr ⟨a1,(f_o (by omega) e).trans a2,rfl,a4⟩
   · exact ⟨ih.pts,ih.xs,ih.ln,ih.rts,ih.lOwn,ih.lRes,fun j hj=>ih.res j (by omega),fun j hj=>ih.ownL j (by omega),ih.own,ih.dirty⟩
theorem a_ca {c:Cf}{v:Vw}{k:Co}{s:Int}(h:FitIs c k) :FitIs c (k.rstOne v s):=by
 have hz:∀z ∈ k.Resets.set s.toNat 0,tm 1 z=true:=fun z hz=>by
   rcases List.mem_or_eq_of_mem_set hz with hz | rfl
   · exact h.res z hz
   · rfl
 unfold Co.rstOne
 split
 · exact h
 split
 · exact ⟨h.chk,h.lOwn,h.lPts,by simp only[List.length_set];exact h.lRes,h.lRts,h.lXs,h.lLn,h.own,h.rts,h.pts,h.xs,h.lns,hz⟩
 split
 · exact ⟨h.chk,by simp only[List.length_set];exact h.lOwn,h.lPts,by simp only[List.length_set];exact h.lRes,h.lRts,h.lXs,h.lLn,a_s3 h _,h.rts,h.pts,h.xs,h.lns,hz⟩
 · exact h
theorem a_k3 {c:Cf}{v:Vw}{k:Co}(h:FitIs c k) :∀n,FitIs c (rstN v k n)
 | 0=>h
 | n+1=>a_ca (a_k3 h n)
theorem w_e {c:Cf}{v:Vw}{k:Co}{now:Int}(h:FitIs c k)(hn:tm 0 now=true) :FitIs c (k.stepX c v now):=by
 have h1:=j_w (v:=v) (d:=k.Dirty) h hn c.Rts.length
 exact ⟨h1.chk,h1.lOwn,h1.lPts,h1.lRes,h1.lRts,by simp only[Co.stepX,x_w];exact h1.lXs,h1.lLn,h1.own,h1.rts,h1.pts,y_0 hn h1.xs _,h1.lns,h1.res⟩
theorem a_rl {c:Cf}{v:Vw}{k:Co}{now:Int}(h:FitIs c k)(hn:tm 0 now=true) :FitIs c (k.stepY c v now):=a_k3 (w_e h hn) _
/-! signals -/
theorem a_gk {c:Cf}{rs:List Rs} :∀n,(i_k c rs n).length=c.Sigs.length
 | 0=>by simp[i_k]
 | n+1=>by rw[i_k];split <;> simp[a_gk n]
/-! all seen at its worst -/
/-! no route is locked, no reset due -/
end
section
structure Going (c:Cf) (k:Co) (r:Int) (i:Nat) (m:Int) :Prop where
 fit:FitIs c k
 oth:∀j,j≠r→(rsG k.Routes j).State=0
 cur:rsG k.Routes r=⟨4,1,i,m⟩
 res:∀s,h_d k.Resets s=0
 own:∀s o,a_k k.Own s=some o→o=0∨o=r+1
 pth:∀(j:Nat) s,i≤j→(c.pathS r)[j]? =some s→h_d k.Own s=r+1
theorem FitIs.dirty {c:Cf}{k:Co}(h:FitIs c k)(b:Bool) :FitIs c { k with Dirty:=b } :=
 ⟨h.chk,h.lOwn,h.lPts,h.lRes,h.lRts,h.lXs,h.lLn,h.own,h.rts,h.pts,h.xs,h.lns,h.res⟩
theorem z_v {c:Cf}(hok:c.check=0){r:Int}{j:Nat}{s:Int}(h:(c.pathS r)[j]? =some s) :0≤s∧s < c.Secs.length:=by
 unfold Cf.pathS at h
 rw[List.getElem?_map] at h
 cases hp:(c.rt r).Path[j]? with
 | none=>rw[hp] at h;cases h
 | some st=>
   rw[hp] at h;cases h
   cases hg:a_k c.Rts r with
   | none=>rw[y_f hg] at hp;simp[zRt] at hp
   | some y=>
     rw[b_j hg] at hp
     obtain ⟨z,hz,_⟩:=((a_7 hok (d_3 hg)).step st (List.mem_of_getElem? hp)).1.sec
     have:=a_l hz
     omega
theorem a_q9 {c:Cf}(hok:c.check=0)(r:Int) :(c.pathS r).Nodup:=by
 unfold Cf.pathS
 cases hg:a_k c.Rts r with
 | none=>rw[y_f hg];simp[zRt]
 | some y=>rw[b_j hg];exact (a_7 hok (d_3 hg)).dup
end
end Go.Fw
namespace Go.Proofs.YtdmfnhbmhkgemaaGreat
open Go.Fw Go.Proofs Go.RowKit
open Go.Proofs.Tryz (prog)
section
variable {σ σ0:Store}
theorem a_yr (n:Int) :(if (4611686018427387904:Int) < (if (-1:Int) > n then (-1:Int) else n) then (4611686018427387904:Int) else (if (-1:Int) > n then (-1:Int) else n)) =bnd n:=by
 unfold bnd;split <;> split <;> omega
theorem a_so (n:Int) : -1≤bnd n∧bnd n≤4611686018427387904:=by unfold bnd;omega
theorem k_q (n:Int) :Pure prog g_l [iA n] σ (.a (iA (bnd n))):=
 a_j2 n σ _ ⟨congrArg (fun z=>RV.a (iA z)) (a_yr n),rfl⟩
theorem p_1 (m:Mv)(l:Lk)(age:Int) :Pure prog h_r [.agg m.enc, .agg l.enc,iA age] σ (.a (bA (a_j7 m l age))):=by
 have no:¬(l.Valid=true∧m.Cmd≠0∧m.Cmd=l.Value∧bnd l.Stamp - bnd m.Other > bnd age)→(RV.a (.one (.bool false)) = .a (bA (a_j7 m l age))∧σ=σ):=fun h=>by rw[a_j7,decide_eq_false h];exact ⟨rfl,rfl⟩
 refine a_fn m.Cmd m.Other l.Value l.Stamp l.Valid age σ _ (a_p (fun e=>no fun h=>by rw[e] at h;cases h.1) (fun e1=>bce (fun e=>no fun h=>h.2.1 e) (fun e2=>bcn (fun e=>no fun h=>e h.2.2.1.symm) (fun e3=>?_))))
 have b1:=a_so l.Stamp
 have b2:=a_so m.Other
 refine (k_q l.Stamp).use ⟨_,rfl,(k_q m.Other).use ⟨_,rfl,(k_q age).use ⟨_,rfl,?_,rfl⟩⟩⟩
 rw[a_w (by omega) (by omega),a_j7]
 congr 3
 exact decide_eq_decide.2 ⟨fun h=>⟨e1,e2,e3.symm,h⟩,fun h=>h.2.2.2⟩
theorem a_kk {l:List Lk}{s:Int}(h0:0≤s)(h1:s < l.length) :l[s.toNat]? =some (lkG l s):=by
 unfold lkG a_k;rw[if_neg (by omega),List.getElem?_eq_getElem (show s.toNat < l.length by omega)];rfl
theorem a_we {l:List Mv}{s:Int}(h0:0≤s)(h1:s < l.length) :l[s.toNat]? =some (mvG l s):=by
 unfold mvG a_k;rw[if_neg (by omega),List.getElem?_eq_getElem (show s.toNat < l.length by omega)];rfl
theorem a_x7 {l:List Ls}{s:Int}(h0:0≤s)(h1:s < l.length) :l[s.toNat]? =some (lnG l s):=by
 unfold lnG a_k;rw[if_neg (by omega),List.getElem?_eq_getElem (show s.toNat < l.length by omega)];rfl
theorem w_y {l:List Int}{s:Int}(h0:0≤s)(h1:s < l.length) :l[s.toNat]? =some (h_d l s):=by
 unfold h_d a_k;rw[if_neg (by omega),List.getElem?_eq_getElem (show s.toNat < l.length by omega)];rfl
structure VwB (σ0:Store) (v0 v1 v2 v3:D) (v:Vw) :Prop where
 occ:∀s,Ext σ0 s→At prog s e_k v0 (v.Occ.map Lk.enc)
 pos:∀s,Ext σ0 s→At prog s e_k v1 (v.Pos.map Lk.enc)
 shut:∀s,Ext σ0 s→At prog s e_k v2 (v.Shut.map Lk.enc)
 lamp:∀s,Ext σ0 s→At prog s e_k v3 (v.Lamp.map Lk.enc)
theorem VwB.mono {s:Store}{v0 v1 v2 v3:D}{v:Vw}(h:VwB σ v0 v1 v2 v3 v)(he:Ext σ s) :VwB s v0 v1 v2 v3 v:=
 ⟨fun s' h'=>h.occ s' (he.trans h'),fun s' h'=>h.pos s' (he.trans h'),fun s' h'=>h.shut s' (he.trans h'),fun s' h'=>h.lamp s' (he.trans h')⟩
theorem VwAt.b {v0 v1 v2 v3:D}{v:Vw}(h:VwAt v0 v1 v2 v3 v) :VwB σ v0 v1 v2 v3 v:=⟨fun s _=>h.occ s,fun s _=>h.pos s,fun s _=>h.shut s,fun s _=>h.lamp s⟩
theorem h_5 {id:Nat}{t:TypeId}{v0 v1 v2 v3:D}{rest:List D}{v:Vw}(hrow:σ id= .live t [v0::rest])(hv:VwB σ v0 v1 v2 v3 v){sd:D}{l:List Int}(hs:At prog σ a_i sd (l.map Go.Fw.encI))(hin:∀s ∈ l,0≤s∧s < v.Occ.length) :
   Pure prog c_h [.one (.el (.osl id 0 1) 0 0), .one sd] σ (.a (bA (clr v.Occ l))):=by
 have hz:=hs.size
 rw[List.length_map] at hz
 refine x_a _ sd σ _ (hs.lenK ⟨fun n s=>s=σ∧Rng l (fun q=>clr v.Occ q=clr v.Occ l) n,fun n _=>l.length - n.toNat,⟨rfl, .start rfl⟩,?_⟩)
 rintro n s ⟨rfl,hr⟩
 refine bcd (fun hlt=>?_) (fun hge=>?_)
 · obtain ⟨j,x,rfl,hx,hj,hF,nx⟩:=hr.step (by rw[List.length_map]) hz hlt
   obtain ⟨g0,g1⟩:=hin x (List.mem_of_getElem? hx)
   have hF:((lkG v.Occ x).clear && clr v.Occ (l.drop (j+1))) =clr v.Occ l:=hF
   have no:(lkG v.Occ x).clear=false→(RV.a (.one (.bool false)) = .a (bA (clr v.Occ l))∧s=s):=fun e=>by rw[←hF,e];exact ⟨rfl,rfl⟩
   refine hs.load (a_c hx) c_int rfl ⟨x,rfl,trivial,_,_,_,rfl,_,a_e hrow,v0,rfl,(hv.occ s (.refl _)).load (a_c (a_kk g0 g1)) v_t (Int.toNat_of_nonneg g0).symm ⟨(lkG v.Occ x).Value,(lkG v.Occ x).Stamp,(lkG v.Occ x).Valid,rfl,a_p (fun e=>no (by rw[Lk.clear,e];rfl)) (fun e1=>bcn (fun e=>no (by rw[Lk.clear,decide_eq_false e,Bool.and_false])) (fun e2=>?_))⟩⟩
   have:(lkG v.Occ x).clear=true:=by rw[Lk.clear,e1,decide_eq_true e2];rfl
   rw[this,Bool.true_and] at hF
   exact c_6 rfl (nx (fun q=>clr v.Occ q=clr v.Occ l) hF)
 · have hF:=hr.done (by rw[List.length_map]) hge
   rw[←hF];exact ⟨rfl,rfl⟩
abbrev c_2 (v0 v1 v2 v3 c0 c1 c2 c3 c4:D)(c:Cf) :List D:= [v0,v1,v2,v3,c0,c1,c2,c3,c4,iD c.Age,iD c.Brake,iD c.Hold,iD c.Budget]
abbrev b_w (now:Int)(d:Bool)(pd:D) :List D:= [iD now, .bool d,pd]
def Paths (s:Store)(pd:D)(c:Cf) :Prop:=
 ∃rows,At prog s n_z pd rows∧∀(j:Nat) x,c.Rts[j]? =some x→∃qd,rows[j]? =some [qd]∧At prog s a_i qd ((x.Path.map St.Sec).map Go.Fw.encI)
theorem Paths.mono {s s':Store}{pd:D}{c:Cf}(h:Paths s pd c)(he:Ext s s') :Paths s' pd c:=by
 obtain ⟨rows,h1,h2⟩:=h
 exact ⟨rows,h1.ext he,fun j x hx=>by obtain ⟨qd,a,b⟩:=h2 j x hx;exact ⟨qd,a,b.ext he⟩⟩
theorem CoIn.mono {s s':Store}{id:Nat}{t:TypeId}{pre post:List D}{d0 d1 d2 d3 d4 d5:D}{k:Co}(h:CoIn σ0 s id t pre post d0 d1 d2 d3 d4 d5 k)(he:Ext s s') :CoIn σ0 s' id t pre post d0 d1 d2 d3 d4 d5 k:=
 ⟨h.new,a_1 h.row he,h.co.ext' he,h.ids⟩
theorem k_4 {c:Cf}{r:Int}{x:Rt}(h:a_k c.Rts r=some x) :c.pathS r=x.Path.map St.Sec:=by rw[Cf.pathS,b_j h]
section
variable {c0 c1 c2 c3 c4 v0 v1 v2 v3:D} {c:Cf} {v:Vw} (hc:∀s,CfAt s c0 c1 c2 c3 c4 c) (hv:VwB σ0 v0 v1 v2 v3 v) (hvf:v.fits c=true) {id:Nat} {d0 d1 d2 d3 d4 d5 pd:D} {k:Co} {now:Int} {dd:Bool} (hP:Paths σ0 pd c)
include hc hP
theorem u_u (hI:CoIn σ0 σ id a_n (c_2 v0 v1 v2 v3 c0 c1 c2 c3 c4 c) (b_w now dd pd) d0 d1 d2 d3 d4 d5 k)(hok:c.check=0)(hl4:k.Lines.length=4){r:Int}{x:Rt}(hx:a_k c.Rts r=some x) :
   Pure prog e_h [.one (.el (.osl id 0 1) 0 0),iA r] σ (.a (.one (if c.lineR r > 0 then .el d4 (c.lineR r).toNat 0 else .nilp))):=by
 have hr:=a_7 hok (d_3 hx)
 have hg:=a_l hx
 have w1:=hr.len
 obtain ⟨rows,hat,hrows⟩:=hP.mono hI.ext
 obtain ⟨qd,hrow,hq⟩:=hrows _ _ hg.2.2
 have hlr:c.lineR r=b_b c x.Path:=by rw[Cf.lineR,b_j hx]
 rw[hlr]
 refine u_e _ r σ _ ⟨trivial,_,_,_,rfl,_,a_e hI.row,pd,rfl,hat.load hrow r_u (Int.toNat_of_nonneg hg.1).symm ⟨qd,rfl,hq.lenK ⟨fun n s=>s=σ∧Rng x.Path (fun q=>b_b c q=b_b c x.Path) n,fun n _=>x.Path.length - n.toNat,⟨rfl, .start rfl⟩,?_⟩⟩⟩
 rintro n s ⟨rfl,hq'⟩
 rw[List.length_map,List.length_map]
 refine bcd (fun hlt=>?_) (fun hge=>?_)
 · obtain ⟨j,y,rfl,hy,hj,hF,nx⟩:=hq'.step rfl (by omega) hlt
   obtain ⟨z,hz,_⟩:=(hr.step y (List.mem_of_getElem? hy)).1.sec
   have hgz:=a_l hz
   rw[b_b,hz,Option.getD_some] at hF
   refine hq.load (a_c (a_c hy)) c_int rfl ⟨y.Sec,rfl,trivial,_,_,_,rfl,_,a_e hI.row,c0,rfl,(hc s).secs.load (a_c hgz.2.2) b_n (Int.toNat_of_nonneg hgz.1).symm ⟨z.Line,rfl,bcd (fun e=>?_) (fun e=>?_)⟩⟩
   · rw[if_pos e] at hF
     rw[←hF,if_pos e]
     have hz3:=k_f (h_j hok).1 hgz.2.2
     exact ⟨trivial,_,_,_,rfl,_,a_e hI.row,d4,rfl,hI.at.lines.idxK b_8 (Int.toNat_of_nonneg (by omega)).symm (by rw[List.length_map];omega) ⟨rfl,rfl⟩⟩
   · rw[if_neg e] at hF
     exact c_6 rfl (nx _ hF)
 · have hF:=hq'.done rfl hge
   rw[←hF];exact ⟨rfl,rfl⟩
omit hc hP in
theorem a_r4 (hI:CoIn σ0 σ id a_n (c_2 v0 v1 v2 v3 c0 c1 c2 c3 c4 c) (b_w now dd pd) d0 d1 d2 d3 d4 d5 k){i1 i2:Nat}{r:Int}{t1:TypeId}(h1:σ i1= .live t1 [[.el (.osl id 0 1) 0 0]])(h2:σ i2= .live a_i [[iD r]])(hr: -2 ^ 62≤r∧r≤2 ^ 62){s:Int}(hs:0≤s∧s < k.Own.length) :
   Pure prog e_y [iA s, .one (.el (.osl i1 0 1) 0 0), .one (.el (.osl i2 0 1) 0 0)] σ (.a (bA (!decide (h_d k.Own s=r+1)))):=by
 refine p_j s _ _ σ _ ⟨_,_,_,rfl,_,a_e h1,_,rfl,trivial,_,_,_,rfl,_,a_e hI.row,d0,rfl,hI.at.own.load (a_c (w_y hs.1 hs.2)) c_int (Int.toNat_of_nonneg hs.1).symm ⟨_,rfl,_,_,_,rfl,_,a_e h2,r,rfl,?_,rfl⟩⟩
 rw[a_w (n:=r+1) (by omega) (by omega)]
 by_cases e:h_d k.Own s=r+1
 · rw[decide_eq_true e];congr 3;simp[e]
 · rw[decide_eq_false e];congr 3;simpa using e
end
theorem a_aw {d f:D}{l:List Int}{p:Int→Bool}(h:At prog σ a_i d (l.map Go.Fw.encI))(hf:FnIs prog σ f (fun x:Int=>iA x) l p) :
   Pure prog e_z [.one d, .one f] σ (.a (iA (d_z p l 0))):=by
 have hl:=h.size
 rw[List.length_map] at hl
 obtain ⟨f1,a,b,as0',bs,rfl,ha,hb,hf⟩:=hf
 refine o_l d _ σ _ (h.lenK ⟨fun n s=>s=σ∧Rng l (fun r=>∀j:Nat,n=j→d_z p r j=d_z p l 0) n,fun n _=>l.length - n.toNat,⟨rfl, .start fun j hj=>by cases j with | zero=>rfl | succ j=>omega⟩,?_⟩)
 rintro n τ ⟨rfl,hr⟩
 refine bcd (fun hlt=>?_) (fun hge=>?_)
 · obtain ⟨j,x,rfl,hx,hj,hF,nx⟩:=hr.step (by simp) hl hlt
   refine h.load (a_c hx) c_int rfl ⟨x,rfl,f1,a,b,as0',bs,rfl,ha,hb,?_⟩
   have hF:=hF j rfl
   rw[d_z] at hF
   refine (hf x (List.mem_of_getElem? hx)).mono ?_
   rintro r s ⟨rfl,rfl⟩
   refine ⟨p x,rfl,bc (fun hp=>?_) (fun hp=>?_)⟩
   · rw[if_pos hp] at hF;exact ⟨by rw[←hF],rfl⟩
   · refine c_6 rfl (nx _ fun j' hj'=>?_)
     rw[a_m (by omega)] at hj'
     have:j'=j+1:=by omega
     subst this
     rw[if_neg (by rw[hp];simp)] at hF
     exact hF
 · have hF:=hr.done (by simp) hge
   obtain ⟨j,hn,_⟩:=hr
   rw[←hF j hn];exact ⟨rfl,rfl⟩
theorem z_d {d f:D}{l:List Int}{p:Int→Bool}(h:Own prog σ0 σ a_i d (l.map Go.Fw.encI))(h1:l.length≤1)(hf:FnIs prog σ f (fun x:Int=>iA x) l p) :
   DCalls prog e_p [.one d, .one f] σ fun r s=>∃d',r= .a (.one d')∧Own prog σ0 s a_i d' ((l.filter fun x=> !p x).map Go.Fw.encI):=by
 refine n_t d f σ _ ((a_aw h.at_ hf).use ⟨_,rfl,?_⟩)
 match l,h1,h with
 | [],_,h=>exact bce (fun _=>⟨d,rfl,h⟩) (fun e=>absurd rfl e)
 | [x],_,h=>
   cases hp:p x with
   | false=>
     have e:d_z p [x] 0= -1:=by simp[d_z,hp]
     rw[e]
     refine bce (fun _=>⟨d,rfl,?_⟩) (fun e=>absurd rfl e)
     simpa[hp] using h
   | true=>
     have e:d_z p [x] 0=0:=by simp[d_z,hp]
     rw[e]
     refine bce (fun e=>by cases e) (fun _=>?_)
     have e1:w64 (0+1) =1:=a_w (by omega) (by omega)
     rw[e1]
     refine ⟨fun n m s=>n=0∧m=1∧s=σ,fun _ _ _=>0,⟨rfl,rfl,rfl⟩,?_⟩
     rintro n m s ⟨rfl,rfl,rfl⟩
     refine h.at_.lenK (bcd (fun e=>by simp at e) (fun _=>?_))
     have hr:=h.at_.rows
     have hns:=h.nsl
     have hnew:=h.new
     cases d <;> simp only[Go.Fw.Rows] at hr <;> try exact hr.elim
     · simp at hr
     · simp at hr
     · exact absurd trivial hns
     · rename_i id i0 len _
       obtain ⟨t,rows,g1,g2,g3,g4⟩:=hr
       have hlen:len=1:=by
         have:=congrArg List.length g4
         simp at this;omega
       subst hlen
       obtain ⟨y,hy⟩ :∃y,rows[i0]? =some y:=⟨rows[i0]'(by omega),List.getElem?_eq_getElem _⟩
       have hx:=h.at_.idxN c_int
       have hl1:(List.map Go.Fw.encI [x]).length=1:=rfl
       have hset:∀n:Nat,n=1→List.take i0 rows ++ List.replicate n [iD 0] ++ List.drop (i0+n) rows=rows.set i0 [iD 0]:=fun n hn=>by
         subst hn
         rw[List.set_eq_take_append_cons_drop,if_pos (by omega)];simp
       have hat:Own prog σ0 (Store.set s id (.live t (rows.set i0 [iD 0]))) a_i (.osl id i0 1) [[iD 0]]:=by
         refine ⟨⟨⟨t,_,Store.set_same _ _ _,g2,by simpa using g3,?_⟩,by simp,fun es rows e=>by cases e⟩,fun i hi=>?_,hnew,h.nsl,h.nz⟩
         · rw[List.drop_set,if_neg (by omega),Nat.sub_self]
           have hd:(rows.drop i0).length≥1:=by rw[List.length_drop];omega
           cases hdr:rows.drop i0 with
           | nil=>rw[hdr] at hd;simp at hd
           | cons a b=>simp
         · rw[Store.set_ne _ _ (fun e=>by subst e;exact hi (hnew _ _ _ rfl))]
           exact h.ext i hi
       have hsub:=hat.sub (lo:=0) (hi:=0) (by omega) (by simp)
       refine ⟨1,hx,by omega,by omega,List.map Go.Fw.encI [x],?_, .inr ⟨id,i0,1,t,rows,by simp[g_i],g1,1,?_,by omega,by omega,by omega,g_i (.osl id i0 1) 0 0,rfl,?_⟩⟩
       · show Go.Fw.Rows prog s a_i (g_i (.osl id i0 1) 0 1) _
         simp only[g_i,Go.Fw.Rows,Nat.add_zero,Nat.sub_zero]
         exact ⟨t,rows,g1,g2,g3,g4⟩
       · rw[hset 1 rfl];exact hat.at_.idxN c_int
       · rw[hset 1 rfl]
         simpa[hp] using hsub
 | _::_::_,h1,_=>simp at h1
end
section
variable {σ σ0:Store}
theorem z_w {c:Cf}{k:Co}(h:FitIs c k){r:Int}{x:Rt}(hx:a_k c.Rts r=some x) :0≤r∧r < 12∧r < k.Routes.length∧r < c.Rts.length:=by
 have:=a_l hx
 have:=a_y h.chk
 have:=h.lRts
 omega
theorem a_s4 {c:Cf}{s:Int}(h:∃y,a_k c.Secs s=some y) :0≤s∧s < c.Secs.length:=by
 obtain ⟨y,hy⟩:=h
 have:=a_l hy
 omega
section
variable {c0 c1 c2 c3 c4 v0 v1 v2 v3:D} {c:Cf} {v:Vw} (hc:∀s,CfAt s c0 c1 c2 c3 c4 c) (hz:u_4 c4) (hv:VwB σ0 v0 v1 v2 v3 v) (hvf:v.fits c=true) {id:Nat} {d0 d1 d2 d3 d4 d5 pd:D} {k:Co} {now:Int} {dd:Bool} (hP:Paths σ0 pd c)
include hc hz hv hvf hP
theorem a_ha (hI:CoIn σ0 σ id a_n (c_2 v0 v1 v2 v3 c0 c1 c2 c3 c4 c) (b_w now dd pd) d0 d1 d2 d3 d4 d5 k)(hf:FitIs c k){r:Int}{x:Rt}(hx:a_k c.Rts r=some x) :
   Pure prog d_5 [.one (.el (.osl id 0 1) 0 0),iA r] σ (.a (bA (k.ready c v r))):=by
 have hok:=hf.chk
 have hr:=a_7 hok (d_3 hx)
 obtain ⟨r0,r1,r2,r3⟩:=z_w hf hx
 have hg:=a_l hx
 obtain ⟨l0,l1,l2,l3⟩:=of_decide_eq_true (show decide (v.Occ.length=c.Secs.length∧v.Pos.length=c.Secs.length∧v.Shut.length=c.Xs.length∧v.Lamp.length=c.Sigs.length) =true from hvf)
 obtain ⟨rrows,q1,q2,q3,hat,hlen,hrow,f1,f2,f3⟩:=p_h hc hg.2.2
 have hq3:q3≠ .zsl:=fun e=>a_sw hz hat hrow (by rw[e];rfl)
 obtain ⟨prows,hpat,hprows⟩:=hP.mono hI.ext
 obtain ⟨qd,hprow,hq⟩:=hprows _ _ hg.2.2
 have hsO:=hf.lOwn
 have hol:=hr.olen
 refine .of (s_n _ r σ _ (a_d fun i1 s1 hi1 _ e1 g1=>a_d fun i2 s2 hi2 _ e2 g2=>?_)) (l_e _)
 have g1':=a_1 g1 e2
 have hI2:=hI.mono (e1.trans e2)
 refine ⟨_,a_e g1',_,rfl,trivial,_,_,_,rfl,_,a_e hI2.row,c4,rfl,_,a_e g2,r,rfl,(hat s2).load hrow c_p (Int.toNat_of_nonneg r0).symm ⟨q3,rfl,(d_6 (f3 s2) hq3 (by rw[List.length_map];omega)).mono ?_⟩⟩
 rintro q s3 ⟨w3,rfl,ho3⟩
 have e3:=ho3.ext
 have hI3:=hI2.mono e3
 have gg1:=a_1 g1' e3
 have gg2:=a_1 g2 e3
 have hov:∀s ∈ x.Overlap,0≤s∧s < c.Secs.length:=fun s hs=>a_s4 (by obtain ⟨y,hy,_⟩:=(hr.ov hs).1;exact ⟨y,hy⟩)
 refine ⟨w3,rfl,(z_d (p:=fun s=> !decide (h_d k.Own s=r+1)) ho3 hol ⟨_,_,_,[],[.one (.el (.osl i1 0 1) 0 0), .one (.el (.osl i2 0 1) 0 0)],rfl,rfl,rfl,fun s hs=>a_r4 hI3 gg1 gg2 (by omega) (by have:=hov s hs;omega)⟩).mono ?_⟩
 rintro q s4 ⟨w4,rfl,ho4⟩
 have hfl:(x.Overlap.filter fun s=> !!decide (h_d k.Own s=r+1)) =k.ownS c r:=by
   rw[Co.ownS,b_j hx];congr 1;funext s;simp
 rw[hfl] at ho4
 have e4:=ho4.ext
 have hI4:=hI2.mono e4
 have gh1:=a_1 g1' e4
 have gh2:=a_1 g2 e4
 have he4:Ext σ s4:=(e1.trans e2).trans e4
 have hR:k.ready c v r=(clr v.Occ (c.pathS r) && (clr v.Occ (k.ownS c r) && ((c.Needs r).all (m_5 c k v) && ((c.Cross r).all (j_1 c k v) && a_ra c k v r)))):=rfl
 refine ⟨w4,rfl,?_⟩
 intro R hRR
 have hps:∀s ∈ c.pathS r,0≤s∧s < c.Secs.length:=fun s hs=>by
   obtain ⟨j,hj⟩:=List.mem_iff_getElem?.1 hs
   exact z_v hok hj
 rw[←k_4 hx] at hq
 have hq4:=hq.ext he4
 have hos:∀s ∈ k.ownS c r,0≤s∧s < c.Secs.length:=fun s hs=>hov s (by rw[Co.ownS,b_j hx] at hs;exact (List.mem_filter.1 hs).1)
 refine ⟨_,a_e gh1,_,rfl,trivial,_,_,_,rfl,_,a_e gh1,_,rfl,trivial,_,_,_,rfl,_,a_e hI4.row,pd,rfl,_,a_e gh2,r,rfl,(hpat.ext he4).load hprow r_u (Int.toNat_of_nonneg r0).symm ⟨qd,rfl,(h_5 hI4.row (hv.mono hI4.ext) hq4 fun s hs=>by have:=hps s hs;omega).use ⟨_,rfl,a_p (fun e=>⟨by rw[hR,e];rfl,he4⟩) (fun b1=>?_)⟩⟩⟩
 refine ⟨_,a_e gh1,_,rfl,trivial,_,_,_,rfl,(h_5 hI4.row (hv.mono hI4.ext) ho4.at_ fun s hs=>by have:=hos s hs;omega).use ⟨_,rfl,a_p (fun e=>⟨by rw[hR,b1,e];rfl,he4⟩) (fun b2=>hRR s4 ?_)⟩⟩
 rw[b1,b2,Bool.true_and,Bool.true_and] at hR
 have hyn:(c.rt r).Path.length≤2 ^ 20:=by rw[b_j hx];have:=hr.len;omega
 have hyf:(c.rt r).Flank.length≤2 ^ 20:=by rw[b_j hx];have:=hr.flen;omega
 refine ⟨_,a_e gh1,_,rfl,trivial,_,_,_,rfl,_,a_e hI4.row,c0,c1,c2,c3,c4,_,_,_,_,rfl,_,a_e gh2,r,rfl,(k_y hc r hyn hyf).mono ?_⟩
 rintro q s ⟨rfl,d11,rfl,h11⟩
 have hnl:(c.Needs r).length≤41:=by
   rw[Cf.Needs,b_j hx]
   have:=k_m c x
   have:=hr.len;have:=hr.flen;omega
 refine ⟨d11,rfl,(h11 s).lenK ⟨fun n s'=>s'=s∧Rng (c.Needs r) (fun q=>q.all (m_5 c k v) =(c.Needs r).all (m_5 c k v)) n,fun n _=>(c.Needs r).length - n.toNat,⟨rfl, .start rfl⟩,?_⟩⟩
 rintro n s' ⟨rfl,hq⟩
 rw[List.length_map]
 refine bcd (fun hlt=>?_) (fun hge=>?_)
 · obtain ⟨j,nd,rfl,hnd,hj,hF,nx⟩:=hq.step rfl (by omega) hlt
   obtain ⟨hsec,_⟩:=k_h hr (by have:=List.mem_of_getElem? hnd;rw[Cf.Needs,b_j hx] at this;exact this)
   obtain ⟨g0,g3⟩:=a_s4 hsec
   have hlp:=hf.lPts
   rw[List.all_cons] at hF
   have no:m_5 c k v nd=false→(RV.a (.one (.bool false)) = .a (bA (k.ready c v r))∧Ext σ s'):=fun e=>by rw[hR,←hF,e];exact ⟨rfl,he4⟩
   refine (h11 s').load (a_c hnd) m_m rfl ⟨nd.Sec,nd.Pos,rfl,_,a_e gh1,_,rfl,trivial,_,_,_,rfl,_,a_e hI4.row,d2,rfl,hI4.at.points.load (a_c (a_we g0 (by omega))) c_l (Int.toNat_of_nonneg g0).symm ⟨(mvG k.Points nd.Sec).Cmd,(mvG k.Points nd.Sec).Other,rfl,bcn (fun e=>no (by rw[m_5,decide_eq_false e];rfl)) (fun b3=>?_)⟩⟩
   refine ⟨_,a_e gh1,_,rfl,trivial,_,_,_,rfl,_,a_e hI4.row,v1,rfl,(hv.pos s' hI4.ext).load (a_c (a_kk g0 (by omega))) v_t (Int.toNat_of_nonneg g0).symm ⟨(lkG v.Pos nd.Sec).Value,(lkG v.Pos nd.Sec).Stamp,(lkG v.Pos nd.Sec).Valid,rfl,_,a_e gh1,_,rfl,trivial,_,_,_,rfl,_,a_e hI4.row,c.Age,rfl,?_⟩⟩
   refine (p_1 (mvG k.Points nd.Sec) (lkG v.Pos nd.Sec) c.Age).use ⟨_,rfl,a_p (fun e=>no (by rw[m_5,e,Bool.and_false])) (fun b4=>?_)⟩
   rw[m_5,decide_eq_true b3,b4,Bool.true_and,Bool.true_and] at hF
   exact c_6 rfl (nx (fun q=>q.all (m_5 c k v) =(c.Needs r).all (m_5 c k v)) hF)
 have hF:=hq.done rfl hge
 rw[←hF,List.all_nil,Bool.true_and] at hR
 clear hF hq hge
 have hxs:=(q_y hok).2.2
 refine ⟨_,a_e gh1,_,rfl,trivial,_,_,_,rfl,_,a_e hI4.row,c0,c1,c2,c3,c4,_,_,_,_,rfl,_,a_e gh2,r,rfl,(g_8 hc r (by omega)).mono ?_⟩
 rintro q s ⟨rfl,d18,rfl,h18⟩
 have hcl2:(c.Cross r).length≤c.Xs.length:=i_o _ _ _
 refine ⟨d18,rfl,(h18 s).lenK ⟨fun n s'=>s'=s∧Rng (c.Cross r) (fun q=>q.all (j_1 c k v) =(c.Cross r).all (j_1 c k v)) n,fun n _=>(c.Cross r).length - n.toNat,⟨rfl, .start rfl⟩,?_⟩⟩
 rintro n s' ⟨rfl,hq⟩
 rw[List.length_map]
 refine bcd (fun hlt=>?_) (fun hge=>?_)
 · obtain ⟨j,i,rfl,hi,hj,hF,nx⟩:=hq.step rfl (by omega) hlt
   obtain ⟨i',xx,e3',hxx,_⟩:=f_y _ _ _ _ (List.mem_of_getElem? hi)
   rw[Nat.zero_add] at e3'
   have hil:=(List.getElem?_eq_some_iff.1 hxx).1
   have hlp:=hf.lXs
   have g0:0≤i:=by omega
   rw[List.all_cons] at hF
   have no:j_1 c k v i=false→(RV.a (.one (.bool false)) = .a (bA (k.ready c v r))∧Ext σ s'):=fun e=>by rw[hR,←hF,e];exact ⟨rfl,he4⟩
   refine (h18 s').load (a_c hi) c_int rfl ⟨i,rfl,_,a_e gh1,_,rfl,trivial,_,_,_,rfl,_,a_e hI4.row,d3,rfl,hI4.at.xs.load (a_c (a_we g0 (by omega))) c_l (Int.toNat_of_nonneg g0).symm ⟨(mvG k.Xs i).Cmd,(mvG k.Xs i).Other,rfl,?_⟩⟩
   refine ⟨_,a_e gh1,_,rfl,trivial,_,_,_,rfl,_,a_e hI4.row,v2,rfl,(hv.shut s' hI4.ext).load (a_c (a_kk g0 (by omega))) v_t (Int.toNat_of_nonneg g0).symm ⟨(lkG v.Shut i).Value,(lkG v.Shut i).Stamp,(lkG v.Shut i).Valid,rfl,_,a_e gh1,_,rfl,trivial,_,_,_,rfl,_,a_e hI4.row,c.Age,rfl,?_⟩⟩
   refine (p_1 (mvG k.Xs i) (lkG v.Shut i) c.Age).use ⟨_,rfl,a_p (fun e=>no (by rw[j_1,e])) (fun b4=>?_)⟩
   rw[j_1,b4,Bool.true_and] at hF
   exact c_6 rfl (nx (fun q=>q.all (j_1 c k v) =(c.Cross r).all (j_1 c k v)) hF)
 have hF:=hq.done rfl hge
 rw[←hF,List.all_nil,Bool.true_and] at hR
 clear hF hq hge
 obtain ⟨a,ha⟩:=hr.entry
 have hga:=a_l ha
 have hl:=x_9 hok x.Path
 have hlr:c.lineR r=b_b c x.Path:=by rw[Cf.lineR,b_j hx]
 have hl4:=hf.lLn
 rw[a_ra,b_j hx] at hR
 refine ⟨_,a_e gh1,_,rfl,_,a_e gh2,r,rfl,(u_u hc hP hI4 hok hl4 hx).use ⟨_,rfl,_,a_e gh1,_,rfl,trivial,_,_,_,rfl,_,a_e hI4.row,v3,rfl,_,a_e gh1,_,rfl,trivial,_,_,_,rfl,_,a_e hI4.row,c4,rfl,_,a_e gh2,r,rfl,?_⟩⟩
 refine (hat s').load hrow c_p (Int.toNat_of_nonneg r0).symm ⟨x.Entry,rfl,(hv.lamp s' hI4.ext).load (a_c (a_kk hga.1 (by omega))) v_t (Int.toNat_of_nonneg hga.1).symm ⟨(lkG v.Lamp x.Entry).Value,(lkG v.Lamp x.Entry).Stamp,(lkG v.Lamp x.Entry).Valid,rfl,bc (fun b5=>bce (fun b6=>?_) (fun e=>⟨by rw[hR,decide_eq_false e];simp,he4⟩)) (fun e=>⟨by rw[hR,e];rfl,he4⟩)⟩⟩
 rw[b5,decide_eq_true b6,Bool.true_and,Bool.true_and] at hR
 by_cases hpos:c.lineR r > 0
 · rw[if_pos hpos]
   refine ⟨false,rfl,bc (fun e=>by cases e) (fun _=>?_)⟩
   have hll:c.lineR r < k.Lines.length:=by omega
   have hu:=a_x7 (l:=k.Lines) (s:=c.lineR r) (by omega) hll
   refine ⟨trivial,_,_,_,rfl,_,hI4.at.lines.row (a_c hu),(lnG k.Lines (c.lineR r)).PGrant,rfl,trivial,_,_,_,rfl,_,hI4.at.lines.row (a_c hu),(lnG k.Lines (c.lineR r)).Ask,rfl,?_,he4⟩
   rw[hR,decide_eq_false (show ¬c.lineR r=0 by omega),Bool.false_or]
   by_cases e:(lnG k.Lines (c.lineR r)).PGrant=(lnG k.Lines (c.lineR r)).Ask <;> simp[e]
 · rw[if_neg hpos]
   refine ⟨true,rfl,bc (fun _=>⟨?_,he4⟩) (fun e=>by cases e)⟩
   rw[hR,decide_eq_true (show c.lineR r=0 by omega),Bool.true_or]
end
end
section
variable {σ σ0:Store}
/-! the greatest of two numbers, as a call that is told -/
def a_yb (d:D)(a b:Int)(xs:List A)(s:Store) :Prop:=xs=[.one d]∧At prog s a_i d [Go.Fw.encI a,Go.Fw.encI b]
def a_xe (d:D)(a b:Int)(xs:List A)(s:Store)(r:RV)(s':Store) :Prop:=xs=[.one d]∧r= .a (iA (max a b))∧s'=s
theorem a_rh {d:D}{a b:Int}(h:At prog σ a_i d [Go.Fw.encI a,Go.Fw.encI b]) :Pure prog f_5 [.one d] σ (.a (iA (max a b))):=by
 refine a_bu d σ _ ?_
 intro R hR
 refine h.lenK (bcd (fun e=>by simp at e) (fun _=>hR σ ?_))
 refine h.load (j:=0) rfl c_int rfl ⟨a,rfl,fun m n s=>s=σ∧((m=a∧n=1)∨(m=max a b∧n=2)),fun m n _=>2 - n.toNat,⟨rfl, .inl ⟨rfl,rfl⟩⟩,?_⟩
 rintro m n s ⟨rfl,hn⟩
 refine h.lenK (bcd (fun hlt=>?_) (fun hge=>?_))
 · rcases hn with ⟨rfl,rfl⟩ | ⟨rfl,rfl⟩
   · refine h.load (j:=1) rfl c_int rfl ⟨b,rfl,⟨rfl, .inr ⟨?_,?_⟩⟩,?_⟩
     · split <;> omega
     · exact a_w (by omega) (by omega)
     · rw[show w64 (1+1) =2 from a_w (by omega) (by omega)];show 2 - (2:Int).toNat < 2 - (1:Int).toNat;decide
   · simp at hlt
 · rcases hn with ⟨rfl,rfl⟩ | ⟨rfl,rfl⟩
   · simp at hge
   · exact ⟨rfl,rfl⟩
theorem a_vm (d:D)(a b:Int) :h_k prog f_5 (a_yb d a b) (a_xe d a b):=by
 refine ⟨?_,?_,?_,?_,?_⟩
 · rintro xs s ⟨rfl,h⟩
   exact (a_rh h).use ⟨rfl,rfl,rfl⟩
 · rintro xs s ⟨rfl,h⟩ hf
   exact ⟨_,s,⟨rfl,rfl,rfl⟩,hf⟩
 · rintro xs s r s' ⟨rfl,rfl,rfl⟩ hf
   exact hf
 · rintro xs s id so hid hso ⟨rfl,h⟩
   refine ⟨⟨rfl,h.ext (Ext.new hid so)⟩,?_⟩
   rintro r s' ⟨_,rfl,rfl⟩
   exact ⟨s,⟨rfl,rfl,rfl⟩,hid,rfl⟩
 · rintro xs s r s' _ ⟨rfl,rfl,rfl⟩ i _
   rfl
theorem a_hz {id:Nat}{t:TypeId}{v0 v1 v2 v3:D}{rest:List D}{v:Vw}(hrow:σ id= .live t [v0::rest])(hv:VwB σ v0 v1 v2 v3 v){s:Int}(hs:0≤s∧s < v.Occ.length){d:D}{a b:Int}(hd:At prog σ a_i d [Go.Fw.encI a,Go.Fw.encI b]) :
   Pure prog g_k [.one (.el (.osl id 0 1) 0 0),iA s, .one d] σ (.a (bA ((lkG v.Occ s).clear && decide ((lkG v.Occ s).Stamp > max a b)))):=by
 refine .of (t_p _ s d σ _ ⟨_,_,a_vm d a b,a_d fun i1 s1 hi1 _ e1 g1=>?_⟩) (l_e _)
 have hc1:clr v.Occ [s]=(lkG v.Occ s).clear:=by simp[clr]
 refine (h_5 (a_1 hrow e1) (hv.mono e1) (l:= [s]) (At.fresh g1 (by simp) rfl) fun x hx=>by rw[List.mem_singleton] at hx;subst hx;exact hs).use ⟨_,rfl,bc (fun e=>?_) (fun e=>⟨by rw[←hc1,e];rfl,e1⟩)⟩
 refine ⟨trivial,_,_,_,rfl,_,a_e (a_1 hrow e1),v0,rfl,(hv.occ s1 e1).load (a_c (a_kk hs.1 hs.2)) v_t (Int.toNat_of_nonneg hs.1).symm ⟨(lkG v.Occ s).Stamp,rfl,⟨rfl,hd.ext e1⟩,?_⟩⟩
 rintro r s2 ⟨_,rfl,rfl⟩
 exact ⟨_,rfl,by rw[←hc1,e];rfl,e1⟩
section
variable {c0 c1 c2 c3 c4 v0 v1 v2 v3:D} {c:Cf} {v:Vw} {id:Nat} {d0 d1 d2 d3 d4 d5 pd:D} {k:Co} {now:Int} {dd:Bool}
def o_4 (σ0:Store)(id:Nat)(pre post:List D)(d0 d1 d2 d3 d4 d5:D)(k:Co)(r:RV)(s:Store) :Prop:=r= .tup []∧CoIn σ0 s id a_n pre post d0 d1 d2 d3 d4 d5 k
theorem m_u (hI:CoIn σ0 σ id a_n (c_2 v0 v1 v2 v3 c0 c1 c2 c3 c4 c) (b_w now dd pd) d0 d1 d2 d3 d4 d5 k){s:Int}(h0:0≤s)(h1:s < k.Own.length) :
   DCalls prog d_d [.one (.el (.osl id 0 1) 0 0),iA s] σ (o_4 σ0 id (c_2 v0 v1 v2 v3 c0 c1 c2 c3 c4 c) (b_w now dd pd) d0 d1 d2 d3 d4 d5 { k with Own:=k.Own.set s.toNat 0,Dirty:=true }):=by
 refine u_o _ s σ _ ⟨trivial,_,_,_,rfl,_,a_e hI.row,d0,rfl,hI.at.own.idxK c_int (Int.toNat_of_nonneg h0).symm (by rw[List.length_map];omega) ?_⟩
 refine hI.putO (y:=0) (w_y h0 h1) rfl (by simp) rfl fun s1 hI1 _=>⟨trivial,_,_,_,rfl,hI1.dirty (b:=true) rfl fun s2 hI2 _=>⟨rfl,hI2⟩⟩
theorem a_qv {o:Int}{l:List Int}{j:Nat}{z:Int}(h:l[j]? =some z) :(d_i o (l.take j) ++ l.drop j)[j]? =some z∧(z=o→(d_i o (l.take j) ++ l.drop j).set j 0=d_i o (l.take (j+1)) ++ l.drop (j+1))∧(z≠o→d_i o (l.take j) ++ l.drop j=d_i o (l.take (j+1)) ++ l.drop (j+1)):=by
 obtain ⟨hl,he⟩:=List.getElem?_eq_some_iff.1 h
 have hln:(d_i o (l.take j)).length=j:=by unfold d_i;rw[List.length_map,List.length_take];omega
 have hd:l.drop j=z::l.drop (j+1):=by rw[←he];exact List.drop_eq_getElem_cons hl
 have ht:d_i o (l.take (j+1)) =d_i o (l.take j) ++ [if z=o then 0 else z]:=by
   unfold d_i;rw[List.take_add_one,h,List.map_append];rfl
 refine ⟨?_,fun e=>?_,fun e=>?_⟩
 · rw[List.getElem?_append_right (by omega),hln,Nat.sub_self,hd];rfl
 · rw[ht,if_pos e,hd,List.set_append_right _ _ (by omega),hln,Nat.sub_self,List.set_cons_zero];simp
 · rw[ht,if_neg e,hd];simp
variable (hc:∀s,CfAt s c0 c1 c2 c3 c4 c) (hP:Paths σ0 pd c)
include hc hP
theorem a_mh (hI:CoIn σ0 σ id a_n (c_2 v0 v1 v2 v3 c0 c1 c2 c3 c4 c) (b_w now dd pd) d0 d1 d2 d3 d4 d5 k)(hf:FitIs c k){r:Int}{x:Rt}(hx:a_k c.Rts r=some x) :
   DCalls prog h_c [.one (.el (.osl id 0 1) 0 0),iA r] σ (o_4 σ0 id (c_2 v0 v1 v2 v3 c0 c1 c2 c3 c4 c) (b_w now dd pd) d0 d1 d2 d3 d4 d5 (k.endR c r)):=by
 have hok:=hf.chk
 obtain ⟨r0,r1,r2,r3⟩:=z_w hf hx
 have hsm:=q_4 (fits_iff.2 hf)
 have w:w64 (r+1) =r+1:=a_w (by omega) (by omega)
 refine v_8 _ r σ _ ⟨trivial,_,_,_,rfl,_,a_e hI.row,d0,rfl,hI.at.own.lenK ⟨fun n s=>∃(j:Nat) (b:Bool),n=j∧j≤k.Own.length∧CoIn σ0 s id a_n (c_2 v0 v1 v2 v3 c0 c1 c2 c3 c4 c) (b_w now dd pd) d0 d1 d2 d3 d4 d5 { k with Own:=d_i (r+1) (k.Own.take j) ++ k.Own.drop j,Dirty:=b },
   fun n _=>k.Own.length - n.toNat,⟨0,k.Dirty,rfl,by omega,by simpa[d_i] using hI⟩,?_⟩⟩
 rintro n s ⟨j,b,rfl,hj,hI1⟩
 rw[List.length_map]
 refine bcd (fun hlt=>?_) (fun hge=>?_)
 · obtain ⟨z,hz⟩:=a_g (l:=k.Own) (j:=j) (by omega)
   obtain ⟨a1,a2,a3⟩:=a_qv (o:=r+1) hz
   have hl1:=(List.getElem?_eq_some_iff.1 a1).1
   refine hI1.at.own.load (a_c a1) c_int rfl ⟨z,rfl,?_⟩
   rw[w,a_m (by omega)]
   refine bce (fun e=>?_) (fun e=>⟨⟨j+1,b,rfl,by omega,by rw[←a3 e];exact hI1⟩,c_9 (by omega)⟩)
   refine (m_u hI1 (s:=(j:Int)) (by omega) (by simp only;omega)).mono ?_
   rintro q s2 ⟨rfl,hI2⟩
   refine ⟨rfl,⟨j+1,true,rfl,by omega,?_⟩,c_9 (by omega)⟩
   rw[←a2 e];exact hI2
 have e:j=k.Own.length:=by omega
 rw[e,List.take_length,List.drop_length,List.append_nil] at hI1
 have hl4:=hf.lLn
 refine (u_u hc hP hI1 hok hl4 hx).use ⟨_,rfl,?_⟩
 have fin : ∀ (L : List Ls) s2, L = l_7 (c.lineR r) k.Lines → CoIn σ0 s2 id a_n (c_2 v0 v1 v2 v3 c0 c1 c2 c3 c4 c) (b_w now dd pd) d0 d1 d2 d3 d4 d5 { k with Own := d_i (r + 1) k.Own, Lines := L, Routes := k.Routes.set r.toNat ⟨0, 0, 0, 0⟩, Dirty := true } →
     o_4 σ0 id (c_2 v0 v1 v2 v3 c0 c1 c2 c3 c4 c) (b_w now dd pd) d0 d1 d2 d3 d4 d5 (k.endR c r) (.tup []) s2:=fun L s2 hL h=>⟨rfl,by subst hL;exact h⟩
 by_cases hpos:c.lineR r > 0
 · rw[if_pos hpos]
   have hl:=x_9 hok x.Path
   have hlr:c.lineR r=b_b c x.Path:=by rw[Cf.lineR,b_j hx]
   have hu:=a_x7 (l:=k.Lines) (s:=c.lineR r) (by omega) (by omega)
   refine ⟨false,rfl,bc (fun _=>?_) (fun e=>by cases e)⟩
   refine ⟨trivial,_,_,_,rfl,_,hI1.at.lines.row (a_c hu),(lnG k.Lines (c.lineR r)).Ask,rfl,trivial,_,_,_,rfl,?_⟩
   refine hI1.putL (k:= { k with Own:=d_i (r+1) k.Own,Dirty:=b }) (y:= { lnG k.Lines (c.lineR r) with Done:=(lnG k.Lines (c.lineR r)).Ask }) hu rfl (by simp) rfl fun s2 hI2 _=>?_
   refine ⟨trivial,_,_,_,rfl,_,a_e hI2.row,d1,rfl,hI2.at.routes.idxK a_x (Int.toNat_of_nonneg r0).symm (by rw[List.length_map];simp only;omega) ?_⟩
   refine hI2.putR (y:=⟨0,0,0,0⟩) (s_t r0 r2) rfl (by simp) rfl fun s3 hI3 _=>?_
   refine ⟨trivial,_,_,_,rfl,hI3.dirty (b:=true) rfl fun s4 hI4 _=>fin _ s4 ?_ hI4⟩
   rw[l_7,if_pos hpos]
 · rw[if_neg hpos]
   refine ⟨true,rfl,bc (fun e=>by cases e) (fun _=>?_)⟩
   refine ⟨trivial,_,_,_,rfl,_,a_e hI1.row,d1,rfl,hI1.at.routes.idxK a_x (Int.toNat_of_nonneg r0).symm (by rw[List.length_map];simp only;omega) ?_⟩
   refine hI1.putR (k:= { k with Own:=d_i (r+1) k.Own,Dirty:=b }) (y:=⟨0,0,0,0⟩) (s_t r0 r2) rfl (by simp) rfl fun s3 hI3 _=>?_
   refine ⟨trivial,_,_,_,rfl,hI3.dirty (b:=true) rfl fun s4 hI4 _=>fin k.Lines s4 ?_ hI4⟩
   rw[l_7,if_neg hpos]
end
end
section
variable {σ σ0:Store}
theorem a_rf {c:Cf}{v:Vw}(h:v.fits c=true) :v.Occ.length=c.Secs.length∧v.Pos.length=c.Secs.length∧v.Shut.length=c.Xs.length∧v.Lamp.length=c.Sigs.length:=of_decide_eq_true h
theorem a_ws {c:Cf}(h:c.check=0) :0≤c.Hold∧c.Hold≤40∧1≤c.Age∧c.Age≤8:=by
 have:=(h_j h).2.2.2.2.2
 simp only[Cf.timing,Bool.and_eq_true,decide_eq_true_eq] at this
 omega
section
variable {c0 c1 c2 c3 c4 v0 v1 v2 v3:D} {c:Cf} {v:Vw} (hc:∀s,CfAt s c0 c1 c2 c3 c4 c) (hv:VwB σ0 v0 v1 v2 v3 v) (hvf:v.fits c=true) {id:Nat} {d0 d1 d2 d3 d4 d5 pd:D} {k:Co} {now:Int} {dd:Bool} (hP:Paths σ0 pd c)
include hc hv hvf hP
theorem a_dz (hI:CoIn σ0 σ id a_n (c_2 v0 v1 v2 v3 c0 c1 c2 c3 c4 c) (b_w now dd pd) d0 d1 d2 d3 d4 d5 k)(hf:FitIs c k)(hn:tm 0 now=true){r:Int}{x:Rt}(hx:a_k c.Rts r=some x) :
   DCalls prog c_a [.one (.el (.osl id 0 1) 0 0),iA r] σ (o_4 σ0 id (c_2 v0 v1 v2 v3 c0 c1 c2 c3 c4 c) (b_w now dd pd) d0 d1 d2 d3 d4 d5 (k.endingR c v now r)):=by
 have hok:=hf.chk
 obtain ⟨r0,r1,r2,r3⟩:=z_w hf hx
 have hg:=a_l hx
 have hh:=a_ws hok
 have hst:=s_t r0 r2
 have hrf:=hf.rts _ _ _ hst hg.2.2
 simp only[Rs.fits,tm,Bool.and_eq_true,decide_eq_true_eq] at hrf
 have w:w64 ((rsG k.Routes r).Since+c.Hold) =(rsG k.Routes r).Since+c.Hold:=a_w (by omega) (by omega)
 have w1:w64 (r+1) =r+1:=a_w (by omega) (by omega)
 have hR1:=hI.at.routes.row (a_c hst)
 have hlen:(c.pathS r).length=x.Path.length:=by rw[k_4 hx,List.length_map]
 have hpl:=(a_7 hok (d_3 hx)).len
 refine p_3 _ r σ _ ⟨trivial,_,_,_,rfl,_,a_e hI.row,d1,rfl,hI.at.routes.load (a_c hst) a_x (Int.toNat_of_nonneg r0).symm ⟨(rsG k.Routes r).Since,rfl,trivial,_,_,_,rfl,_,a_e hI.row,c.Hold,rfl,trivial,_,_,_,rfl,_,a_e hI.row,now,rfl,?_⟩⟩
 rw[w]
 refine bcd (fun e=>⟨rfl,by rw[Co.endingR,if_pos e];exact hI⟩) (fun e=>?_)
 intro R hRR
 have fin:∀s',CoIn σ0 s' id a_n (c_2 v0 v1 v2 v3 c0 c1 c2 c3 c4 c) (b_w now dd pd) d0 d1 d2 d3 d4 d5 (k.goOn c v now r)→R s':=fun s' h=>hRR s' (by
   have hf1:=s_2 (v:=v) hf hn r0
   obtain ⟨_,_,r2',_⟩:=z_w hf1 hx
   obtain ⟨prows,hpat,hprows⟩:=hP.mono h.ext
   obtain ⟨qd,hprow,hq⟩:=hprows _ _ hg.2.2
   rw[←k_4 hx] at hq
   refine ⟨_,h.at.routes.row (a_c (s_t r0 r2')),(rsG (k.goOn c v now r).Routes r).Next,rfl,trivial,_,_,_,rfl,_,a_e h.row,pd,rfl,hpat.load hprow r_u (Int.toNat_of_nonneg r0).symm ⟨qd,rfl,hq.lenK ?_⟩⟩
   rw[List.length_map]
   refine bce (fun e1=>?_) (fun e1=>⟨rfl,by rw[Co.endingR,if_neg e,if_neg e1];exact h⟩)
   refine (a_mh hc hP h hf1 hx).mono ?_
   rintro q s2 ⟨rfl,h2⟩
   exact ⟨rfl,rfl,by rw[Co.endingR,if_neg e,if_pos e1];exact h2⟩)
 clear hRR
 obtain ⟨prows,hpat,hprows⟩:=hP.mono hI.ext
 obtain ⟨qd,hprow,hq⟩:=hprows _ _ hg.2.2
 rw[←k_4 hx] at hq
 refine ⟨trivial,_,_,_,rfl,_,a_e hI.row,pd,rfl,hpat.load hprow r_u (Int.toNat_of_nonneg r0).symm ⟨qd,rfl,_,hR1,(rsG k.Routes r).Next,rfl,hq.lenK ?_⟩⟩
 rw[List.length_map]
 refine bcd (fun hlt=>?_) (fun hge=>fin σ ?_)
 · obtain ⟨s,hs⟩:=a_g (l:=c.pathS r) (j:=(rsG k.Routes r).Next.toNat) (by omega)
   have hgs:a_k (c.pathS r) (rsG k.Routes r).Next=some s:=by unfold a_k;rw[if_neg (by omega),hs]
   obtain ⟨s0,s1⟩:=z_v hok hs
   have hlo:=hf.lOwn
   have hvl:=a_rf hvf
   have hgo : k.goOn c v now r = if h_d k.Own s ≠ r + 1 then k.setR r { rsG k.Routes r with Next := (rsG k.Routes r).Next + 1 }
       else if (lkG v.Occ s).clear=true∧(lkG v.Occ s).Stamp > (rsG k.Routes r).Since+c.Hold∧(lkG v.Occ s).Stamp > (rsG k.Routes r).Mark then
         { k with Own:=k.Own.set s.toNat 0,Dirty:=true,Routes:=k.Routes.set r.toNat { rsG k.Routes r with Next:=(rsG k.Routes r).Next+1,Mark:=now } }
       else k:=by rw[Co.goOn,hgs]
   have wn:w64 ((rsG k.Routes r).Next+1) =(rsG k.Routes r).Next+1:=a_w (by omega) (by omega)
   refine ⟨_,hR1,(rsG k.Routes r).Next,rfl,hq.load (a_c hs) c_int (Int.toNat_of_nonneg (by omega)).symm ⟨s,rfl,trivial,_,_,_,rfl,_,a_e hI.row,d0,rfl,hI.at.own.load (a_c (w_y s0 (by omega))) c_int (Int.toNat_of_nonneg s0).symm ⟨_,rfl,?_⟩⟩⟩
   rw[w1]
   refine bcn (fun e1=>?_) (fun e1=>?_)
   · refine ⟨_,hR1,(rsG k.Routes r).Next,rfl,?_⟩
     rw[wn]
     refine hI.putR (y:= { rsG k.Routes r with Next:=(rsG k.Routes r).Next+1 }) hst rfl (by simp) rfl fun s2 hI2 _=>fin s2 ?_
     rw[hgo,if_pos e1];exact hI2
   rw[if_neg (by simpa using e1)] at hgo
   refine ⟨trivial,_,_,_,rfl,_,hR1,(rsG k.Routes r).Mark,rfl,a_d fun i1 s1' hi1 _ he1 g1=>?_⟩
   have hI1:=hI.mono he1
   refine (a_hz hI1.row (hv.mono hI1.ext) (s:=s) ⟨s0,by omega⟩ (d:= .osl i1 0 2) (a:=(rsG k.Routes r).Since+c.Hold) (b:=(rsG k.Routes r).Mark) (At.fresh g1 (by simp) rfl)).use ⟨_,rfl,bc (fun e2=>?_) (fun e2=>fin s1' ?_)⟩
   · rw[Bool.and_eq_true,decide_eq_true_eq] at e2
     rw[if_pos ⟨e2.1,by omega,by omega⟩] at hgo
     refine (m_u hI1 s0 (by omega)).mono ?_
     rintro q s2 ⟨rfl,hI2⟩
     refine ⟨rfl,_,hI2.at.routes.row (a_c hst),(rsG k.Routes r).Next,rfl,?_⟩
     rw[wn]
     refine hI2.putR (k:= { k with Own:=k.Own.set s.toNat 0,Dirty:=true }) (y:= { rsG k.Routes r with Next:=(rsG k.Routes r).Next+1 }) hst rfl (by simp) rfl fun s3 hI3 _=>?_
     refine ⟨trivial,_,_,_,rfl,_,a_e hI3.row,now,rfl,?_⟩
     refine hI3.putR (x:= { rsG k.Routes r with Next:=(rsG k.Routes r).Next+1 }) (y:= { rsG k.Routes r with Next:=(rsG k.Routes r).Next+1,Mark:=now }) (j:=r.toNat) (by show (k.Routes.set r.toNat _)[r.toNat]? =_;rw[List.getElem?_set,if_pos rfl,if_pos (by omega)]) rfl (by simp) rfl fun s4 hI4 _=>fin s4 ?_
     rw[hgo]
     have:({ k with Own:=k.Own.set s.toNat 0,Dirty:=true,Routes:=k.Routes.set r.toNat { rsG k.Routes r with Next:=(rsG k.Routes r).Next+1,Mark:=now } } :Co) = { k with Own:=k.Own.set s.toNat 0,Dirty:=true,Routes:=(k.Routes.set r.toNat { rsG k.Routes r with Next:=(rsG k.Routes r).Next+1 }).set r.toNat { rsG k.Routes r with Next:=(rsG k.Routes r).Next+1,Mark:=now } } :=by rw[List.set_set]
     rw[this];exact hI4
   · have : ¬ ((lkG v.Occ s).clear = true ∧ (lkG v.Occ s).Stamp > (rsG k.Routes r).Since + c.Hold ∧ (lkG v.Occ s).Stamp > (rsG k.Routes r).Mark) := fun h => by
       rw[h.1,decide_eq_true (by omega)] at e2;cases e2
     rw[hgo,if_neg this];exact hI1
 · have:a_k (c.pathS r) (rsG k.Routes r).Next=none:=c_z (by omega)
   rw[Co.goOn,this];exact hI
end
section
variable {c0 c1 c2 c3 c4 v0 v1 v2 v3:D} {c:Cf} {v:Vw} (hc:∀s,CfAt s c0 c1 c2 c3 c4 c) (hz:u_4 c4) (hv:VwB σ0 v0 v1 v2 v3 v) (hvf:v.fits c=true) {id:Nat} {d0 d1 d2 d3 d4 d5 pd:D} {k:Co} {now:Int} {dd:Bool} (hP:Paths σ0 pd c)
include hc hz hv hvf hP
theorem a_fa (hI:CoIn σ0 σ id a_n (c_2 v0 v1 v2 v3 c0 c1 c2 c3 c4 c) (b_w now dd pd) d0 d1 d2 d3 d4 d5 k)(hf:FitIs c k)(hn:tm 0 now=true){r:Int}{x:Rt}(hx:a_k c.Rts r=some x) :
   DCalls prog f_u [.one (.el (.osl id 0 1) 0 0),iA r] σ (o_4 σ0 id (c_2 v0 v1 v2 v3 c0 c1 c2 c3 c4 c) (b_w now dd pd) d0 d1 d2 d3 d4 d5 (k.routeR c v now dd r)):=by
 have hok:=hf.chk
 obtain ⟨r0,r1,r2,r3⟩:=z_w hf hx
 have hg:=a_l hx
 have hst:=s_t r0 r2
 have hR1:=hI.at.routes.row (a_c hst)
 have hvl:=a_rf hvf
 obtain ⟨prows,hpat,hprows⟩:=hP.mono hI.ext
 obtain ⟨qd,hprow,hq⟩:=hprows _ _ hg.2.2
 rw[←k_4 hx] at hq
 have hps:∀s ∈ c.pathS r,0≤s∧s < v.Occ.length:=fun s hs=>by
   obtain ⟨j,hj⟩:=List.mem_iff_getElem?.1 hs
   have:=z_v hok hj
   omega
 have hD : k.routeR c v now dd r = if ((rsG k.Routes r).State = 2 ∨ (rsG k.Routes r).State = 3) ∧ clr v.Occ (c.pathS r) = false then k.setR r { rsG k.Routes r with State := 4, Since := now, Mark := 0 }
     else if (rsG k.Routes r).State=2∧k.ready c v r=false then k.setR r { rsG k.Routes r with State:=3 }
     else if (rsG k.Routes r).State=1∧dd=false∧k.ready c v r=true then k.setR r { rsG k.Routes r with State:=2 }
     else if (rsG k.Routes r).State=4 then k.endingR c v now r
     else k:=rfl
 have hend:=a_dz hc hv hvf hP hI hf hn hx
 have hrdy:=a_ha hc hz hv hvf hP hI hf hx
 generalize k.routeR c v now dd r=k' at hD ⊢
 refine q_5 _ r σ _ ⟨trivial,_,_,_,rfl,_,a_e hI.row,d1,rfl,hI.at.routes.idxK a_x (Int.toNat_of_nonneg r0).symm (by rw[List.length_map];omega) ?_⟩
 have t4:(k'=if (rsG k.Routes r).State=4 then k.endingR c v now r else k)→a_b ((rsG k.Routes r).State == 4) (DCalls prog c_a [.one (.el (.osl id 0 1) 0 0),iA r] σ fun r1 s1=>r1= .tup []∧o_4 σ0 id (c_2 v0 v1 v2 v3 c0 c1 c2 c3 c4 c) (b_w now dd pd) d0 d1 d2 d3 d4 d5 k' (.tup []) s1) (o_4 σ0 id (c_2 v0 v1 v2 v3 c0 c1 c2 c3 c4 c) (b_w now dd pd) d0 d1 d2 d3 d4 d5 k' (.tup []) σ):=fun hk=>by
   refine bce (fun e=>?_) (fun e=>⟨rfl,by rw[hk,if_neg e];exact hI⟩)
   rw[if_pos e] at hk
   subst hk
   exact hend.mono fun q s h=>⟨h.1,rfl,h.2⟩
 intro R hR
 have goR:∀b,(b=true↔(rsG k.Routes r).State=2∨(rsG k.Routes r).State=3)→R b σ:=fun b hb=>hR b σ (by
   intro R1 hRR1
   have go1:∀b1,(b1=true↔((rsG k.Routes r).State=2∨(rsG k.Routes r).State=3)∧clr v.Occ (c.pathS r) =false)→R1 b1 σ:=fun b1 hb1=>hRR1 b1 σ (by
     refine bc (fun e1=>?_) (fun e1=>?_)
     · rw[if_pos (hb1.1 e1)] at hD
       subst hD
       refine ⟨trivial,_,_,_,rfl,_,a_e hI.row,now,rfl,hI.putR (y:= { rsG k.Routes r with State:=4 }) hst rfl (by simp) rfl fun s2 hI2 _=>?_⟩
       refine hI2.putR (x:= { rsG k.Routes r with State:=4 }) (y:= { rsG k.Routes r with State:=4,Since:=now }) (j:=r.toNat) (by show (k.Routes.set r.toNat _)[r.toNat]? =_;rw[List.getElem?_set,if_pos rfl,if_pos (by omega)]) rfl (by simp) rfl fun s3 hI3 _=>?_
       refine hI3.putR (x:= { rsG k.Routes r with State:=4,Since:=now }) (y:= { rsG k.Routes r with State:=4,Since:=now,Mark:=0 }) (j:=r.toNat) (by show ((k.Routes.set r.toNat _).set r.toNat _)[r.toNat]? =_;rw[List.getElem?_set,if_pos rfl,if_pos (by rw[List.length_set];omega)]) rfl (by simp) rfl fun s4 hI4 _=>⟨rfl,?_⟩
       have:k.setR r { rsG k.Routes r with State:=4,Since:=now,Mark:=0 } = { k with Routes:=((k.Routes.set r.toNat { rsG k.Routes r with State:=4 }).set r.toNat { rsG k.Routes r with State:=4,Since:=now }).set r.toNat { rsG k.Routes r with State:=4,Since:=now,Mark:=0 } } :=by
         rw[List.set_set,List.set_set];rfl
       rw[this];exact hI4
     · rw[if_neg (fun h=>by rw[hb1.2 h] at e1;cases e1)] at hD
       intro R2 hRR2
       have go2:∀b2,(b2=true↔(rsG k.Routes r).State=2∧k.ready c v r=false)→R2 b2 σ:=fun b2 hb2=>hRR2 b2 σ (by
         refine bc (fun e2=>?_) (fun e2=>?_)
         · rw[if_pos (hb2.1 e2)] at hD
           subst hD
           exact hI.putR (y:= { rsG k.Routes r with State:=3 }) hst rfl (by simp) rfl fun s2 hI2 _=>⟨rfl,hI2⟩
         · rw[if_neg (fun h=>by rw[hb2.2 h] at e2;cases e2)] at hD
           refine ⟨_,hR1,(rsG k.Routes r).State,rfl,bce (fun e3=>?_) (fun e3=>?_)⟩
           · refine ⟨trivial,_,_,_,rfl,_,a_e hI.row,dd,rfl,a_p (fun e4=>?_) (fun e4=>?_)⟩
             · refine hrdy.use ⟨_,rfl,bc (fun e5=>?_) (fun e5=>?_)⟩
               · rw[if_pos ⟨e3,e4,e5⟩] at hD
                 subst hD
                 exact hI.putR (y:= { rsG k.Routes r with State:=2 }) hst rfl (by simp) rfl fun s2 hI2 _=>⟨rfl,hI2⟩
               · rw[if_neg (fun h=>by rw[h.2.2] at e5;cases e5)] at hD
                 exact ⟨_,hR1,_,rfl,t4 hD⟩
             · rw[if_neg (fun h=>by rw[h.2.1] at e4;cases e4)] at hD
               exact ⟨_,hR1,_,rfl,t4 hD⟩
           · rw[if_neg (fun h=>e3 h.1)] at hD
             exact ⟨_,hR1,_,rfl,t4 hD⟩)
       refine ⟨_,hR1,(rsG k.Routes r).State,rfl,bce (fun e3=>hrdy.use ⟨_,rfl,go2 _ ?_⟩) (fun e3=>go2 _ ?_)⟩
       · constructor
         · intro h;exact ⟨e3,by simpa using h⟩
         · intro h;rw[h.2];rfl
       · constructor
         · intro h;cases h
         · intro h;exact absurd h.1 e3)
   refine bc (fun e=>?_) (fun e=>go1 _ ⟨fun h=>(by cases h),fun h=>(by rw[hb.2 h.1] at e;cases e)⟩)
   refine ⟨trivial,_,_,_,rfl,trivial,_,_,_,rfl,_,a_e hI.row,pd,rfl,hpat.load hprow r_u (Int.toNat_of_nonneg r0).symm ⟨qd,rfl,(h_5 hI.row (hv.mono hI.ext) hq hps).use ⟨_,rfl,go1 _ ⟨fun h=>⟨hb.1 e,by simpa using h⟩,fun h=>by rw[h.2];rfl⟩⟩⟩⟩)
 refine ⟨_,hR1,(rsG k.Routes r).State,rfl,bce (fun e=>goR _ ⟨fun _=> .inl e,fun _=>rfl⟩) (fun e=>⟨_,hR1,(rsG k.Routes r).State,rfl,goR _ ⟨fun h=> .inr (by simpa using h),fun h=>?_⟩⟩)⟩
 rcases h with h | h
 · exact absurd h e
 · simpa using h
end
end
section
variable {σ σ0:Store}
theorem a_u7 {c:Cf}{own:List Int}{now:Int}{w:List Mv}{j:Nat}{s:Int}(h:c.Xs[j]? =some s) :xsN c own now w (j+1) =(xsN c own now w j).set j (g_o (mvG (xsN c own now w j) j) now (if h_d own s=0 then 2 else 1)):=by rw[xsN,h]
section
variable {c0 c1 c2 c3 c4 v0 v1 v2 v3:D} {c:Cf} {v:Vw} (hc:∀s,CfAt s c0 c1 c2 c3 c4 c) {id:Nat} {d0 d1 d2 d3 d4 d5 pd:D} {k:Co} {now:Int} {dd:Bool}
include hc
theorem w_z (hI:CoIn σ0 σ id a_n (c_2 v0 v1 v2 v3 c0 c1 c2 c3 c4 c) (b_w now dd pd) d0 d1 d2 d3 d4 d5 k)(hf:FitIs c k) :
   DCalls prog e_b [.one (.el (.osl id 0 1) 0 0)] σ (o_4 σ0 id (c_2 v0 v1 v2 v3 c0 c1 c2 c3 c4 c) (b_w now dd pd) d0 d1 d2 d3 d4 d5 { k with Xs:=xsN c k.Own now k.Xs c.Xs.length }):=by
 have hok:=hf.chk
 have hxs:=q_y hok
 have hlo:=hf.lOwn
 have hlx:=hf.lXs
 refine m_t _ σ _ ⟨trivial,_,_,_,rfl,_,a_e hI.row,c3,rfl,(hc σ).xs.lenK ⟨fun n s=>∃j:Nat,n=j∧j≤c.Xs.length∧CoIn σ0 s id a_n (c_2 v0 v1 v2 v3 c0 c1 c2 c3 c4 c) (b_w now dd pd) d0 d1 d2 d3 d4 d5 { k with Xs:=xsN c k.Own now k.Xs j },
   fun n _=>c.Xs.length - n.toNat,⟨0,rfl,by omega,hI⟩,?_⟩⟩
 rintro n s ⟨j,rfl,hj,hI1⟩
 rw[List.length_map]
 refine bcd (fun hlt=>?_) (fun hge=>?_)
 · obtain ⟨q,hq⟩:=a_g (l:=c.Xs) (j:=j) (by omega)
   obtain ⟨z,hz,_⟩:=hxs.1 q (List.mem_of_getElem? hq)
   have hgz:=a_l hz
   have hln:=x_w (c:=c) (own:=k.Own) (now:=now) (w:=k.Xs) j
   have hm:=a_we (l:=xsN c k.Own now k.Xs j) (s:=(j:Int)) (by omega) (by omega)
   rw[Int.toNat_natCast] at hm
   have hsu:=a_u7 (own:=k.Own) (now:=now) (w:=k.Xs) hq
   have go : ∀ (cmd : Int) s1, cmd = (if h_d k.Own q = 0 then 2 else 1) → CoIn σ0 s1 id a_n (c_2 v0 v1 v2 v3 c0 c1 c2 c3 c4 c) (b_w now dd pd) d0 d1 d2 d3 d4 d5 { k with Xs := (xsN c k.Own now k.Xs j).set j (g_o (mvG (xsN c k.Own now k.Xs j) j) now cmd) } →
       (∃i:Nat,w64 ((j:Int) +1) =i∧i≤c.Xs.length∧CoIn σ0 s1 id a_n (c_2 v0 v1 v2 v3 c0 c1 c2 c3 c4 c) (b_w now dd pd) d0 d1 d2 d3 d4 d5 { k with Xs:=xsN c k.Own now k.Xs i })∧c.Xs.length - (w64 ((j:Int) +1)).toNat < c.Xs.length - ((j:Nat) :Int).toNat:=fun cmd s1 hcmd h=>by
     rw[a_m (by omega)]
     refine ⟨⟨j+1,rfl,by omega,?_⟩,c_9 (by omega)⟩
     rw[hsu,←hcmd];exact h
   have step : ∀ cmd : Int, cmd = (if h_d k.Own q = 0 then 2 else 1) → ∃ pre : List A → Store → Prop, ∃ post : List A → Store → RV → Store → Prop, h_k prog c_g pre post ∧ (a_f (.el (.osl id 0 1) 0 0)) ∧ ∃ (s2 : D) (i2 off2 : Nat), ((.el (.osl id 0 1) 0 0 : D) = (.el s2 i2 off2 : D)) ∧ ∃ row4 : List D, Row s s2 i2 row4 ∧ ∃ d2' : D, ((List.take 1 (List.drop ((off2 + 13) + 3) row4)) = ([d2'] : List D)) ∧ (a_f (.el (.osl id 0 1) 0 0)) ∧ ∃ (s3 : D) (i3 off3 : Nat), ((.el (.osl id 0 1) 0 0 : D) = (.el s3 i3 off3 : D)) ∧ ∃ row5 : List D, Row s s3 i3 row5 ∧ ∃ d3' : D, ((List.take 1 (List.drop ((off3 + 13) + 3) row5)) = ([d3'] : List D)) ∧
       ∃len3:Nat,Idx prog s d3' 2 len3∧(0:Int)≤(j:Int)∧(j:Int) < (len3:Int)∧∃row6:List D,Row s d3' (Int.toNat (j:Int)) row6∧∃n3 n4:Int,List.take 2 row6=[iD n3,iD n4]∧(a_f (.el (.osl id 0 1) 0 0))∧∃(s4:D) (i4 off4:Nat),((.el (.osl id 0 1) 0 0:D) =(.el s4 i4 off4:D))∧∃row7:List D,Row s s4 i4 row7∧∃n5:Int,List.take 1 (List.drop (off4+20) row7) =[iD n5]∧pre [.agg [iD n3,iD n4],iA n5,iA cmd] s∧
       ∀r:RV,∀s5:Store,post [.agg [iD n3,iD n4],iA n5,iA cmd] s r s5→∃n6 n7:Int,r= .a (.agg [iD n6,iD n7])∧∃len4:Nat,Idx prog s5 d2' 2 len4∧(0:Int)≤(j:Int)∧(j:Int) < (len4:Int)∧a_j [iD n6,iD n7] s5 d2' (Int.toNat (j:Int)) 0 (fun s1=>(∃i:Nat,w64 ((j:Int) +1) =i∧i≤c.Xs.length∧CoIn σ0 s1 id a_n (c_2 v0 v1 v2 v3 c0 c1 c2 c3 c4 c) (b_w now dd pd) d0 d1 d2 d3 d4 d5 { k with Xs:=xsN c k.Own now k.Xs i })∧c.Xs.length - (w64 ((j:Int) +1)).toNat < c.Xs.length - ((j:Nat) :Int).toNat):=fun cmd hcmd=>by
     refine ⟨a_em,s_1,x_3,trivial,_,_,_,rfl,_,a_e hI1.row,d3,rfl,trivial,_,_,_,rfl,_,a_e hI1.row,d3,rfl,hI1.at.xs.load (a_c hm) c_l rfl ⟨(mvG (xsN c k.Own now k.Xs j) j).Cmd,(mvG (xsN c k.Own now k.Xs j) j).Other,rfl,trivial,_,_,_,rfl,_,a_e hI1.row,now,rfl,⟨mvG (xsN c k.Own now k.Xs j) j,now,cmd,rfl⟩,?_⟩⟩
     intro q8 s8 hq8
     obtain ⟨rfl,rfl⟩:=y_e (m:=mvG (xsN c k.Own now k.Xs j) j) hq8
     refine ⟨_,_,rfl,hI1.at.xs.idxK c_l rfl (by simp only[List.length_map];omega) ?_⟩
     exact hI1.putX (k:= { k with Xs:=xsN c k.Own now k.Xs j }) (y:=g_o (mvG (xsN c k.Own now k.Xs j) j) now cmd) hm (by rw[Int.toNat_natCast]) (by simp) rfl fun s11 hI11 _=>go cmd s11 hcmd hI11
   refine (hc s).xs.load (a_c hq) c_int rfl ⟨q,rfl,trivial,_,_,_,rfl,_,a_e hI1.row,d0,rfl,hI1.at.own.load (a_c (w_y (l:=k.Own) hgz.1 (by omega))) c_int (Int.toNat_of_nonneg hgz.1).symm ⟨_,rfl,bce (fun e=>step 2 (by rw[if_pos e])) (fun e=>step 1 (by rw[if_neg e]))⟩⟩
 · have e:j=c.Xs.length:=by omega
   rw[e] at hI1
   exact ⟨rfl,hI1⟩
omit hc in
theorem a_dv (hv:VwB σ0 v0 v1 v2 v3 v)(hvf:v.fits c=true)(hI:CoIn σ0 σ id a_n (c_2 v0 v1 v2 v3 c0 c1 c2 c3 c4 c) (b_w now dd pd) d0 d1 d2 d3 d4 d5 k)(hf:FitIs c k) :
   DCalls prog f_h [.one (.el (.osl id 0 1) 0 0)] σ (o_4 σ0 id (c_2 v0 v1 v2 v3 c0 c1 c2 c3 c4 c) (b_w now dd pd) d0 d1 d2 d3 d4 d5 (rstN v k k.Resets.length)):=by
 have hvl:=a_rf hvf
 have hlr:=hf.lRes
 have hlo:=hf.lOwn
 have hsm:=a_y hf.chk
 refine q_q _ σ _ ⟨trivial,_,_,_,rfl,_,a_e hI.row,d5,rfl,hI.at.resets.lenK ⟨fun n s=>∃j:Nat,n=j∧j≤k.Resets.length∧CoIn σ0 s id a_n (c_2 v0 v1 v2 v3 c0 c1 c2 c3 c4 c) (b_w now dd pd) d0 d1 d2 d3 d4 d5 (rstN v k j),
   fun n _=>k.Resets.length - n.toNat,⟨0,rfl,by omega,hI⟩,?_⟩⟩
 rintro n s ⟨j,rfl,hj,hI1⟩
 rw[List.length_map]
 refine bcd (fun hlt=>?_) (fun hge=>?_)
 · have hr:=a_of (v:=v) (k:=k) j
   have hsu:rstN v k (j+1) =(rstN v k j).rstOne v j:=rfl
   generalize rstN v k j=k1 at *
   have h1:=hr.lRes
   have h2:=hr.lOwn
   have hz:=w_y (l:=k1.Resets) (s:=(j:Int)) (by omega) (by omega)
   have ho:=w_y (l:=k1.Own) (s:=(j:Int)) (by omega) (by omega)
   rw[Int.toNat_natCast] at hz ho
   have go : ∀ (k' : Co) s1, k' = k1.rstOne v j → CoIn σ0 s1 id a_n (c_2 v0 v1 v2 v3 c0 c1 c2 c3 c4 c) (b_w now dd pd) d0 d1 d2 d3 d4 d5 k' →
       (∃i:Nat,w64 ((j:Int) +1) =i∧i≤k.Resets.length∧CoIn σ0 s1 id a_n (c_2 v0 v1 v2 v3 c0 c1 c2 c3 c4 c) (b_w now dd pd) d0 d1 d2 d3 d4 d5 (rstN v k i))∧k.Resets.length - (w64 ((j:Int) +1)).toNat < k.Resets.length - ((j:Nat) :Int).toNat:=fun k' s1 hk h=>by
     rw[a_m (by omega)]
     refine ⟨⟨j+1,rfl,by omega,?_⟩,c_9 (by omega)⟩
     rw[hsu,←hk];exact h
   refine hI1.at.resets.load (a_c hz) c_int rfl ⟨_,rfl,bcd (fun e=>go k1 s (by rw[Co.rstOne,if_pos e]) hI1) (fun e=>?_)⟩
   refine ⟨trivial,_,_,_,rfl,_,a_e hI1.row,d0,rfl,hI1.at.own.load (a_c ho) c_int rfl ⟨_,rfl,bcn (fun e1=>?_) (fun e1=>?_)⟩⟩
   · refine ⟨trivial,_,_,_,rfl,_,a_e hI1.row,d5,rfl,hI1.at.resets.idxK c_int rfl (by rw[List.length_map];omega) ?_⟩
     exact hI1.putZ (y:=0) hz rfl (by simp) rfl fun s2 hI2 _=>go _ s2 (by rw[Co.rstOne,if_neg e,if_pos e1,Int.toNat_natCast]) hI2
   refine ⟨trivial,_,_,_,rfl,a_d fun i1 s1 hi1 _ he1 g1=>?_⟩
   have hI2:=hI1.mono he1
   have hc1:clr v.Occ [(j:Int)]=(lkG v.Occ j).clear:=by simp[clr]
   refine (h_5 hI2.row (hv.mono hI2.ext) (l:= [(j:Int)]) (At.fresh g1 (by simp) rfl) fun x hx=>by rw[List.mem_singleton] at hx;subst hx;omega).use ⟨_,rfl,bc (fun e2=>?_) (fun e2=>go k1 s1 ?_ hI2)⟩
   · rw[hc1] at e2
     refine ⟨trivial,_,_,_,rfl,_,a_e hI2.row,v0,rfl,(hv.occ s1 hI2.ext).load (a_c (a_kk (s:=(j:Int)) (by omega) (by omega))) v_t rfl ⟨(lkG v.Occ j).Stamp,rfl,bcd (fun e3=>?_) (fun e3=>go k1 s1 ?_ hI2)⟩⟩
     · refine (m_u hI2 (s:=(j:Int)) (by omega) (by omega)).mono ?_
       rintro q s2 ⟨rfl,hI3⟩
       refine ⟨rfl,trivial,_,_,_,rfl,_,a_e hI3.row,d5,rfl,hI3.at.resets.idxK c_int rfl (by rw[List.length_map];simp only;omega) ?_⟩
       refine hI3.putZ (k:= { k1 with Own:=k1.Own.set ((j:Int)).toNat 0,Dirty:=true }) (y:=0) hz rfl (by simp) rfl fun s4 hI4 _=>go _ s4 ?_ hI4
       rw[Co.rstOne,if_neg e,if_neg (by simpa using e1),if_pos ⟨e2,e3⟩,Int.toNat_natCast]
     · rw[Co.rstOne,if_neg e,if_neg (by simpa using e1),if_neg (fun h=>e3 h.2)]
   · rw[hc1] at e2
     rw[Co.rstOne,if_neg e,if_neg (by simpa using e1),if_neg (fun h=>by rw[h.1] at e2;cases e2)]
 · have e:j=k.Resets.length:=by omega
   rw[e] at hI1
   exact ⟨rfl,hI1⟩
/-! the signals, as a call that is told -/
def a_yc (id:Nat)(row:List D)(d1:D)(rs:List Rs)(xs:List A)(s:Store) :Prop:=xs=[.one (.el (.osl id 0 1) 0 0)]∧s id= .live a_n [row]∧At prog s c_q d1 (rs.map Rs.enc)
def a_s6 (c:Cf)(rs:List Rs)(xs:List A)(s:Store)(r:RV)(s':Store) :Prop:=∃i,s i= .free∧r= .a (.one (.osl i 0 c.Sigs.length))∧s'=s.set i (.live a_i ((i_k c rs c.Rts.length).map Go.Fw.encI))
omit hc in
theorem set_set (s:Store)(i:Nat)(a b:SO) :(s.set i a).set i b=s.set i b:=by
 funext j
 by_cases e:j=i
 · subst e;rw[Store.set_same,Store.set_same]
 · rw[Store.set_ne _ _ e,Store.set_ne _ _ e,Store.set_ne _ _ e]
theorem a_aa {post:List D}{rs:List Rs}(hok:c.check=0)(hl:rs.length=c.Rts.length)
   (hrow:σ id= .live a_n [c_2 v0 v1 v2 v3 c0 c1 c2 c3 c4 c ++ ([d0,d1,d2,d3,d4,d5, .bool k.Dirty] ++ post)]) (hrs:At prog σ c_q d1 (rs.map Rs.enc)) :
   DCalls prog d_h [.one (.el (.osl id 0 1) 0 0)] σ (a_s6 c rs [.one (.el (.osl id 0 1) 0 0)] σ):=by
 have hsm:=a_y hok
 obtain ⟨rows,hat,hlen,hrow4⟩:=g_m fun s=>(hc s).rts
 refine p_f _ σ _ ⟨trivial,_,_,_,rfl,_,a_e hrow,c2,rfl,(hc σ).sigs.lenK ⟨by omega,by omega,by rw[List.length_map];omega,a_d fun i s1 hi hs1 he1 g1=>?_⟩⟩
 rw[List.length_map,Int.toNat_natCast] at hs1 g1 ⊢
 have hne:id≠i:=fun e=>by rw[←e,hrow] at hi;cases hi
 refine ⟨trivial,_,_,_,rfl,_,a_e (a_1 hrow he1),c4,rfl,(hat s1).lenK ?_⟩
 rw[hlen]
 refine ⟨fun n s=>∃j:Nat,n=j∧j≤c.Rts.length∧s=σ.set i (.live a_i ((i_k c rs j).map Go.Fw.encI)),fun n _=>c.Rts.length - n.toNat,⟨0,rfl,by omega,by rw[hs1,i_k,List.map_replicate];rfl⟩,?_⟩
 rintro n s ⟨j,rfl,hj,hs⟩
 have he:Ext σ s:=by rw[hs];exact Ext.new hi _
 have hg:s i= .live a_i ((i_k c rs j).map Go.Fw.encI):=by rw[hs];exact Store.set_same _ _ _
 refine bcd (fun hlt=>?_) (fun hge=>?_)
 · obtain ⟨x,hx⟩:=a_g (l:=c.Rts) (j:=j) (by omega)
   obtain ⟨row,hrw⟩:=a_g (l:=rows) (j:=j) (by omega)
   obtain ⟨q1,q2,q3,rfl,_⟩:=hrow4 j row x hrw hx
   obtain ⟨y,hy⟩:=a_g (l:=rs) (j:=j) (by omega)
   have hyG:rsG rs (j:Int) =y:=by unfold rsG;rw[d_s,hy];rfl
   have hxr:c.rt (j:Int) =x:=a_v1 (by omega) (by rw[Int.toNat_natCast];exact hx)
   obtain ⟨a,ha⟩:=(a_7 hok (List.mem_of_getElem? hx)).entry
   have hga:=a_l ha
   have hsu:i_k c rs (j+1) =if y.State=2 then (i_k c rs j).set x.Entry.toNat (max (h_d (i_k c rs j) x.Entry) (if x.Shunt=true then 1 else 2)) else i_k c rs j:=by rw[i_k,hyG,hxr]
   have hal:=a_gk (c:=c) (rs:=rs) j
   have go:∀s2,s2=σ.set i (.live a_i ((i_k c rs (j+1)).map Go.Fw.encI))→(∃j':Nat,w64 ((j:Int) +1) =j'∧j'≤c.Rts.length∧s2=σ.set i (.live a_i ((i_k c rs j').map Go.Fw.encI)))∧c.Rts.length - (w64 ((j:Int) +1)).toNat < c.Rts.length - ((j:Nat) :Int).toNat:=fun s2 h=>by
     rw[a_m (by omega)]
     exact ⟨⟨j+1,rfl,by omega,h⟩,c_9 (by omega)⟩
   refine (hat s).load hrw c_p rfl ⟨x.Entry,x.Exit,q1,q2,q3,x.Shunt,rfl,trivial,_,_,_,rfl,_,a_e (a_1 hrow he),d1,rfl,(hrs.ext he).load (a_c hy) a_x rfl ⟨y.State,rfl,bcn (fun e=>go s ?_) (fun e=>?_)⟩⟩
   · rw[hsu,if_neg e];exact hs
   rw[if_pos e] at hsu
   have ho:=w_y (l:=i_k c rs j) hga.1 (by omega)
   have hatI:At prog s a_i (.osl i 0 c.Sigs.length) ((i_k c rs j).map Go.Fw.encI):=At.fresh hg (by rw[List.length_map,hal];omega) (by rw[List.length_map,hal])
   have put:∀m:Int,m=max (h_d (i_k c rs j) x.Entry) (if x.Shunt=true then 1 else 2)→a_j [iD m] s (.osl i 0 c.Sigs.length) x.Entry.toNat 0 (fun s2=>(∃j':Nat,w64 ((j:Int) +1) =j'∧j'≤c.Rts.length∧s2=σ.set i (.live a_i ((i_k c rs j').map Go.Fw.encI)))∧c.Rts.length - (w64 ((j:Int) +1)).toNat < c.Rts.length - ((j:Nat) :Int).toNat):=fun m hm=>by
     refine ⟨i,0,c.Sigs.length,a_i,(i_k c rs j).map Go.Fw.encI,Go.Fw.encI (h_d (i_k c rs j) x.Entry),rfl,by omega,hg,by rw[Nat.zero_add];exact a_c ho,by simp[Go.Fw.encI],go _ ?_⟩
     rw[hsu,hs,set_set,Nat.zero_add,←hm,←map_set]
     rfl
   refine bc (fun e1=>?_) (fun e1=>?_)
   · refine hatI.load (a_c ho) c_int (Int.toNat_of_nonneg hga.1).symm ⟨_,rfl,hatI.idxK c_int (Int.toNat_of_nonneg hga.1).symm (by rw[List.length_map];omega) (put _ ?_)⟩
     rw[show (if x.Shunt=true then (1:Int) else 2) =1 from if_pos e1];split <;> omega
   · refine hatI.load (a_c ho) c_int (Int.toNat_of_nonneg hga.1).symm ⟨_,rfl,hatI.idxK c_int (Int.toNat_of_nonneg hga.1).symm (by rw[List.length_map];omega) (put _ ?_)⟩
     rw[show (if x.Shunt=true then (1:Int) else 2) =2 from if_neg (by rw[e1];decide)];split <;> omega
 · have e:j=c.Rts.length:=by omega
   subst e
   exact ⟨i,hi,rfl,hs⟩
theorem a_vs {post:List D}{rs:List Rs}(hok:c.check=0)(hl:rs.length=c.Rts.length) :
   h_k prog d_h (a_yc id (c_2 v0 v1 v2 v3 c0 c1 c2 c3 c4 c ++ ([d0,d1,d2,d3,d4,d5, .bool k.Dirty] ++ post)) d1 rs) (a_s6 c rs):=by
 refine ⟨?_,?_,?_,?_,?_⟩
 · rintro xs s ⟨rfl,h1,h2⟩
   exact (a_aa hc hok hl h1 h2)
 · rintro xs s ⟨rfl,h1,h2⟩ ⟨N,hN⟩
   exact ⟨_,_,⟨N,hN N (Nat.le_refl _),rfl,rfl⟩,Fin.set' ⟨N,hN⟩ _ _⟩
 · rintro xs s r s' ⟨i,h3,rfl,rfl⟩ hf
   exact hf.set' _ _
 · rintro xs s i so hi hso ⟨rfl,h1,h2⟩
   have he:=Ext.new hi so
   refine ⟨⟨rfl,a_1 h1 he,h2.ext he⟩,?_⟩
   rintro r s' ⟨i',g3,rfl,rfl⟩
   have hne:i'≠i:=fun e=>by subst e;rw[Store.set_same] at g3;exact hso g3
   rw[Store.set_ne _ _ hne] at g3
   refine ⟨s.set i' (.live a_i ((i_k c rs c.Rts.length).map Go.Fw.encI)),⟨i',g3,rfl,rfl⟩,?_,a_g6 (Ne.symm hne) _ _⟩
   rw[Store.set_ne _ _ (Ne.symm hne)];exact hi
 · rintro xs s r s' _ ⟨i',h3,rfl,rfl⟩ j hj
   exact Store.set_ne _ _ (fun e=>hj (e ▸ h3))
end
end
section
variable {σ σ0:Store}
theorem n_r {k0 k1 k2 k3 k4 k5:D}{k:Co}(hk:CoAt σ k0 k1 k2 k3 k4 k5 k)(hf:CoFit k0 k1 k2 k3 k4 k5 k) :
   DCalls prog d_a [coA k0 k1 k2 k3 k4 k5 k.Dirty] σ fun r s=>∃d0 d1 d2 d3 d4 d5,r= .a (coA d0 d1 d2 d3 d4 d5 k.Dirty)∧CoOwn σ s d0 d1 d2 d3 d4 d5 k:=by
 refine a_d4 k0 k1 k2 k3 k4 k5 k.Dirty σ _ ((d_6 hk.own hf.n0 (by rw[List.length_map];exact hf.b0)).mono ?_)
 rintro r s0 ⟨d0,rfl,o0⟩
 have e0:=o0.ext
 refine ⟨d0,rfl,(g_g (hk.routes.ext e0) hf.n1 (by rw[List.length_map];exact hf.b1)).mono ?_⟩
 rintro r s1 ⟨d1,rfl,o1⟩
 have e1:=e0.trans o1.ext
 refine ⟨d1,rfl,(e_n (hk.points.ext e1) hf.n2 (by rw[List.length_map];exact hf.b2)).mono ?_⟩
 rintro r s2 ⟨d2,rfl,o2⟩
 have e2:=e1.trans o2.ext
 refine ⟨d2,rfl,(e_n (hk.xs.ext e2) hf.n3 (by rw[List.length_map];exact hf.b3)).mono ?_⟩
 rintro r s3 ⟨d3,rfl,o3⟩
 have e3:=e2.trans o3.ext
 refine ⟨d3,rfl,(g_1 (hk.lines.ext e3) hf.n4 (by rw[List.length_map];exact hf.b4)).mono ?_⟩
 rintro r s4 ⟨d4,rfl,o4⟩
 have e4:=e3.trans o4.ext
 refine ⟨d4,rfl,(d_6 (hk.resets.ext e4) hf.n5 (by rw[List.length_map];exact hf.b5)).mono ?_⟩
 rintro r s5 ⟨d5,rfl,o5⟩
 have x1:=o0.ext' o1.ext
 have x2:=x1.ext' o2.ext
 have x3:=x2.ext' o3.ext
 have x4:=x3.ext' o4.ext
 have y1:=o1.from e0
 have y2:=y1.ext' o2.ext
 have y3:=y2.ext' o3.ext
 have y4:=y3.ext' o4.ext
 have z2:=o2.from e1
 have z3:=z2.ext' o3.ext
 have z4:=z3.ext' o4.ext
 have u3:=o3.from e2
 have u4:=u3.ext' o4.ext
 have w4:=o4.from e3
 refine ⟨d5,rfl,d0,d1,d2,d3,d4,d5,rfl,x4.ext' o5.ext,y4.ext' o5.ext,z4.ext' o5.ext,u4.ext' o5.ext,w4.ext' o5.ext,o5.from e4,?_⟩
 simp only[List.pairwise_cons,List.mem_cons,List.not_mem_nil,or_false,forall_eq_or_imp,forall_eq,List.Pairwise.nil,and_true,false_imp_iff,implies_true]
 exact ⟨⟨o1.apart o0.at_,o2.apart x1.at_,o3.apart x2.at_,o4.apart x3.at_,o5.apart x4.at_⟩,⟨o2.apart y1.at_,o3.apart y2.at_,o4.apart y3.at_,o5.apart y4.at_⟩,⟨o3.apart z2.at_,o4.apart z3.at_,o5.apart z4.at_⟩,⟨o4.apart u3.at_,o5.apart u4.at_⟩,o5.apart w4.at_⟩
theorem a_na (s:Store)(S:Nat→Prop) :∃τ:Store,(∀i,S i→τ i= .free)∧∀i,¬S i→τ i=s i:=by
 have h:∀i,∃b:SO,(S i→b= .free)∧(¬S i→b=s i):=fun i=>by
   by_cases hs:S i
   · exact ⟨.free,fun _=>rfl,fun h=>absurd hs h⟩
   · exact ⟨s i,fun h=>absurd h hs,fun _=>rfl⟩
 obtain ⟨f,hf⟩:=Classical.axiomOfChoice h
 exact ⟨f,fun i=>(hf i).1,fun i=>(hf i).2⟩
def Hid (id:Nat)(d0 d1 d2 d3 d4 d5:D)(i:Nat) :Prop:=i=id∨∃d ∈ [d0,d1,d2,d3,d4,d5],a_5 d=some i
theorem Own.base {τ s:Store}{el:TypeId}{d:D}{rs:List (List D)}(h:Own prog σ0 s el d rs)(he:Ext τ s)(hn:∀i,a_5 d=some i→τ i= .free) :Own prog τ s el d rs:=
 ⟨h.at_,he,fun id i len e=>hn id (by subst e;rfl),h.nsl,h.nz⟩
theorem a_gq {τ s:Store}{S:Nat→Prop}(h1:∀i,S i→τ i= .free)(h2:∀i,¬S i→τ i=s i) :Ext τ s:=fun i hi=>by
 by_cases hs:S i
 · exact absurd (h1 i hs) hi
 · exact (h2 i hs).symm
theorem d_o {s:Store}{el:TypeId}{d:D}{rs:List (List D)}(h:At prog s el d rs){i:Nat}(hi:a_5 d=some i) :s i≠ .free:=by
 cases d with
 | osl id a n=>
   have e:id=i:=by simpa[a_5] using hi
   subst e
   obtain ⟨t,rows,g1,_⟩:=h.rows
   rw[g1];intro e;cases e
 | _=>simp[a_5] at hi
section
variable {id:Nat} {t:TypeId} {pre post:List D} {d0 d1 d2 d3 d4 d5:D} {k:Co}
theorem CoIn.base {τ s:Store}(h:CoIn σ0 s id t pre post d0 d1 d2 d3 d4 d5 k)(he:Ext τ s)(hn:∀i,Hid id d0 d1 d2 d3 d4 d5 i→τ i= .free) :CoIn τ s id t pre post d0 d1 d2 d3 d4 d5 k:=
 ⟨hn id (.inl rfl),h.row,⟨Own.base h.co.own he fun i hi=>hn i (.inr ⟨d0,by simp,hi⟩),Own.base h.co.routes he fun i hi=>hn i (.inr ⟨d1,by simp,hi⟩),Own.base h.co.points he fun i hi=>hn i (.inr ⟨d2,by simp,hi⟩),
   Own.base h.co.xs he fun i hi=>hn i (.inr ⟨d3,by simp,hi⟩),Own.base h.co.lines he fun i hi=>hn i (.inr ⟨d4,by simp,hi⟩),Own.base h.co.resets he fun i hi=>hn i (.inr ⟨d5,by simp,hi⟩),h.co.apart⟩,h.ids⟩
theorem CoIn.hid {s:Store}(h:CoIn σ0 s id t pre post d0 d1 d2 d3 d4 d5 k){i:Nat}(hi:Hid id d0 d1 d2 d3 d4 d5 i) :s i≠ .free∧σ0 i= .free:=by
 rcases hi with rfl | ⟨d,hd,hi⟩
 · exact ⟨(by rw[h.row];intro e;cases e),h.new⟩
 · simp only[List.mem_cons,List.not_mem_nil,or_false] at hd
   rcases hd with rfl | rfl | rfl | rfl | rfl | rfl
   · exact ⟨d_o h.co.own.at_ hi,m_b h.co.own hi⟩
   · exact ⟨d_o h.co.routes.at_ hi,m_b h.co.routes hi⟩
   · exact ⟨d_o h.co.points.at_ hi,m_b h.co.points hi⟩
   · exact ⟨d_o h.co.xs.at_ hi,m_b h.co.xs hi⟩
   · exact ⟨d_o h.co.lines.at_ hi,m_b h.co.lines hi⟩
   · exact ⟨d_o h.co.resets.at_ hi,m_b h.co.resets hi⟩
theorem CoIn.keep {s s':Store}(h:CoIn σ0 s id t pre post d0 d1 d2 d3 d4 d5 k)(he:Ext σ0 s')(hs:∀i,Hid id d0 d1 d2 d3 d4 d5 i→s' i=s i) :CoIn σ0 s' id t pre post d0 d1 d2 d3 d4 d5 k:=by
 have al:∀{d:D} {el:TypeId} {rs:List (List D)},d ∈ [d0,d1,d2,d3,d4,d5]→Own prog σ0 s el d rs→Own prog σ0 s' el d rs:=fun hd g=>
   ⟨g.at_.same fun i a n e=>hs i (.inr ⟨_,hd,by subst e;rfl⟩),he,g.new,g.nsl,g.nz⟩
 exact ⟨h.new,by rw[hs id (.inl rfl)];exact h.row,⟨al (by simp) h.co.own,al (by simp) h.co.routes,al (by simp) h.co.points,al (by simp) h.co.xs,al (by simp) h.co.lines,al (by simp) h.co.resets,h.co.apart⟩,h.ids⟩
end
def a_ve (σ:Store)(v0 v1 v2 v3 c0 c1 c2 c3 c4:D)(c:Cf)(k:Co)(v:Vw)(now:Int)(r:RV)(s:Store) :Prop:=
 ((k.fits c=false∨v.fits c=false)∧r= .tup [.one .nilp,bA false]∧s=σ)∨
 (k.fits c=true∧v.fits c=true∧∃(id:Nat) (d0 d1 d2 d3 d4 d5 pd:D) (σ1:Store),r= .tup [.one (.el (.osl id 0 1) 0 0),bA true]∧Ext σ σ1∧
   CoIn σ1 s id a_n (c_2 v0 v1 v2 v3 c0 c1 c2 c3 c4 c) (b_w now k.Dirty pd) d0 d1 d2 d3 d4 d5 k∧Paths σ1 pd c)
structure PathsTo (σ τ s:Store) (pd:D) (rows:List (List D)) (c:Cf) (j:Nat) (H:Nat→Prop) :Prop where
 ext:Ext σ τ
 own:Own prog τ s n_z pd rows
 len:rows.length=j
 rows:∀(i:Nat) x,i < j→c.Rts[i]? =some x→∃qd,rows[i]? =some [qd]∧At prog τ a_i qd ((x.Path.map St.Sec).map Go.Fw.encI)
 apart:∀i,a_5 pd=some i→¬H i
section
variable {c0 c1 c2 c3 c4 v0 v1 v2 v3:D} {c:Cf} {v:Vw} (hc:∀s,CfAt s c0 c1 c2 c3 c4 c) (hv:VwB σ v0 v1 v2 v3 v)
include hc hv
theorem a_cw {k0 k1 k2 k3 k4 k5:D}{k:Co}(hk:CoAt σ k0 k1 k2 k3 k4 k5 k)(hkf:CoFit k0 k1 k2 k3 k4 k5 k)(now:Int) :
   DCalls prog l_f [cfA c0 c1 c2 c3 c4 c,coA k0 k1 k2 k3 k4 k5 k.Dirty, .agg [v0,v1,v2,v3],iA now] σ (a_ve σ v0 v1 v2 v3 c0 c1 c2 c3 c4 c k v now):=by
 refine a_g9 _ _ _ _ _ _ _ _ _ k0 k1 k2 k3 k4 k5 k.Dirty v0 v1 v2 v3 now σ _ ?_
 intro R hR
 have novf:¬(v.Occ.length=c.Secs.length∧v.Pos.length=c.Secs.length∧v.Shut.length=c.Xs.length∧v.Lamp.length=c.Sigs.length)→a_ve σ v0 v1 v2 v3 c0 c1 c2 c3 c4 c k v now (.tup [.one .nilp, .one (.bool false)]) σ:=fun h=> .inl ⟨.inr (decide_eq_false h),rfl,rfl⟩
 refine (f_a hc hk).use ⟨_,rfl,a_p (fun e=> .inl ⟨.inl e,rfl,rfl⟩) (fun hfit=>(hv.occ σ (.refl _)).lenK ((hc σ).secs.lenK ?_))⟩
 rw[List.length_map,List.length_map]
 refine bcn (fun e=>novf fun h=>e (by omega)) (fun e1=>(hv.pos σ (.refl _)).lenK ((hc σ).secs.lenK ?_))
 rw[List.length_map,List.length_map]
 refine bcn (fun e=>novf fun h=>e (by omega)) (fun e2=>(hv.shut σ (.refl _)).lenK ((hc σ).xs.lenK ?_))
 rw[List.length_map,List.length_map]
 refine bcn (fun e=>novf fun h=>e (by omega)) (fun e3=>(hv.lamp σ (.refl _)).lenK ((hc σ).sigs.lenK ?_))
 rw[List.length_map,List.length_map]
 refine bcn (fun e=>novf fun h=>e (by omega)) (fun e4=>hR σ ?_)
 have hvf:v.fits c=true:=decide_eq_true ⟨by omega,by omega,by omega,by omega⟩
 have hfi:=fits_iff.1 hfit
 have hok:=hfi.chk
 have hsm:=a_y hok
 clear novf hR
 refine (n_r hk hkf).mono ?_
 rintro r s1 ⟨d0,d1,d2,d3,d4,d5,rfl,hco⟩
 refine ⟨_,_,_,_,_,_,_,rfl,a_d fun id s2 hid _ he2 g2=>?_⟩
 obtain ⟨rows,hat,hlen,hrow⟩:=g_m fun s=>(hc s).rts
 have hidσ:σ id= .free:=by
   by_cases hf:σ id= .free
   · exact hf
   · have:=hco.own.ext id hf;rw[hid] at this;exact this.symm
 have hlv:∀d ∈ [d0,d1,d2,d3,d4,d5],a_5 d≠some id:=fun d hd hi=>by
   simp only[List.mem_cons,List.not_mem_nil,or_false] at hd
   rcases hd with rfl | rfl | rfl | rfl | rfl | rfl
   · exact d_o hco.own.at_ hi hid
   · exact d_o hco.routes.at_ hi hid
   · exact d_o hco.points.at_ hi hid
   · exact d_o hco.xs.at_ hi hid
   · exact d_o hco.lines.at_ hi hid
   · exact d_o hco.resets.at_ hi hid
 have hI0:CoIn σ s2 id a_n (c_2 v0 v1 v2 v3 c0 c1 c2 c3 c4 c) (b_w now k.Dirty .nils) d0 d1 d2 d3 d4 d5 k:=⟨hidσ,g2,hco.ext' he2,hlv⟩
 obtain ⟨τ0,t1,t2⟩:=a_na s2 (Hid id d0 d1 d2 d3 d4 d5)
 have hx0:=a_gq t1 t2
 have hσ0:Ext σ τ0:=fun i hi=>by
   rw[t2 i (fun h=>hi (hI0.hid h).2)];exact hI0.ext i hi
 refine (hat s2).lenK ⟨fun n s=>∃(j:Nat) (pd:D) (τ:Store) (rs:List (List D)),n=j∧j≤c.Rts.length∧CoIn τ s id a_n (c_2 v0 v1 v2 v3 c0 c1 c2 c3 c4 c) (b_w now k.Dirty pd) d0 d1 d2 d3 d4 d5 k∧PathsTo σ τ s pd rs c j (Hid id d0 d1 d2 d3 d4 d5),
   fun n _=>c.Rts.length - n.toNat,⟨0, .nils,τ0,[],rfl,by omega,hI0.base hx0 t1,hσ0, .nil _ hx0,rfl,fun i x h=>by omega,fun i h=>by cases h⟩,?_⟩
 rw[hlen]
 rintro n s ⟨j,pd,τ,rs,rfl,hj,hI,hP⟩
 refine bcd (fun hlt=>?_) (fun hge=>?_)
 · obtain ⟨x,hx⟩:=a_g (l:=c.Rts) (j:=j) (by omega)
   obtain ⟨row,hrw⟩:=a_g (l:=rows) (j:=j) (by omega)
   obtain ⟨q1,q2,q3,rfl,f1,f2,f3⟩:=hrow j row x hrw hx
   have hpl:=(a_7 hok (List.mem_of_getElem? hx)).len
   refine (hat s).load hrw c_p rfl ⟨x.Entry,x.Exit,q1,q2,q3,x.Shunt,rfl,(f1 s).lenK ⟨fun d n s'=>∃i:Nat,n=i∧i≤x.Path.length∧Own prog s s' a_i d (((x.Path.take i).map St.Sec).map Go.Fw.encI),fun _ n _=>x.Path.length - n.toNat,⟨0,rfl,by omega,by simpa using Own.nil (P:=prog) (el:=a_i) s (Ext.refl s)⟩,?_⟩⟩
   rintro d9 n s' ⟨i,rfl,hi,ho⟩
   rw[List.length_map]
   refine bcd (fun hlt=>?_) (fun hge=>?_)
   · obtain ⟨y,hy⟩:=a_g (l:=x.Path) (j:=i) (by omega)
     refine (f1 s').load (a_c hy) g_f rfl ⟨y.Sec,y.In,y.Out,rfl,a_d fun i1 s3 hi1 _ he3 g3=>?_⟩
     refine (ho.ext' he3).append (At.fresh g3 (by simp) rfl) (by simp;omega) (by simp;omega) fun d' s4 ho' _ _=>?_
     rw[a_m (by omega)]
     refine ⟨⟨i+1,rfl,by omega,?_⟩,c_9 (by omega)⟩
     rw[List.take_add_one,hy,List.map_append,List.map_append];exact ho'
   have e:i=x.Path.length:=by omega
   rw[e,List.take_length] at ho
   have hI1:=hI.mono ho.ext
   have hpo:=hP.own.ext' ho.ext
   obtain ⟨τ',t1,t2⟩:=a_na s' (fun i=>Hid id d0 d1 d2 d3 d4 d5 i∨a_5 pd=some i)
   have hx:=a_gq t1 t2
   have hττ:Ext τ τ':=fun i hi=>by
     rw[t2 i (fun h=>hi (h.elim (fun h=>(hI1.hid h).2) (fun h=>m_b hpo h)))];exact hpo.ext i hi
   have hI2:=hI1.base hx fun i h=>t1 i (.inl h)
   have hp2:=Own.base hpo hx fun i h=>t1 i (.inr h)
   have hd9:At prog τ' a_i d9 ((x.Path.map St.Sec).map Go.Fw.encI):=ho.at_.same fun i a n e=>t2 i fun h=>by
     have hn:s i= .free:=m_b ho (by subst e;rfl)
     rcases h with h | h
     · exact (hI.hid h).1 hn
     · exact d_o hP.own.at_ h hn
   refine ⟨_,a_e hI1.row,pd,rfl,a_d fun i1 s5 hi1 _ he5 g5=>?_⟩
   refine (hp2.ext' he5).append (At.fresh g5 (by simp) rfl) (by simp[hP.len];omega) (by simp[hP.len];omega) fun pd' s6 ho6 h1 h2=>?_
   have hI5:=hI2.mono he5
   have hI6:=hI5.keep ho6.ext fun i hi=>h1 i (hI5.hid hi).1 fun a b e=>hP.apart i (by rw[e];rfl) hi
   have hap:∀i,a_5 pd'=some i→¬Hid id d0 d1 d2 d3 d4 d5 i:=fun i hi hh=>by
     cases pd' with
     | osl i' a b=>
       have e:i'=i:=by simpa[a_5] using hi
       subst e
       rcases h2 _ _ _ rfl with h | ⟨a',b',h⟩
       · exact (hI5.hid hh).1 h
       · exact hP.apart i' (by rw[h];rfl) hh
     | _=>simp[a_5] at hi
   refine b_i hI6.row (by simp) fun s7 h7 hs7=>?_
   rw[a_m (by omega)]
   have hpd7:=a_h ho6 hI6.new (fun h=>hap id h (.inl rfl)) hs7
   have al:∀{d:D} {el:TypeId} {rs:List (List D)},d ∈ [d0,d1,d2,d3,d4,d5]→Own prog τ' s6 el d rs→Own prog τ' s7 el d rs:=fun hd g=>a_h g hI6.new (hI6.ids _ hd) hs7
   refine ⟨⟨j+1,pd',τ',rs ++ [[d9]],rfl,by omega,⟨hI6.new,h7,⟨al (by simp) hI6.co.own,al (by simp) hI6.co.routes,al (by simp) hI6.co.points,al (by simp) hI6.co.xs,al (by simp) hI6.co.lines,al (by simp) hI6.co.resets,hI6.co.apart⟩,hI6.ids⟩,hP.ext.trans hττ,hpd7,by simp[hP.len],fun i y hi hy=>?_,hap⟩,c_9 (by omega)⟩
   by_cases e:i < j
   · obtain ⟨qd,a1,a2⟩:=hP.rows i y e hy
     exact ⟨qd,by rw[List.getElem?_append_left (by rw[hP.len];exact e)];exact a1,a2.ext hττ⟩
   · have e:i=j:=by omega
     subst e
     have hxy:c.Rts[i]? =some x:=by assumption
     rw[hxy] at hy;cases hy
     exact ⟨d9,by rw[List.getElem?_append_right (Nat.le_of_eq hP.len),hP.len,Nat.sub_self];rfl,hd9⟩
 · have e:j=c.Rts.length:=by omega
   subst e
   obtain ⟨τ',t1,t2⟩:=a_na s (Hid id d0 d1 d2 d3 d4 d5)
   have hx:=a_gq t1 t2
   have hττ:Ext τ τ':=fun i hi=>by
     rw[t2 i (fun h=>hi (hI.hid h).2)];exact hI.ext i hi
   refine .inr ⟨hfit,hvf,id,d0,d1,d2,d3,d4,d5,pd,τ',rfl,hP.ext.trans hττ,hI.base hx t1,rs,hP.own.at_.same fun i a n e=>t2 i (hP.apart i (by subst e;rfl)),fun i x hx=>?_⟩
   obtain ⟨qd,a1,a2⟩:=hP.rows i x (List.getElem?_eq_some_iff.1 hx).1 hx
   exact ⟨qd,a1,a2.ext hττ⟩
end
end
section
variable {σ σ0:Store}
def a_s8 (σ:Store)(p:Co × List Int × Int)(r:RV)(s:Store) :Prop:=
 ∃d0 d1 d2 d3 d4 d5 d6,r= .tup [coA d0 d1 d2 d3 d4 d5 p.1.Dirty, .one d6,iA p.2.2]∧CoOwn σ s d0 d1 d2 d3 d4 d5 p.1∧At prog s a_i d6 (p.2.1.map Go.Fw.encI)∧∀id i len,d6= .osl id i len→σ id= .free
def a_vp (σ:Store)(p:Co × List Int × Int)(r:RV)(s:Store) :Prop:=
 s=σ∧∃d0 d1 d2 d3 d4 d5 d6,r= .tup [coA d0 d1 d2 d3 d4 d5 p.1.Dirty, .one d6,iA p.2.2]∧CoFz d0 d1 d2 d3 d4 d5 p.1∧∀s,At prog s a_i d6 (p.2.1.map Go.Fw.encI)
theorem a_ug {f:FuncId}{xs:List A}{p:Co × List Int × Int}(h:DCalls prog f xs σ (a_s8 σ p)) :DCalls prog f xs σ (a_vp σ p):=by
 refine h.ret ?_
 rintro r s ⟨d0,d1,d2,d3,d4,d5,d6,rfl,hco,ha,hn⟩
 obtain ⟨e0,e1,e2,e3,e4,e5,hfz,hz⟩:=a_qu hco
 obtain ⟨e6,hf6,h6⟩:=s_8 ha hco.own.ext hn (h_g _ flat_co.1 _)
 refine ⟨.tup [coA e0 e1 e2 e3 e4 e5 p.1.Dirty, .one e6,iA p.2.2],σ, .pure hco.own.ext ⟨rfl,fun i x y h1 h2=>?_⟩,rfl,_,_,_,_,_,_,_,rfl,hz,h6⟩
 rcases i with _ | _ | _ | i
 · simp at h1 h2;subst h1 h2;exact hfz
 · simp at h1 h2;subst h1 h2;exact hf6
 · simp at h1 h2;subst h1 h2;exact .int _ _
 · simp at h1
section
variable {c0 c1 c2 c3 c4 v0 v1 v2 v3:D} {c:Cf} {v:Vw} (hc:∀s,CfAt s c0 c1 c2 c3 c4 c) (hz:u_4 c4) (hv:VwB σ v0 v1 v2 v3 v)
include hc hz hv
theorem a_hr {k0 k1 k2 k3 k4 k5:D}{k:Co}(hk:CoAt σ k0 k1 k2 k3 k4 k5 k)(hkf:CoFit k0 k1 k2 k3 k4 k5 k)(now:Int) :
   DCalls prog g_t [cfA c0 c1 c2 c3 c4 c,coA k0 k1 k2 k3 k4 k5 k.Dirty, .agg [v0,v1,v2,v3],iA now] σ (a_s8 σ (k.stepK c v now)):=by
 have cpy:∀(s:Store) (e:Int),Ext σ s→k.stepK c v now=(k,[],e)→DCalls prog d_a [coA k0 k1 k2 k3 k4 k5 k.Dirty] s fun r1 s1=>∃d1 d2 d3 d4 d5 d6:D,∃b1:Bool,r1= .a (.agg [d1,d2,d3,d4,d5,d6, .bool b1])∧a_s8 σ (k.stepK c v now) (.tup [.agg [d1,d2,d3,d4,d5,d6, .bool b1], .one .nils,iA e]) s1:=fun s e he hs=>by
   refine (n_r (hk.ext' he) hkf).mono ?_
   rintro r s1 ⟨e0,e1,e2,e3,e4,e5,rfl,hco⟩
   refine ⟨_,_,_,_,_,_,_,rfl,?_⟩
   rw[hs]
   exact ⟨_,_,_,_,_,_,_,rfl,hco.from he, .nil,fun _ _ _ e=>by cases e⟩
 refine a_ib _ _ _ _ _ _ _ _ _ k0 k1 k2 k3 k4 k5 k.Dirty v0 v1 v2 v3 now σ _ ((a_cw hc hv hk hkf now).mono ?_)
 rintro r s (⟨hbad,rfl,rfl⟩ | ⟨hfit,hvf,id,d0,d1,d2,d3,d4,d5,pd,σ1,rfl,he1,hI,hP⟩)
 · exact ⟨_,_,rfl,a_p (fun _=>cpy _ 21 (.refl _) (by rw[Co.stepK,if_pos hbad])) (fun e=>by cases e)⟩
 have hn21:¬(k.fits c=false∨v.fits c=false):=by rw[hfit,hvf];simp
 have he:Ext σ s:=he1.trans hI.ext
 refine ⟨_,_,rfl,a_p (fun e=>by cases e) (fun _=>?_)⟩
 intro R hR
 have n32:tm 0 now=false→k.stepK c v now=(k,[],32):=fun h=>by rw[Co.stepK,if_neg hn21,if_pos h]
 refine bcd (fun e=>cpy _ 32 he (n32 (decide_eq_false (by omega)))) (fun e1=>bcd (fun e=>cpy _ 32 he (n32 (decide_eq_false (by omega)))) (fun e2=>hR _ _ _ _ _ _ _ s ?_))
 have hn:tm 0 now=true:=decide_eq_true ⟨by omega,by omega⟩
 have hS:k.stepK c v now=(k.stepY c v now,i_k c (k.stepY c v now).Routes c.Rts.length,0):=by rw[Co.stepK,if_neg hn21,if_neg (by rw[hn];decide)]
 clear n32 cpy hR
 have hfi:=fits_iff.1 hfit
 have hok:=hfi.chk
 have hsm:=a_y hok
 obtain ⟨rows,hat,hlen⟩:=i_1 (hc s)
 refine hat.lenK ⟨fun n s=>∃j:Nat,n=j∧j≤c.Rts.length∧CoIn σ1 s id a_n (c_2 v0 v1 v2 v3 c0 c1 c2 c3 c4 c) (b_w now k.Dirty pd) d0 d1 d2 d3 d4 d5 (routesR c v now k.Dirty k j),
   fun n _=>c.Rts.length - n.toNat,⟨0,rfl,by omega,hI⟩,?_⟩
 rw[hlen]
 rintro n s2 ⟨j,rfl,hj,hI2⟩
 refine bcd (fun hlt=>?_) (fun hge=>?_)
 · obtain ⟨x,hx⟩:=a_g (l:=c.Rts) (j:=j) (by omega)
   refine (a_fa hc hz (hv.mono he1) hvf hP hI2 (j_w hfi hn j) hn (r:=(j:Int)) (by rw[d_s];exact hx)).mono ?_
   rintro q s3 ⟨rfl,hI3⟩
   rw[a_m (by omega)]
   exact ⟨rfl,rfl,⟨j+1,rfl,by omega,hI3⟩,c_9 (by omega)⟩
 have e:j=c.Rts.length:=by omega
 subst e
 have hf1:FitIs c (k.stepR c v now):=j_w hfi hn _
 refine (w_z hc (k:=k.stepR c v now) hI2 hf1).mono ?_
 rintro q s3 ⟨rfl,hI3⟩
 refine ⟨rfl,(a_dv (k:=k.stepX c v now) (hv.mono he1) hvf hI3 (w_e hfi hn)).mono ?_⟩
 rintro q s4 ⟨rfl,hI4⟩
 have hf4:=a_rl (v:=v) hfi hn
 have hI4:CoIn σ1 s4 id a_n (c_2 v0 v1 v2 v3 c0 c1 c2 c3 c4 c) (b_w now k.Dirty pd) d0 d1 d2 d3 d4 d5 (k.stepY c v now):=hI4
 rw[hS]
 generalize k.stepY c v now=k4 at *
 refine ⟨rfl,_,_,a_vs hc (id:=id) (post:=b_w now k.Dirty pd) (k:=k4) (d0:=d0) (d1:=d1) (d2:=d2) (d3:=d3) (d4:=d4) (d5:=d5) (v0:=v0) (v1:=v1) (v2:=v2) (v3:=v3) hok hf4.lRts,trivial,_,_,_,rfl,_,a_e hI4.row,d0,d1,d2,d3,d4,d5,k4.Dirty,rfl,⟨rfl,hI4.row,hI4.at.routes⟩,?_⟩
 rintro r s5 ⟨i,hi,rfl,rfl⟩
 have he5:Ext s4 (s4.set i (.live a_i ((i_k c k4.Routes c.Rts.length).map Go.Fw.encI))):=Ext.new hi _
 have hal:=a_gk (c:=c) (rs:=k4.Routes) c.Rts.length
 refine ⟨_,rfl,d0,d1,d2,d3,d4,d5,_,rfl,(hI4.co.ext' he5).from he1,At.fresh (Store.set_same _ _ _) (by rw[List.length_map,hal];omega) (by rw[List.length_map,hal]),fun id' i' len' e=>?_⟩
 injection e with e
 subst e
 by_cases hf:σ i= .free
 · exact hf
 · have h1:=he1 i hf
   have h2:=hI4.ext i (by rw[h1];exact hf)
   rw[hi,h1] at h2;exact h2.symm
end
section
variable {c0 c1 c2 c3 c4 v0 v1 v2 v3:D} {c:Cf} {v:Vw} (hc:∀s,CfAt s c0 c1 c2 c3 c4 c) (hz:u_4 c4) (hv:VwAt v0 v1 v2 v3 v)
include hc hz hv
theorem a_g3 {k0 k1 k2 k3 k4 k5:D}{k:Co}(hk:CoAt σ k0 k1 k2 k3 k4 k5 k)(hkf:CoFit k0 k1 k2 k3 k4 k5 k)(now:Int) :
   DCalls prog g_t [cfA c0 c1 c2 c3 c4 c,coA k0 k1 k2 k3 k4 k5 k.Dirty, .agg [v0,v1,v2,v3],iA now] σ (a_s8 σ (k.stepK c v now)):=a_hr hc hz (VwAt.b hv) hk hkf now
theorem a_ji {k0 k1 k2 k3 k4 k5:D}{k:Co}(hk:CoAt σ k0 k1 k2 k3 k4 k5 k)(hkf:CoFit k0 k1 k2 k3 k4 k5 k)(now:Int) :
   DCalls prog g_t [cfA c0 c1 c2 c3 c4 c,coA k0 k1 k2 k3 k4 k5 k.Dirty, .agg [v0,v1,v2,v3],iA now] σ (a_vp σ (k.stepK c v now)):=a_ug (a_g3 hc hz hv hk hkf now)
end
end
end Go.Proofs.YtdmfnhbmhkgemaaGreat
namespace Go.Fw
section
def ofL (l:List UInt8) :ByteArray:=⟨l.toArray⟩
def z_c (b:UInt8) :List D:= [.int .u8 b.toNat]
theorem a_ft (l:List UInt8) :d_j (ofL l) =l.map z_c:=rfl
theorem y_7 (l:List UInt8) :(ofL l).size=l.length:=by
 show l.toArray.size=_
 simp
theorem a_cc (l:List UInt8)(a b:Nat) :(ofL l).extract a b=ofL ((l.take b).drop a):=by
 apply ByteArray.ext
 simp[ofL,List.drop_take]
theorem a_nv (bs:ByteArray) :∀(m i:Nat) (r:List UInt8),bs.size - i=m→ByteArray.toList.loop bs i r=r.reverse ++ bs.data.toList.drop i:=by
 intro m
 induction m with
 | zero=>
   intro i r h
   have h':¬i < bs.size:=by omega
   rw[ByteArray.toList.loop,if_neg h',List.drop_eq_nil_of_le (by show bs.size≤i;omega),List.append_nil]
 | succ m ih=>
   intro i r h
   have h':i < bs.size:=by omega
   have h'':i < bs.data.toList.length:=h'
   rw[ByteArray.toList.loop,if_pos h',ih (i+1) _ (by omega),List.drop_eq_getElem_cons h'']
   have e:bs.get! i=bs.data.toList[i]:=by
     show bs.data[i]! =_
     rw[getElem!_pos bs.data i h']
     rfl
   rw[e];simp
theorem l_6 (bs:ByteArray) :bs.toList=bs.data.toList:=by
 rw[ByteArray.toList,a_nv bs _ 0 [] rfl];simp
def n_f (n:Int)(s:Nat) :UInt8:=UInt8.ofNat ((n.fdiv (2 ^ s)) % 256).toNat
theorem a_r9 (n:Int)(s:Nat) :z_c (n_f n s) =[.int .u8 (IntKind.wrap .u8 (n.fdiv (2 ^ s)))]:=by
 have e:IntKind.wrap .u8 (n.fdiv (2 ^ s)) =(n.fdiv (2 ^ s)) % 256:=rfl
 rw[e]
 unfold z_c n_f
 generalize n.fdiv (2 ^ s) =x
 have h1:0≤x % 256:=Int.emod_nonneg _ (by omega)
 have h2:x % 256 < 256:=Int.emod_lt_of_pos _ (by omega)
 obtain ⟨m,hm⟩:=Int.eq_ofNat_of_zero_le h1
 rw[hm] at h2 ⊢
 rw[Int.toNat_natCast,UInt8.toNat_ofNat',Nat.mod_eq_of_lt (by show m < 256;omega)]
def be:Nat→Int→List UInt8
 | 0,_=> []
 | k+1,n=>n_f n (8 * k) ::be k n
theorem f_m (k:Nat)(n:Int) :(be k n).length=k:=by
 induction k with
 | zero=>rfl
 | succ k ih=>rw[be,List.length_cons,ih]
def rdL (l:List UInt8)(x:Int) :Int:=l.foldl (fun x c=>x * 256+ (c.toNat:Int)) x
def rd (l:List UInt8) :Int:=rdL l 0
theorem a_r6 {n:Nat}{s:Nat} :((n_f (n:Int) s).toNat:Int) =((n / 2 ^ s % 256:Nat) :Int):=by
 unfold n_f
 have e:(n:Int).fdiv (2 ^ s) =((n / 2 ^ s:Nat) :Int):=by
   rw[Int.fdiv_eq_ediv_of_nonneg _ (by exact Int.pow_nonneg (by omega))]
   simp
 rw[e]
 have h2:n / 2 ^ s % 256 < 256:=Nat.mod_lt _ (by omega)
 have e2:(((n / 2 ^ s:Nat) :Int) % 256).toNat=n / 2 ^ s % 256:=by omega
 rw[e2,UInt8.toNat_ofNat',Nat.mod_eq_of_lt (by show _ < 256;exact h2)]
theorem a_yl:∀(k:Nat) (n:Nat) (x:Int),rdL (be k (n:Int)) x=x * 256 ^ k+ ((n % 256 ^ k:Nat) :Int):=by
 intro k
 induction k with
 | zero=>intro n x;simp[be,rdL,Nat.mod_one]
 | succ k ih=>
   intro n x
   rw[be,rdL,List.foldl_cons]
   have:=ih n (x * 256+ ((n_f (n:Int) (8 * k)).toNat:Int))
   rw[rdL] at this
   rw[this,a_r6]
   have e:(2:Nat) ^ (8 * k) =256 ^ k:=by rw[Nat.pow_mul]
   rw[e]
   have e2:n % 256 ^ (k+1) =n % 256 ^ k+256 ^ k * (n / 256 ^ k % 256):=by rw[Nat.pow_succ,Nat.mod_mul]
   rw[e2,Int.pow_succ,Int.add_mul]
   simp only[Int.natCast_add,Int.natCast_mul,Int.natCast_pow]
   have e3:x * 256 * 256 ^ k=x * (256 ^ k * 256):=by rw[Int.mul_assoc,Int.mul_comm 256]
   have e4:((n / 256 ^ k % 256:Nat) :Int) * 256 ^ k=256 ^ k * ((n / 256 ^ k % 256:Nat) :Int):=Int.mul_comm _ _
   rw[e3,e4]
   simp only[Int.add_assoc]
   have:∀a b c:Int,a+ (b+c) =a+ (c+b):=fun a b c=>by omega
   exact this _ _ _
theorem a_za {k:Nat}{n:Int}(h0:0≤n)(h1:n < 256 ^ k) :rd (be k n) =n:=by
 obtain ⟨m,rfl⟩:=Int.eq_ofNat_of_zero_le h0
 rw[rd,a_yl,Int.zero_mul,Int.zero_add]
 have:m < 256 ^ k:=by
   have e:((256 ^ k:Nat) :Int) =(256:Int) ^ k:=by simp
   omega
 rw[Nat.mod_eq_of_lt this]
theorem a_rt:∀(l:List UInt8) (x:Int),0≤x→0≤rdL l x∧rdL l x < (x+1) * 256 ^ l.length:=by
 intro l
 induction l with
 | nil=>intro x h;simp[rdL];omega
 | cons c l ih=>
   intro x h
   have hc:(c.toNat:Int) < 256:=by have:=c.toNat_lt;omega
   have:=ih (x * 256+c.toNat) (by omega)
   rw[rdL] at this ⊢
   rw[List.foldl_cons]
   refine ⟨this.1,Int.lt_of_lt_of_le this.2 ?_⟩
   rw[List.length_cons,Int.pow_succ]
   have e:(x+1) * (256 ^ l.length * 256) =((x+1) * 256) * 256 ^ l.length:=by rw[Int.mul_assoc,Int.mul_comm (256 ^ l.length)]
   rw[e]
   exact Int.mul_le_mul_of_nonneg_right (by omega) (Int.pow_nonneg (by omega))
theorem a_r3 (a b:List UInt8)(x:Int) :rdL (a ++ b) x=rdL b (rdL a x):=by unfold rdL;rw[List.foldl_append]
theorem a_w7 {x c:Int}(hx0:0≤x)(hx:x < 2 ^ 48)(hc0:0≤c)(hc:c < 256) :w64 (BitVec.toNat ((BitVec.ofInt 64 (w64 (x * (2 ^ 8)))) ||| (BitVec.ofInt 64 (w64 c))) :Int) =x * 256+c:=by
 obtain ⟨m,rfl⟩:=Int.eq_ofNat_of_zero_le hx0
 obtain ⟨b,rfl⟩:=Int.eq_ofNat_of_zero_le hc0
 rw[a_w (n:=(m:Int) * 2 ^ 8) (by omega) (by omega),a_w (n:=(b:Int)) (by omega) (by omega)]
 have e:(m:Int) * 2 ^ 8=((m * 256:Nat) :Int):=by simp
 rw[e,BitVec.ofInt_natCast,BitVec.ofInt_natCast,BitVec.toNat_or,BitVec.toNat_ofNat,BitVec.toNat_ofNat,Nat.mod_eq_of_lt (by omega),Nat.mod_eq_of_lt (by omega)]
 have:=Nat.shiftLeft_add_eq_or_of_lt (a:=m) (b:=b) (i:=8) (by omega)
 rw[Nat.shiftLeft_eq] at this
 have h256:(2:Nat) ^ 8=256:=rfl
 rw[h256] at this
 rw[←this,a_w (by omega) (by omega)]
 simp
structure Wr where
 e:Int
 out:List UInt8
 lim:Int
def Wr.note (w:Wr)(x:Int) :Wr:=if w.e=0 then { w with e:=x } else w
def Wr.put (w:Wr)(b:List UInt8) :Wr:=
 let v:=if (b.length:Int) > w.lim - w.out.length then w.note 2 else w
 if v.e=0 then { v with out:=v.out ++ b } else v
def Wr.num (w:Wr)(k:Nat)(n:Int) :Wr:=(if n < 0∨n.fdiv (2 ^ (8 * k))≠0 then w.note 32 else w).put (be k n)
theorem Wr.note_out (w:Wr)(x:Int) :(w.note x).out=w.out∧(w.note x).lim=w.lim:=by unfold Wr.note;split <;> exact ⟨rfl,rfl⟩
theorem Wr.put_out (w:Wr)(b:List UInt8) :(w.put b).out.length≤w.out.length+b.length∧(w.put b).lim=w.lim:=by
 unfold Wr.put
 have h:∀v:Wr,v.out=w.out∧v.lim=w.lim→(if v.e=0 then { v with out:=v.out ++ b } else v:Wr).out.length≤w.out.length+b.length∧(if v.e=0 then { v with out:=v.out ++ b } else v:Wr).lim=w.lim:=by
   intro v hv
   split
   · exact ⟨by simp[hv.1],hv.2⟩
   · exact ⟨by rw[hv.1];omega,hv.2⟩
 apply h
 split
 · exact w.note_out 2
 · exact ⟨rfl,rfl⟩
theorem Wr.num_out (w:Wr)(k:Nat)(n:Int) :(w.num k n).out.length≤w.out.length+k∧(w.num k n).lim=w.lim:=by
 unfold Wr.num
 have h:=Wr.put_out (if n < 0∨n.fdiv (2 ^ (8 * k))≠0 then w.note 32 else w) (be k n)
 rw[f_m] at h
 have e:(if n < 0∨n.fdiv (2 ^ (8 * k))≠0 then w.note 32 else w).out=w.out∧(if n < 0∨n.fdiv (2 ^ (8 * k))≠0 then w.note 32 else w).lim=w.lim:=by
   split
   · exact w.note_out 32
   · exact ⟨rfl,rfl⟩
 rw[e.1,e.2] at h
 exact h
theorem Wr.num_fit {w:Wr}{k:Nat}{n:Int}(he:w.e=0)(h0:0≤n)(h1:n < 256 ^ k)(hl:(w.out.length:Int) +k≤w.lim) :w.num k n=⟨0,w.out ++ be k n,w.lim⟩:=by
 have hd:n.fdiv (2 ^ (8 * k)) =0:=by
   obtain ⟨m,rfl⟩:=Int.eq_ofNat_of_zero_le h0
   rw[Int.fdiv_eq_ediv_of_nonneg _ (Int.pow_nonneg (by omega)),Int.pow_mul]
   exact Int.ediv_eq_zero_of_lt (by omega) h1
 unfold Wr.num
 rw [if_neg (by rintro (h | h); · omega
                · exact h hd)]
 simp only[Wr.put,f_m]
 rw[if_neg (show ¬((k:Int) > w.lim - w.out.length) by omega)]
 simp only[he,if_true]
structure Rd where
 e:Int
 l:List UInt8
def Rd.short (r:Rd)(n:Nat) :Rd:=if r.l.length < n then (if r.e=0 then { r with e:=1 } else r) else r
def Rd.num (r:Rd)(n:Nat) :Int × Rd:=if (r.short n).e=0 then (rd ((r.short n).l.take n),⟨0,(r.short n).l.drop n⟩) else (0,r.short n)
theorem Rd.short_l (r:Rd)(n:Nat) :(r.short n).l=r.l:=by unfold Rd.short;split <;> (try split) <;> rfl
theorem Rd.num_be {k:Nat}{n:Int}(h0:0≤n)(h1:n < 256 ^ k)(l:List UInt8) :(⟨0,be k n ++ l⟩ :Rd).num k=(n,⟨0,l⟩):=by
 have hs:(⟨0,be k n ++ l⟩ :Rd).short k=⟨0,be k n ++ l⟩:=by
   unfold Rd.short
   rw[if_neg (by simp[f_m])]
 unfold Rd.num
 rw[hs]
 simp only[if_true]
 rw[List.take_left' (f_m k n),List.drop_left' (f_m k n),a_za h0 h1]
end
end Go.Fw
namespace Go.Proofs.YtdmfnhbmhkgemaaGreat
open Go.Fw Go.Proofs Go.RowKit
open Go.Proofs.Tryz (prog)
section
variable {σ σ0:Store}
theorem f_t {s:Store}{el:TypeId}{d:D}{rs:List (List D)}(h:At prog s el d rs){i:Nat}(hi:a_5 d=some i) :s i≠ .free:=by
 cases d with
 | osl id a n=>
   have e:id=i:=by simpa[a_5] using hi
   subst e
   obtain ⟨t,rows,g1,_⟩:=h.rows
   rw[g1];intro e;cases e
 | _=>simp[a_5] at hi
abbrev pO (id:Nat) :D:= .el (.osl id 0 1) 0 0
structure WrIn (σ0 s:Store) (id:Nat) (w:Wr) :Prop where
 new:σ0 id= .free
 cell:∃d,s id= .live e_c [[iD w.e,d,iD w.lim]]∧Own prog σ0 s f_0 d (w.out.map z_c)∧a_5 d≠some id
theorem WrIn.ext {s:Store}{id:Nat}{w:Wr}(h:WrIn σ0 s id w) :Ext σ0 s:=by
 obtain ⟨d,_,h,_⟩:=h.cell;exact h.ext
theorem WrIn.ext' {s s':Store}{id:Nat}{w:Wr}(h:WrIn σ0 s id w)(he:Ext s s') :WrIn σ0 s' id w:=by
 obtain ⟨d,h1,h2,h3⟩:=h.cell
 exact ⟨h.new,d,by rw[he id (by rw[h1];intro e;cases e)];exact h1,h2.ext' he,h3⟩
theorem a_pv (n:Int)(hn:0≤n) :DCalls prog w_q [iA n] σ fun r s=>∃id,r= .a (.one (pO id))∧WrIn σ s id ⟨0,[],n⟩:=by
 refine a_rr n σ _ (a_d fun id s hid _ he hs=>?_)
 rw[if_neg (by omega)] at hs
 exact ⟨id,rfl,hid, .nils,hs, .nil _ he,by intro e;cases e⟩
theorem j_m {s:Store}{id:Nat}{t:TypeId}{e:Int}{rest:List D}(h:s id= .live t [iD e::rest])(x:Int) :
   DCalls prog b_3 [.one (pO id),iA x] s fun r s'=>r= .tup []∧s' id= .live t [iD (if e=0 then x else e) ::rest]∧∀i,i≠id→s' i=s i:=by
 refine t_6 (pO id) x s _ ⟨trivial,_,_,_,rfl,_,a_e h,e,rfl,bce (fun e0=>⟨trivial,_,_,_,rfl,b_i h (by simp) fun s' hs ho=>⟨rfl,?_,ho⟩⟩) (fun e0=>⟨rfl,by rw[if_neg e0];exact h,fun _ _=>rfl⟩)⟩
 rw[hs,if_pos e0];rfl
theorem e_8 {s:Store}{id:Nat}{t:TypeId}{e:Int}{rest:List D}(h:s id= .live t [iD e::rest]) :
   Pure prog b_c [.one (pO id)] s (.a (bA (e == 0))):=
 u_a (pO id) s _ ⟨trivial,_,_,_,rfl,_,a_e h,e,rfl,rfl,rfl⟩
theorem a_ij {s:Store}{id:Nat}{w:Wr}(h:WrIn σ0 s id w){b:D}{l:List UInt8}(hb:At prog s f_0 b (l.map z_c))(hs:w.out.length+l.length≤2 ^ 40)(hlim:0≤w.lim∧w.lim≤2 ^ 60) :
   DCalls prog h_q [.one (pO id), .one b] s fun r s'=>r= .tup []∧WrIn σ0 s' id (w.put l):=by
 obtain ⟨hn,d,h1,h2,h3⟩:=h
 have lay : ∀ (s1 : Store) (e : Int), s1 id = .live e_c [[iD e, d, iD w.lim]] → (∀ i, i ≠ id → s1 i = s i) → e = 0 →
     ((a_f (pO id))∧∃(s4:D) (i4 off4:Nat),(pO id=(.el s4 i4 off4:D))∧∃row2:List D,Row s1 s4 i4 row2∧∃d1:D,((List.drop (off4+1) row2).take 1=[d1])∧a_v prog s1 f_0 1 d1 b fun d2 s2=>
       (a_f (pO id))∧∃(s5:D) (i5 off5:Nat),(pO id=(.el s5 i5 off5:D))∧a_j [d2] s2 s5 i5 (off5+1) fun s3=>(RV.tup []=RV.tup []∧WrIn σ0 s3 id ⟨e,w.out ++ l,w.lim⟩)):=by
   intro s1 e hs1 ho1 he
   have hd1:Own prog σ0 s1 f_0 d (w.out.map z_c):=a_h h2 hn h3 ho1
   have hb1:At prog s1 f_0 b (l.map z_c):=hb.same fun i a m e=>ho1 i fun e2=>by
     subst e
     obtain ⟨t,rows,g1,g2,g3,g4⟩:=hb.rows
     rw[e2,h1] at g1
     injection g1 with g1 _
     rw[←g1] at g2
     rw[a_h1,c_uint8] at g2
     cases g2
   refine ⟨trivial,_,_,_,rfl,_,a_e hs1,d,rfl,hd1.append hb1 (by simp;omega) (by simp;omega) fun d2 s2 o2 k2 i2=>⟨trivial,_,_,_,rfl,?_⟩⟩
   have hs2:s2 id= .live e_c [[iD e,d,iD w.lim]]:=by
     rw[k2 id (by rw[hs1];intro e;cases e) (fun a b e=>h3 (by rw[e];rfl)),hs1]
   have hd2:a_5 d2≠some id:=fun hi=>by
     cases d2 with
     | osl j a m=>
       have:j=id:=by simpa[a_5] using hi
       subst this
       rcases i2 j a m rfl with g | ⟨a',b',g⟩
       · rw[hs1] at g;cases g
       · exact h3 (by rw[g];rfl)
     | _=>simp[a_5] at hi
   rw[←List.map_append] at o2
   refine b_i hs2 (by simp) fun s3 hs3 ho3=>⟨rfl,hn,d2,by rw[hs3];rfl,a_h o2 hn hd2 ho3,hd2⟩
 have hl:=hb.size
 have ho:=h2.at_.size
 rw[List.length_map] at hl ho
 have hrow:s id= .live e_c [iD w.e::[d,iD w.lim]]:=h1
 refine y_r (pO id) b s _ (hb.lenK ⟨trivial,_,_,_,rfl,_,a_e h1,w.lim,rfl,trivial,_,_,_,rfl,_,a_e h1,d,rfl,h2.at_.lenK ?_⟩)
 rw[List.length_map,List.length_map,a_w (by omega) (by omega)]
 unfold Wr.put
 refine bcd (fun hg=>?_) (fun hg=>?_)
 · simp only[gt_iff_lt] at hg
   rw[if_pos (show (l.length:Int) > w.lim - w.out.length from hg)]
   refine ⟨trivial,_,_,_,rfl,(j_m hrow 2).mono ?_⟩
   rintro r s1 ⟨rfl,hs1,ho1⟩
   have hnote:(w.note 2) =⟨if w.e=0 then 2 else w.e,w.out,w.lim⟩:=by unfold Wr.note;split <;> rfl
   refine ⟨rfl,trivial,_,_,_,rfl,(e_8 hs1).use ⟨_,rfl,?_⟩⟩
   have hne:(if w.e=0 then (2:Int) else w.e)≠0:=by split <;> omega
   rw[show ((if w.e=0 then (2:Int) else w.e) == 0) =false from by simpa using hne]
   refine bc (fun e=>by cases e) (fun _=>⟨rfl,?_⟩)
   simp only[hnote]
   rw[if_neg hne]
   exact ⟨hn,d,hs1,a_h h2 hn h3 ho1,h3⟩
 · simp only[gt_iff_lt] at hg
   rw[if_neg (show ¬((l.length:Int) > w.lim - w.out.length) from hg)]
   refine ⟨trivial,_,_,_,rfl,(e_8 hrow).use ⟨_,rfl,bce (fun e0=>?_) (fun e0=>⟨rfl,?_⟩)⟩⟩
   · have:=lay s w.e h1 (fun _ _=>rfl) e0
     simp only[e0,if_true] at this ⊢
     exact this
   · simp only
     rw[if_neg e0]
     exact ⟨hn,d,h1,h2,h3⟩
theorem wu64 {n:Int}(h0:0≤n)(h1:n < 2 ^ 63) :IntKind.wrap .u64 n=n:=by
 show n % 18446744073709551616=n
 omega
theorem WrIn.newList {s:Store}{id:Nat}{w:Wr}(h:WrIn σ0 s id w){i:Nat}{so:SO}(hi:s i= .free)(hso:so≠ .free) :
   ∃τ,WrIn τ (s.set i so) id w∧Ext σ0 τ∧τ i=so:=by
 obtain ⟨hn,d,h1,h2,h3⟩:=h
 have hne:i≠id:=fun e=>by rw[e,h1] at hi;cases hi
 have hd:a_5 d≠some i:=fun e=>f_t h2.at_ e hi
 have he:Ext s (s.set i so):=Ext.new hi so
 have h2':=h2.ext' he
 refine ⟨fun j=>if j=id∨a_5 d=some j then .free else (s.set i so) j,⟨by simp,d,?_,⟨h2'.at_,fun j hj=>?_,fun j a b e=>?_,h2.nsl,h2.nz⟩,h3⟩,fun j hj=>?_,?_⟩
 · rw[Store.set_ne _ _ (Ne.symm hne)];exact h1
 · by_cases hc:j=id∨a_5 d=some j
   · exact absurd (if_pos hc) hj
   · exact (if_neg hc).symm
 · subst e;simp[a_5]
 · have c1:j≠id:=fun e=>hj (by rw[e];exact hn)
   have c2:a_5 d≠some j:=fun e=>hj (n_e h2 e)
   exact (if_neg (show ¬(j=id∨a_5 d=some j) from fun g=>g.elim c1 c2)).trans (h2'.ext j hj)
 · exact (if_neg (show ¬(i=id∨a_5 d=some i) from fun g=>g.elim hne hd)).trans (Store.set_same _ _ _)
theorem j_l {s:Store}{id:Nat}{w:Wr}(h:WrIn σ0 s id w){k:Nat}(hk:1≤k∧k≤4){d:D}{ns:List Int}(hd:At prog σ0 a_i d (ns.map Go.Fw.encI))(hs:w.out.length+4 * ns.length≤2 ^ 40)(hlim:0≤w.lim∧w.lim≤2 ^ 60)(bits:Int)(hb:bits=8 * k) :
   DCalls prog d_f [.one (pO id),iA bits, .one d] s fun r s'=>r= .tup []∧WrIn σ0 s' id (ns.foldl (fun w n=>w.num k n) w):=by
 have hl:=hd.size
 rw[List.length_map] at hl
 have hfl:∀(l:List Int) (w:Wr),(l.foldl (fun w n=>w.num k n) w).out.length≤w.out.length+k * l.length∧(l.foldl (fun w n=>w.num k n) w).lim=w.lim:=by
   intro l
   induction l with
   | nil=>intro w;simp
   | cons n l ih=>
     intro w
     have h1:=ih (w.num k n)
     have h2:=w.num_out k n
     rw[List.foldl_cons]
     refine ⟨Nat.le_trans h1.1 ?_,h1.2.trans h2.2⟩
     rw[List.length_cons,Nat.mul_add];omega
 refine u_l (pO id) bits d s _ ((hd.ext h.ext).lenK ⟨fun n s'=>∃j:Nat,n=j∧j≤ns.length∧WrIn σ0 s' id ((ns.take j).foldl (fun w n=>w.num k n) w),fun n _=>ns.length - n.toNat,⟨0,rfl,by omega,h⟩,?_⟩)
 rintro _ s' ⟨j,rfl,hj,hw⟩
 rw[List.length_map]
 refine bcd (fun hlt=>?_) (fun hge=>?_)
 rotate_left
 · have e:j=ns.length:=by omega
   subst e
   rw[List.take_length] at hw
   exact ⟨rfl,hw⟩
 have hlt:j < ns.length:=by omega
 obtain ⟨x,hx⟩:=a_g (l:=ns) (j:=j) hlt
 have htake:(ns.take (j+1)).foldl (fun w n=>w.num k n) w=((ns.take j).foldl (fun w n=>w.num k n) w).num k x:=by
   rw[List.take_add_one,hx,Option.toList_some,List.foldl_append];rfl
 have hout:=hfl (ns.take j) w
 generalize (ns.take j).foldl (fun w n=>w.num k n) w=w1 at *
 have hol:w1.out.length+4≤2 ^ 40:=by
   have:=hout.1
   rw[List.length_take,Nat.min_eq_left hj] at this
   have h4:k * j≤4 * j:=Nat.mul_le_mul_right _ hk.2
   omega
 refine (hd.ext hw.ext).load (a_c hx) c_int rfl ⟨x,rfl,?_⟩
 intro R hR
 have go:∀s1,WrIn σ0 s1 id (if x < 0∨x.fdiv (2 ^ (8 * k))≠0 then w1.note 32 else w1)→R s1:=fun s1 hw1=>hR s1 (by
   have hnote:∀c:Prop,[Decidable c]→(if c then w1.note 32 else w1).out=w1.out∧(if c then w1.note 32 else w1).lim=w1.lim:=fun c _=>by
     split
     · exact w1.note_out 32
     · exact ⟨rfl,rfl⟩
   have hn2:=hnote (x < 0∨x.fdiv (2 ^ (8 * k))≠0)
   refine ⟨fun d2 n2 s2=>∃(m:Nat) (p:List UInt8),m≤k∧n2=8 * m - 8∧p ++ be m x=be k x∧Own prog s1 s2 f_0 d2 (p.map z_c),fun _ n2 _=>(n2+8).toNat,⟨k,[],Nat.le_refl _,by rw[hb,a_w (by omega) (by omega)],rfl, .nil _ (.refl _)⟩,?_⟩
   rintro d2 _ s2 ⟨m,p,hm,rfl,hp,ho⟩
   have hpl:p.length+m=k:=by
     have:=congrArg List.length hp
     rwa [List.length_append,f_m,f_m] at this
   refine bcd (fun hge0=>?_) (fun hlt0=>?_)
   · obtain ⟨m',rfl⟩ :∃m',m=m'+1:=⟨m - 1,by omega⟩
     rw[wu64 (by omega) (by omega)]
     refine ⟨by omega,a_d fun i3 s3 hi3 _ he3 hs3=>(ho.ext' he3).append (At.fresh (rs:= [z_c (n_f x (8 * m'))]) (by rw[hs3,a_r9,show min (8 * ((m'+1:Nat) :Int) - 8).toNat 64=8 * m' by omega]) (by simp) rfl) (by simp;omega) (by simp;omega) fun d3 s4 o4 _ _=>?_⟩
     rw[a_w (by omega) (by omega)]
     have e1:p.map z_c ++ [z_c (n_f x (8 * m'))]=(p ++ [n_f x (8 * m')]).map z_c:=by simp
     rw[e1] at o4
     refine ⟨⟨m',p ++ [n_f x (8 * m')],by omega,by omega,?_,o4⟩,by show (8 * ((m'+1:Nat) :Int) - 8 - 8+8).toNat < (8 * ((m'+1:Nat) :Int) - 8+8).toNat;omega⟩
     rw[←hp,be,List.append_assoc];rfl
   · have hm0:m=0:=by omega
     subst hm0
     rw[be,List.append_nil] at hp
     subst hp
     refine (a_ij (hw1.ext' ho.ext) ho.at_ (by rw[hn2.1,f_m];omega) (by rw[hn2.2,hout.2];exact hlim)).mono ?_
     rintro r s3 ⟨rfl,hw3⟩
     refine ⟨rfl,?_⟩
     rw[a_m (by omega)]
     refine ⟨⟨j+1,rfl,hlt,?_⟩,c_9 hlt⟩
     rw[htake];exact hw3)
 have note:∀c:x < 0∨x.fdiv (2 ^ (8 * k))≠0,(a_f (pO id))∧∃(s:D) (i off:Nat),(pO id=(.el s i off:D))∧DCalls prog b_3 [.one (.el s i (off+0)),iA 32] s' fun r s1=>(r= .tup [])∧R s1:=fun c=>by
   obtain ⟨hn,wd,h1,h2,h3⟩:=hw
   refine ⟨trivial,_,_,_,rfl,(j_m (e:=w1.e) (rest:= [wd,iD w1.lim]) h1 32).mono ?_⟩
   rintro r s1 ⟨rfl,hs1,ho1⟩
   refine ⟨rfl,go s1 ?_⟩
   rw[if_pos c]
   have hnote:(w1.note 32) =⟨if w1.e=0 then 32 else w1.e,w1.out,w1.lim⟩:=by unfold Wr.note;split <;> rfl
   rw[hnote]
   exact ⟨hn,wd,hs1,a_h h2 hn h3 ho1,h3⟩
 refine bcd (fun hneg=>note (.inl hneg)) (fun hnn=>?_)
 have hsh:Int.fdiv x (2 ^ (min (IntKind.wrap .u64 bits).toNat 64)) =x.fdiv (2 ^ (8 * k)):=by
   rw[wu64 (by omega) (by omega)]
   congr 2;omega
 rw[hsh]
 refine ⟨by rw[wu64 (by omega) (by omega)];omega,bcn (fun hf=>note (.inr hf)) (fun hf=>go s' ?_)⟩
 rw [if_neg (by rintro (c | c); · omega
                · exact c hf)]
 exact hw
theorem a_ga {s:Store}{id:Nat}{w:Wr}(h:WrIn σ0 s id w){d:D}{ns:List Int}(hd:At prog σ0 a_i d (ns.map Go.Fw.encI))(hs:w.out.length+4 * ns.length≤2 ^ 40)(hlim:0≤w.lim∧w.lim≤2 ^ 60) :
   DCalls prog g_4 [.one (pO id), .one d] s fun r s'=>r= .tup []∧WrIn σ0 s' id (ns.foldl (fun w n=>w.num 1 n) w):=
 w_v _ d s _ ((j_l h (k:=1) (by omega) hd hs hlim 8 rfl).mono fun r s' ⟨h1,h2⟩=>⟨h1,rfl,h2⟩)
theorem a_ez {s:Store}{id:Nat}{w:Wr}(h:WrIn σ0 s id w){d:D}{ns:List Int}(hd:At prog σ0 a_i d (ns.map Go.Fw.encI))(hs:w.out.length+4 * ns.length≤2 ^ 40)(hlim:0≤w.lim∧w.lim≤2 ^ 60) :
   DCalls prog h_a [.one (pO id), .one d] s fun r s'=>r= .tup []∧WrIn σ0 s' id (ns.foldl (fun w n=>w.num 2 n) w):=
 w_w _ d s _ ((j_l h (k:=2) (by omega) hd hs hlim 16 rfl).mono fun r s' ⟨h1,h2⟩=>⟨h1,rfl,h2⟩)
theorem a_e4 {s:Store}{id:Nat}{w:Wr}(h:WrIn σ0 s id w){d:D}{ns:List Int}(hd:At prog σ0 a_i d (ns.map Go.Fw.encI))(hs:w.out.length+4 * ns.length≤2 ^ 40)(hlim:0≤w.lim∧w.lim≤2 ^ 60) :
   DCalls prog g_7 [.one (pO id), .one d] s fun r s'=>r= .tup []∧WrIn σ0 s' id (ns.foldl (fun w n=>w.num 4 n) w):=
 w_6 _ d s _ ((j_l h (k:=4) (by omega) hd hs hlim 32 rfl).mono fun r s' ⟨h1,h2⟩=>⟨h1,rfl,h2⟩)
theorem a_ep {s:Store}{id:Nat}{w:Wr}(h:WrIn σ0 s id w) :
   Pure prog g_2 [.one (pO id)] s (.tup [.one (.str (ofL (if w.e=0 then w.out else []))),iA w.e]):=by
 obtain ⟨hn,d,h1,h2,h3⟩:=h
 have hrow:s id= .live e_c [iD w.e::[d,iD w.lim]]:=h1
 refine w_a (pO id) s _ ⟨trivial,_,_,_,rfl,(e_8 hrow).use ⟨_,rfl,a_p (fun e=>?_) (fun e=>?_)⟩⟩
 · have hne:w.e≠0:=by simpa using e
   refine ⟨trivial,_,_,_,rfl,_,a_e h1,w.e,rfl,?_⟩
   rw[if_neg hne];exact ⟨rfl,rfl⟩
 · have he:w.e=0:=by simpa using e
   refine ⟨trivial,_,_,_,rfl,_,a_e h1,d,rfl,ofL w.out,?_,?_⟩
   · rw[a_ft];exact h2.at_.rows
   · rw[if_pos he,he];exact ⟨rfl,rfl⟩
def p_e (s:Store)(id:Nat)(r:Rd) :Prop:=s id= .live u_0 [[iD r.e, .str (ofL r.l)]]
theorem a_my (l:List UInt8) :DCalls prog q_v [.one (.str (ofL l))] σ fun r s=>∃id,r= .a (.one (pO id))∧σ id= .free∧p_e s id ⟨0,l⟩∧Ext σ s∧∀i,i≠id→s i=σ i:=
 a_n6 _ σ _ (a_d fun id s hid hset he hs=>⟨id,rfl,hid,hs,he,fun i hi=>by rw[hset,Store.set_ne _ _ hi]⟩)
theorem a_hd {s:Store}{id:Nat}{r:Rd}(h:p_e s id r){n:Nat}(hn:n≤2 ^ 20)(hl:r.l.length≤2 ^ 60) :
   DCalls prog h_b [.one (pO id),iA 0,iA n] s fun rr s'=>rr= .a (.one (.str (ofL (if (r.short n).e=0 then r.l.take n else []))))∧
     p_e s' id (if (r.short n).e=0 then ⟨0,r.l.drop n⟩ else r.short n)∧∀i,i≠id→s' i=s i:=by
 have rest : ∀ (s1 : Store) (q : Rd), p_e s1 id q → (∀ i, i ≠ id → s1 i = s i) → q = r.short n → (q.e = 0 → n ≤ q.l.length) →
     DCalls prog b_c [.one (pO id)] s1 fun r1 s2=>∃b,r1= .a (bA b)∧a_b (!b) (RV.a (.one (.str (ByteArray.mk (List.toArray [])))) = .a (.one (.str (ofL (if (r.short n).e=0 then r.l.take n else []))))∧
       p_e s2 id (if (r.short n).e=0 then ⟨0,r.l.drop n⟩ else r.short n)∧∀i,i≠id→s2 i=s i)
       ((a_f (pO id))∧∃(s3:D) (i2 off2:Nat),(pO id=(.el s3 i2 off2:D))∧∃row1:List D,Row s2 s3 i2 row1∧∃s4:ByteArray,((List.drop (off2+1) row1).take 1=[.str s4])∧((0:Int)≤0)∧((0:Int)≤(w64 (0+ (n:Int))))∧((w64 (0+ (n:Int)))≤(ByteArray.size s4:Int))∧
         (a_f (pO id))∧∃(s5:D) (i3 off3:Nat),(pO id=(.el s5 i3 off3:D))∧∃row2:List D,Row s2 s5 i3 row2∧∃s6:ByteArray,((List.drop (off3+1) row2).take 1=[.str s6])∧((0:Int)≤(w64 (0+ (n:Int))))∧((w64 (0+ (n:Int)))≤(ByteArray.size s6:Int))∧
         (a_f (pO id))∧∃(s7:D) (i4 off4:Nat),(pO id=(.el s7 i4 off4:D))∧a_j [.str (ByteArray.extract s6 (Int.toNat (w64 (0+ (n:Int)))) (ByteArray.size s6))] s2 s7 i4 (off4+1) fun s'=>
           (RV.a (.one (.str (ByteArray.extract s4 (Int.toNat 0) (Int.toNat (w64 (0+ (n:Int))))))) = .a (.one (.str (ofL (if (r.short n).e=0 then r.l.take n else []))))∧
           p_e s' id (if (r.short n).e=0 then ⟨0,r.l.drop n⟩ else r.short n)∧∀i,i≠id→s' i=s i)):=by
   intro s1 q hq ho hqe hql
   refine (e_8 hq).use ⟨_,rfl,a_p (fun e=>?_) (fun e=>?_)⟩
   · have hne:(r.short n).e≠0:=by rw[←hqe];simpa using e
     rw[if_neg hne,if_neg hne,←hqe]
     exact ⟨rfl,hq,ho⟩
   · have he:q.e=0:=by simpa using e
     have hlq:=hql he
     have hqr:q.l=r.l:=by rw[hqe,Rd.short_l]
     have hw:w64 (0+ (n:Int)) =n:=by rw[a_w (by omega) (by omega)];omega
     rw[hw,if_pos (by rw[←hqe];exact he),if_pos (by rw[←hqe];exact he)]
     refine ⟨trivial,_,_,_,rfl,_,a_e hq,ofL q.l,rfl,by omega,by omega,by rw[y_7];omega,trivial,_,_,_,rfl,_,a_e hq,ofL q.l,rfl,by omega,by rw[y_7];omega,trivial,_,_,_,rfl,b_i hq (by simp) fun s' hs' ho'=>⟨?_,?_,fun i hi=>(ho' i hi).trans (ho i hi)⟩⟩
     · rw[Int.toNat_natCast,a_cc,hqr];rfl
     · unfold p_e
       rw[hs',Int.toNat_natCast,y_7,a_cc,List.take_length,hqr,he]
       rfl
 refine x_b (pO id) 0 n s _ ⟨trivial,_,_,_,rfl,_,a_e h,ofL r.l,rfl,?_⟩
 rw[y_7,a_w (by omega) (by omega)]
 refine bcd (fun hg=>?_) (fun hg=>?_)
 · simp only[gt_iff_lt] at hg
   have hsh:r.short n=⟨if r.e=0 then 1 else r.e,r.l⟩:=by
     unfold Rd.short
     rw[if_pos (by omega)]
     split <;> rfl
   refine ⟨trivial,_,_,_,rfl,(j_m (e:=r.e) (rest:= [.str (ofL r.l)]) h 1).mono ?_⟩
   rintro r1 s1 ⟨rfl,hs1,ho1⟩
   refine ⟨rfl,trivial,_,_,_,rfl,rest s1 ⟨if r.e=0 then 1 else r.e,r.l⟩ hs1 ho1 hsh.symm fun e=>?_⟩
   simp only at e
   split at e
   · cases e
   · rename_i hc;exact absurd e hc
 · simp only[gt_iff_lt] at hg
   have hsh:r.short n=r:=by unfold Rd.short;rw[if_neg (by omega)]
   exact ⟨trivial,_,_,_,rfl,rest s r h (fun _ _=>rfl) hsh.symm fun _=>by omega⟩
theorem j_h {s:Store}{id:Nat}{r:Rd}(h:p_e s id r){n:Nat}(hn:n≤4)(hl:r.l.length≤2 ^ 60) :
   DCalls prog d_g [.one (pO id),iA n] s fun rr s'=>rr= .a (iA (r.num n).1)∧p_e s' id (r.num n).2∧∀i,i≠id→s' i=s i:=by
 refine u_p (pO id) n s _ ((a_hd h (by omega) hl).mono ?_)
 rintro rr s1 ⟨rfl,h1,ho1⟩
 have hnum:r.num n=(rd (if (r.short n).e=0 then r.l.take n else []),if (r.short n).e=0 then ⟨0,r.l.drop n⟩ else r.short n):=by
   unfold Rd.num
   split
   · rw[Rd.short_l]
   · rfl
 rw[hnum]
 have hll:(if (r.short n).e=0 then r.l.take n else []).length≤4:=by
   split
   · rw[List.length_take];omega
   · simp
 generalize (if (r.short n).e=0 then r.l.take n else []) =l at *
 refine ⟨_,rfl,?_⟩
 rw[a_ft]
 have hat:∀s,At prog s f_0 (.sl 1 (l.map z_c)) (l.map z_c):=fun s=>⟨⟨rfl, .inr c_uint8.symm⟩,by rw[List.length_map];omega,fun es rows e=>by injection e with e1 e2;rw[←e1];exact c_uint8.symm⟩
 refine (hat s1).lenK ⟨fun x n2 s2=>s2=s1∧∃j:Nat,n2=j∧j≤l.length∧x=rd (l.take j),fun _ n2 _=>l.length - n2.toNat,⟨rfl,0,rfl,by omega,rfl⟩,?_⟩
 rintro _ _ s2 ⟨rfl,j,rfl,hj,rfl⟩
 rw[List.length_map]
 refine bcd (fun hlt=>?_) (fun hge=>?_)
 · have hlt:j < l.length:=by omega
   obtain ⟨c,hc⟩:=a_g (l:=l) (j:=j) hlt
   refine (hat s2).load (a_c hc) c_uint8 rfl ⟨(c.toNat:Int),rfl,?_⟩
   have hx:=a_rt (l.take j) 0 (by omega)
   have h256:(256:Int) ^ (l.take j).length≤256 ^ 4:=by
     have e:∀m:Nat,(256:Int) ^ m=((256 ^ m:Nat) :Int):=fun m=>by simp
     rw[e,e]
     exact Int.ofNat_le.2 (Nat.pow_le_pow_right (by omega) (by rw[List.length_take];omega))
   have hb:rd (l.take j) < 2 ^ 48:=by
     unfold rd
     have:=hx.2
     have h4:(256:Int) ^ 4=4294967296:=by decide
     rw[h4] at h256
     omega
   have hor:=a_w7 (x:=rd (l.take j)) (c:=(c.toNat:Int)) hx.1 hb (by omega) (by have:=c.toNat_lt;omega)
   rw[a_m (by omega)]
   refine ⟨⟨rfl,j+1,rfl,hlt,?_⟩,c_9 hlt⟩
   rw[hor,List.take_add_one,hc,Option.toList_some,rd,rd,a_r3];rfl
 · have e:j=l.length:=by omega
   subst e
   rw[List.take_length]
   exact ⟨rfl,h1,ho1⟩
theorem q_1 {s:Store}{id:Nat}{r:Rd}(h:p_e s id r)(hl:r.l.length≤2 ^ 60) :DCalls prog e_x [.one (pO id)] s fun rr s'=>rr= .a (iA (r.num 1).1)∧p_e s' id (r.num 1).2∧∀i,i≠id→s' i=s i:=
 w_n _ s _ ((j_h h (n:=1) (by omega) hl).mono fun rr s' ⟨h1,h2⟩=>⟨_,h1,rfl,h2⟩)
theorem a_fq {s:Store}{id:Nat}{r:Rd}(h:p_e s id r)(hl:r.l.length≤2 ^ 60) :DCalls prog g_5 [.one (pO id)] s fun rr s'=>rr= .a (iA (r.num 2).1)∧p_e s' id (r.num 2).2∧∀i,i≠id→s' i=s i:=
 w_m _ s _ ((j_h h (n:=2) (by omega) hl).mono fun rr s' ⟨h1,h2⟩=>⟨_,h1,rfl,h2⟩)
theorem k_6 {s:Store}{id:Nat}{r:Rd}(h:p_e s id r)(hl:r.l.length≤2 ^ 60) :DCalls prog d_v [.one (pO id)] s fun rr s'=>rr= .a (iA (r.num 4).1)∧p_e s' id (r.num 4).2∧∀i,i≠id→s' i=s i:=
 v_3 _ s _ ((j_h h (n:=4) (by omega) hl).mono fun rr s' ⟨h1,h2⟩=>⟨_,h1,rfl,h2⟩)
theorem a_jt {s:Store}{id:Nat}{r:Rd}(h:p_e s id r) :Pure prog h_4 [.one (pO id)] s (.a (iA (if r.e=0∧r.l≠[] then 3 else r.e))):=by
 refine y_6 (pO id) s _ ⟨trivial,_,_,_,rfl,(e_8 (e:=r.e) (rest:= [.str (ofL r.l)]) h).use ⟨_,rfl,bce (fun e=>?_) (fun e=>?_)⟩⟩
 · refine ⟨trivial,_,_,_,rfl,_,a_e h,ofL r.l,rfl,a_p (fun hs=>?_) (fun hs=>?_)⟩
   · have hne : r.l ≠ [] := fun hl => by
       rw[l_6,l_6,hl] at hs
       cases hs
     rw[if_pos ⟨e,hne⟩]
     exact ⟨rfl,rfl⟩
   · have hl : r.l = [] := by
       have:=eq_of_beq hs
       rw[l_6,l_6] at this
       exact this
     refine ⟨trivial,_,_,_,rfl,_,a_e h,r.e,rfl,?_⟩
     rw[if_neg (fun g=>g.2 hl)];exact ⟨rfl,rfl⟩
 · refine ⟨trivial,_,_,_,rfl,_,a_e h,r.e,rfl,?_⟩
   rw[if_neg (fun g=>e g.1)];exact ⟨rfl,rfl⟩
end
end Go.Proofs.YtdmfnhbmhkgemaaGreat
namespace Go.Fw
section
def ownW (w:Wr)(o:Int) :Wr:=w.num 2 ((if 1048576 < o then 1048576 else o) +2)
def rtW (w:Wr)(r:Rs) :Wr:=(w.num 1 r.State).num 1 r.Next
def lnW (w:Wr)(l:Ls) :Wr:=((w.num 4 l.Ask).num 4 l.Done).num 4 l.Grant
def Co.saveW (k:Co) :Wr:=((k.Lines.drop 1).take 3).foldl lnW (k.Routes.foldl rtW (k.Own.foldl ownW ⟨0,[],2 * (k.Own.length:Int) +2 * k.Routes.length+36⟩))
def Co.saveC (k:Co) :List UInt8 × Int:=if k.Lines.length < 4 then ([],32) else (if k.saveW.e=0 then k.saveW.out else [],k.saveW.e)
def u_7:Nat→Rd→List Int × Rd
 | 0,r=>([],r)
 | n+1,r=>(((r.num 2).1 - 2) :: (u_7 n (r.num 2).2).1,(u_7 n (r.num 2).2).2)
def u_s:Nat→Rd→List Rs × Rd
 | 0,r=>([],r)
 | n+1,r=>(⟨(r.num 1).1,0,((r.num 1).2.num 1).1,0⟩ :: (u_s n ((r.num 1).2.num 1).2).1,(u_s n ((r.num 1).2.num 1).2).2)
def ln3 (a b g:Int) :Ls:=⟨a,b,g,g,0,0,0,0⟩
def u_t:Nat→Rd→List Ls × Rd
 | 0,r=>([],r)
 | n+1,r=>(ln3 (r.num 4).1 ((r.num 4).2.num 4).1 (((r.num 4).2.num 4).2.num 4).1:: (u_t n (((r.num 4).2.num 4).2.num 4).2).1,(u_t n (((r.num 4).2.num 4).2.num 4).2).2)
def Cf.loadQ (c:Cf)(now:Int)(l:List UInt8) :Co × Rd:=
 let a:=u_7 c.Secs.length ⟨0,l⟩
 let b:=u_s c.Rts.length a.2
 let d:=u_t 3 b.2
 (⟨a.1,b.1,(b_o c now).Points,(b_o c now).Xs,⟨0,0,0,0,0,0,0,0⟩ ::d.1,(b_o c now).Resets,true⟩,d.2)
def f_s (x:Rs) :Rs:=if x.State=0 then ⟨0,0,0,0⟩ else ⟨5,0,x.Next,0⟩
def zCo:Co:=⟨[],[],[],[],[],[],false⟩
def Cf.loadC (c:Cf)(now:Int)(l:List UInt8) :Co × Int:=
 if (c.loadQ now l).2.e=0∧(c.loadQ now l).2.l=[]∧(c.loadQ now l).1.fits c=true∧tm 0 now=true then
   (let q:=(c.loadQ now l).1; ⟨q.Own,q.Routes.map f_s,q.Points,q.Xs,q.Lines,q.Resets,false⟩,0) else (zCo,3)
theorem Rd.num_len (r:Rd)(n:Nat) :(r.num n).2.l.length≤r.l.length:=by
 unfold Rd.num
 split
 · show ((r.short n).l.drop n).length≤_
   rw[List.length_drop,Rd.short_l];omega
 · rw[Rd.short_l];exact Nat.le_refl _
/-! what fits is written -/
def ownB (o:Int) :List UInt8:=be 2 (o+2)
def rtB (r:Rs) :List UInt8:=be 1 r.State ++ be 1 r.Next
def lnB (l:Ls) :List UInt8:=be 4 l.Ask ++ (be 4 l.Done ++ be 4 l.Grant)
def Co.saveB (k:Co) :List UInt8:=(k.Own.map ownB).flatten ++ (k.Routes.map rtB).flatten ++ (((k.Lines.drop 1).take 3).map lnB).flatten
theorem n_w {α:Type}{f:α→List UInt8}{m:Nat}(h:∀x,(f x).length=m) :∀l:List α,(l.map f).flatten.length=m * l.length:=by
 intro l
 induction l with
 | nil=>simp
 | cons x l ih=>rw[List.map_cons,List.flatten_cons,List.length_append,h,ih,List.length_cons,Nat.mul_add];omega
theorem y_k (o:Int) :(ownB o).length=2:=f_m _ _
theorem a_ld (r:Rs) :(rtB r).length=2:=by unfold rtB;rw[List.length_append,f_m,f_m]
theorem a_sq (l:Ls) :(lnB l).length=12:=by unfold lnB;rw[List.length_append,List.length_append,f_m,f_m,f_m]
theorem a_gb {α:Type}{f:Wr→α→Wr}{g:α→List UInt8}{m:Nat}{p:α→Prop}(hg:∀x,(g x).length=m)
   (hf:∀(w:Wr) x,p x→w.e=0→(w.out.length:Int) +m≤w.lim→f w x=⟨0,w.out ++ g x,w.lim⟩) :∀(l:List α) (w:Wr),(∀x ∈ l,p x)→w.e=0→(w.out.length:Int) +m * l.length≤w.lim→
     l.foldl f w=⟨0,w.out ++ (l.map g).flatten,w.lim⟩:=by
 intro l
 induction l with
 | nil=>intro w _ he _;cases w;simp at he ⊢;exact he
 | cons x l ih=>
   intro w hp he hl
   rw[List.length_cons] at hl
   have e:(m:Int) * ((l.length+1:Nat) :Int) =m * l.length+m:=by rw[Int.natCast_add,Int.mul_add];simp
   rw[e] at hl
   have hm0:(0:Int)≤m * l.length:=Int.mul_nonneg (by omega) (by omega)
   rw[List.foldl_cons,hf w x (hp x (by simp)) he (by omega),ih _ (fun y hy=>hp y (by simp[hy])) rfl (by simp only[List.length_append,hg];omega)]
   simp[List.append_assoc]
theorem a_wl {c:Cf}{k:Co}(h:FitIs c k) :k.saveW=⟨0,k.saveB,2 * (k.Own.length:Int) +2 * k.Routes.length+36⟩:=by
 have hR:c.Rts.length≤12:=(a_y h.chk).2.2.1
 have tm0:∀{n:Int},tm 0 n=true→0≤n∧n < 256 ^ 4:=fun h=>by
   have:=of_decide_eq_true h
   have e:(256:Int) ^ 4=4294967296:=by decide
   rw[e];omega
 have o1:=a_gb (f:=ownW) (g:=ownB) (m:=2) (p:=fun o=> -2≤o∧o≤12) y_k (fun w x hx he hl=>by
   have := Wr.num_fit (w := w) (k := 2) (n := x + 2) he (by omega) (by have e : (256 : Int) ^ 2 = 65536 := by decide
                                                                       rw[e];omega) hl
   unfold ownW ownB
   rw[if_neg (by omega)];exact this) k.Own ⟨0,[],2 * (k.Own.length:Int) +2 * k.Routes.length+36⟩ (fun o ho=>by have:=h.own o ho;omega) rfl (by simp;omega)
 have o2:=a_gb (f:=rtW) (g:=rtB) (m:=2) (p:=fun r=>(0≤r.State∧r.State≤5)∧0≤r.Next∧r.Next < 256) a_ld (fun w x hx he hl=>by
   have e:(256:Int) ^ 1=256:=by decide
   have h1:=Wr.num_fit (w:=w) (k:=1) (n:=x.State) he hx.1.1 (by rw[e];omega) (by omega)
   unfold rtW rtB
   rw[h1,Wr.num_fit (w:=⟨0,w.out ++ be 1 x.State,w.lim⟩) (k:=1) (n:=x.Next) rfl hx.2.1 (by rw[e];omega) (by simp[f_m];omega)]
   simp[List.append_assoc]) k.Routes ⟨0,(k.Own.map ownB).flatten,2 * (k.Own.length:Int) +2 * k.Routes.length+36⟩ (fun r hr=>by
     obtain ⟨i,hi⟩:=List.mem_iff_getElem?.1 hr
     obtain ⟨y,hy⟩:=a_g (l:=c.Rts) (j:=i) (by have:=(List.getElem?_eq_some_iff.1 hi).1;have:=h.lRts;omega)
     have:=h.rts i r y hi hy
     simp only[Rs.fits,Bool.and_eq_true,decide_eq_true_eq] at this
     have hp:y.Path.length≤8:=(a_7 h.chk (List.mem_of_getElem? hy)).len.2
     exact ⟨this.1.1,this.1.2.1,by have:=this.1.2.2;omega⟩) rfl (by simp[n_w y_k];omega)
 have o3:=a_gb (f:=lnW) (g:=lnB) (m:=12) (p:=fun l=>(0≤l.Ask∧l.Ask < 256 ^ 4)∧(0≤l.Done∧l.Done < 256 ^ 4)∧(0≤l.Grant∧l.Grant < 256 ^ 4)) a_sq (fun w x hx he hl=>by
   have h1:=Wr.num_fit (w:=w) (k:=4) (n:=x.Ask) he hx.1.1 hx.1.2 (by omega)
   have h2:=Wr.num_fit (w:=⟨0,w.out ++ be 4 x.Ask,w.lim⟩) (k:=4) (n:=x.Done) rfl hx.2.1.1 hx.2.1.2 (by simp[f_m];omega)
   have h3:=Wr.num_fit (w:=⟨0,w.out ++ be 4 x.Ask ++ be 4 x.Done,w.lim⟩) (k:=4) (n:=x.Grant) rfl hx.2.2.1 hx.2.2.2 (by simp[f_m];omega)
   unfold lnW lnB
   rw[h1,h2,h3]
   simp[List.append_assoc]) ((k.Lines.drop 1).take 3) ⟨0,(k.Own.map ownB).flatten ++ (k.Routes.map rtB).flatten,2 * (k.Own.length:Int) +2 * k.Routes.length+36⟩ (fun l hl=>by
     have:=h.lns l (List.mem_of_mem_drop (List.mem_of_mem_take hl))
     simp only[Ls.fits,Bool.and_eq_true] at this
     exact ⟨tm0 this.1.1,tm0 this.1.2.1,tm0 this.1.2.2.1⟩) rfl (by
     simp only[List.length_append,n_w y_k,n_w a_ld,List.length_take,List.length_drop]
     omega)
 unfold Co.saveW
 rw[o1]
 simp only[List.nil_append]
 rw[o2,o3]
 rfl
theorem a_ts {c:Cf}{k:Co}(h:FitIs c k) :k.saveC=(k.saveB,0):=by
 unfold Co.saveC
 rw[if_neg (by rw[h.lLn];omega),a_wl h]
 rfl
theorem a_qt:∀(l:List Int) (t:List UInt8),(∀o ∈ l,-2≤o∧o≤12)→u_7 l.length ⟨0,(l.map ownB).flatten ++ t⟩ =(l,⟨0,t⟩):=by
 intro l
 induction l with
 | nil=>intro t _;rfl
 | cons o l ih=>
   intro t h
   have ho:=h o (by simp)
   have e:(⟨0,((o::l).map ownB).flatten ++ t⟩ :Rd).num 2=(o+2,⟨0,(l.map ownB).flatten ++ t⟩):=by
     rw[List.map_cons,List.flatten_cons,List.append_assoc]
     exact Rd.num_be (by omega) (by have e : (256 : Int) ^ 2 = 65536 := by decide
                                    rw[e];omega) _
   rw[List.length_cons,u_7,e,ih t fun y hy=>h y (by simp[hy])]
   simp only[Prod.mk.injEq,List.cons.injEq,and_true]
   omega
theorem a_r8:∀(l:List Rs) (t:List UInt8),(∀r ∈ l,(0≤r.State∧r.State≤5)∧0≤r.Next∧r.Next < 256)→u_s l.length ⟨0,(l.map rtB).flatten ++ t⟩ =(l.map fun r=>⟨r.State,0,r.Next,0⟩,⟨0,t⟩):=by
 intro l
 induction l with
 | nil=>intro t _;rfl
 | cons r l ih=>
   intro t h
   have hr:=h r (by simp)
   have e1:(256:Int) ^ 1=256:=by decide
   have e:(⟨0,((r::l).map rtB).flatten ++ t⟩ :Rd).num 1=(r.State,⟨0,be 1 r.Next ++ ((l.map rtB).flatten ++ t)⟩):=by
     rw[List.map_cons,List.flatten_cons,List.append_assoc,rtB,List.append_assoc]
     exact Rd.num_be (by omega) (by rw[e1];omega) _
   have e2:=Rd.num_be (k:=1) hr.2.1 (by rw[e1];omega) ((l.map rtB).flatten ++ t)
   rw[List.length_cons,u_s,e]
   simp only
   rw[e2,ih t fun y hy=>h y (by simp[hy])]
   rfl
theorem a_rz:∀(l:List Ls) (t:List UInt8),(∀x ∈ l,(0≤x.Ask∧x.Ask < 256 ^ 4)∧(0≤x.Done∧x.Done < 256 ^ 4)∧(0≤x.Grant∧x.Grant < 256 ^ 4))→
   u_t l.length ⟨0,(l.map lnB).flatten ++ t⟩ =(l.map fun x=>ln3 x.Ask x.Done x.Grant,⟨0,t⟩):=by
 intro l
 induction l with
 | nil=>intro t _;rfl
 | cons x l ih=>
   intro t h
   have hx:=h x (by simp)
   have e:(⟨0,((x::l).map lnB).flatten ++ t⟩ :Rd).num 4=(x.Ask,⟨0,be 4 x.Done ++ (be 4 x.Grant ++ ((l.map lnB).flatten ++ t))⟩):=by
     rw[List.map_cons,List.flatten_cons,List.append_assoc,lnB,List.append_assoc,List.append_assoc]
     exact Rd.num_be hx.1.1 hx.1.2 _
   have e2:=Rd.num_be hx.2.1.1 hx.2.1.2 (be 4 x.Grant ++ ((l.map lnB).flatten ++ t))
   have e3:=Rd.num_be hx.2.2.1 hx.2.2.2 ((l.map lnB).flatten ++ t)
   rw[List.length_cons,u_t,e]
   simp only
   rw[e2]
   simp only
   rw[e3,ih t fun y hy=>h y (by simp[hy])]
   rfl
def Co.backK (c:Cf)(k:Co)(now:Int) :Co:=
 ⟨k.Own,k.Routes.map (fun r=>f_s ⟨r.State,0,r.Next,0⟩),(b_o c now).Points,(b_o c now).Xs,⟨0,0,0,0,0,0,0,0⟩ :: ((k.Lines.drop 1).take 3).map (fun x=>ln3 x.Ask x.Done x.Grant),(b_o c now).Resets,false⟩
theorem a_tm {c:Cf}{k:Co}(h:FitIs c k){now:Int}(hn:tm 0 now=true) :c.loadC now k.saveB=(k.backK c now,0):=by
 have hR:c.Rts.length≤12:=(a_y h.chk).2.2.1
 have tm0:∀{n:Int},tm 0 n=true→0≤n∧n < 256 ^ 4:=fun h=>by
   have:=of_decide_eq_true h
   have e:(256:Int) ^ 4=4294967296:=by decide
   rw[e];omega
 have b1:=a_qt k.Own ((k.Routes.map rtB).flatten ++ (((k.Lines.drop 1).take 3).map lnB).flatten) fun o ho=>by have:=h.own o ho;omega
 have hrt:∀r ∈ k.Routes,(0≤r.State∧r.State≤5)∧0≤r.Next∧r.Next < 256:=fun r hr=>by
   obtain ⟨i,hi⟩:=List.mem_iff_getElem?.1 hr
   obtain ⟨y,hy⟩:=a_g (l:=c.Rts) (j:=i) (by have:=(List.getElem?_eq_some_iff.1 hi).1;have:=h.lRts;omega)
   have:=h.rts i r y hi hy
   simp only[Rs.fits,Bool.and_eq_true,decide_eq_true_eq] at this
   have hp:y.Path.length≤8:=(a_7 h.chk (List.mem_of_getElem? hy)).len.2
   exact ⟨this.1.1,this.1.2.1,by have:=this.1.2.2;omega⟩
 have b2:=a_r8 k.Routes (((k.Lines.drop 1).take 3).map lnB).flatten hrt
 have hln:∀x ∈ (k.Lines.drop 1).take 3,(0≤x.Ask∧x.Ask < 256 ^ 4)∧(0≤x.Done∧x.Done < 256 ^ 4)∧(0≤x.Grant∧x.Grant < 256 ^ 4):=fun x hx=>by
   have:=h.lns x (List.mem_of_mem_drop (List.mem_of_mem_take hx))
   simp only[Ls.fits,Bool.and_eq_true] at this
   exact ⟨tm0 this.1.1,tm0 this.1.2.1,tm0 this.1.2.2.1⟩
 have b3:=a_rz ((k.Lines.drop 1).take 3) [] hln
 rw[List.append_nil] at b3
 have l3:((k.Lines.drop 1).take 3).length=3:=by rw[List.length_take,List.length_drop,h.lLn];rfl
 rw[h.lOwn] at b1
 rw[h.lRts] at b2
 rw[l3] at b3
 have hq:c.loadQ now k.saveB=(⟨k.Own,k.Routes.map (fun r=>⟨r.State,0,r.Next,0⟩),(b_o c now).Points,(b_o c now).Xs,⟨0,0,0,0,0,0,0,0⟩ :: ((k.Lines.drop 1).take 3).map (fun x=>ln3 x.Ask x.Done x.Grant),(b_o c now).Resets,true⟩,⟨0,[]⟩):=by
   unfold Cf.loadQ Co.saveB
   rw[List.append_assoc,b1]
   simp only
   rw[b2]
   simp only
   rw[b3]
 have hf:Co.fits c ⟨k.Own,k.Routes.map (fun r=>⟨r.State,0,r.Next,0⟩),(b_o c now).Points,(b_o c now).Xs,⟨0,0,0,0,0,0,0,0⟩ :: ((k.Lines.drop 1).take 3).map (fun x=>ln3 x.Ask x.Done x.Grant),(b_o c now).Resets,true⟩ =true:=by
   have hnew:=fits_iff.1 (a_fm h.chk hn)
   refine fits_iff.2 ⟨h.chk,h.lOwn,hnew.lPts,hnew.lRes,by rw[List.length_map];exact h.lRts,hnew.lXs,by rw[List.length_cons,List.length_map,l3],h.own,fun i x r hi hr=>?_,hnew.pts,hnew.xs,fun l hl=>?_,hnew.res⟩
   · simp only[List.getElem?_map,Option.map_eq_some_iff] at hi
     obtain ⟨y,hy,rfl⟩:=hi
     have:=h.rts i y r hy hr
     simp only[Rs.fits,Bool.and_eq_true,decide_eq_true_eq] at this ⊢
     exact ⟨this.1,by decide⟩
   · simp only[List.mem_cons,List.mem_map] at hl
     rcases hl with rfl | ⟨x,hx,rfl⟩
     · decide
     · have:=h.lns x (List.mem_of_mem_drop (List.mem_of_mem_take hx))
       simp only[Ls.fits,Bool.and_eq_true,ln3] at this ⊢
       exact ⟨⟨this.1.1,this.1.2.1,this.1.2.2.1,this.1.2.2.1,by decide,by decide,by decide⟩,by decide⟩
 unfold Cf.loadC
 rw[hq,if_pos ⟨rfl,rfl,hf,hn⟩]
 simp only[Prod.mk.injEq,and_true,Co.backK,List.map_map]
 rfl
end
end Go.Fw
namespace Go.Proofs.YtdmfnhbmhkgemaaGreat
open Go.Fw Go.Proofs Go.RowKit
open Go.Proofs.Tryz (prog)
section
variable {σ σ0:Store}
theorem a_am {α β:Type}(f:β→α→β)(l:List α)(b:β)(j:Nat)(x:α)(hx:l[j]? =some x) :(l.take (j+1)).foldl f b=f ((l.take j).foldl f b) x:=by
 rw[List.take_add_one,hx,Option.toList_some,List.foldl_append];rfl
theorem q_x {α:Type}{f:Wr→α→Wr}{m:Nat}(hf:∀w x,(f w x).out.length≤w.out.length+m∧(f w x).lim=w.lim) :∀(l:List α) (w:Wr),(l.foldl f w).out.length≤w.out.length+m * l.length∧(l.foldl f w).lim=w.lim:=by
 intro l
 induction l with
 | nil=>intro w;simp
 | cons x l ih=>
   intro w
   have h1:=ih (f w x)
   have h2:=hf w x
   rw[List.foldl_cons]
   refine ⟨Nat.le_trans h1.1 ?_,h1.2.trans h2.2⟩
   rw[List.length_cons,Nat.mul_add];omega
theorem a_op (w:Wr)(o:Int) :(ownW w o).out.length≤w.out.length+2∧(ownW w o).lim=w.lim:=w.num_out 2 _
theorem a_tg (w:Wr)(r:Rs) :(rtW w r).out.length≤w.out.length+2∧(rtW w r).lim=w.lim:=by
 have h1:=w.num_out 1 r.State
 have h2:=(w.num 1 r.State).num_out 1 r.Next
 unfold rtW
 exact ⟨by omega,h2.2.trans h1.2⟩
theorem a_xq (w:Wr)(l:Ls) :(lnW w l).out.length≤w.out.length+12∧(lnW w l).lim=w.lim:=by
 have h1:=w.num_out 4 l.Ask
 have h2:=(w.num 4 l.Ask).num_out 4 l.Done
 have h3:=((w.num 4 l.Ask).num 4 l.Done).num_out 4 l.Grant
 unfold lnW
 exact ⟨by omega,h3.2.trans (h2.2.trans h1.2)⟩
theorem a_fk {f:FuncId}{m:Nat}{s:Store}{id:Nat}{w:Wr}(h:WrIn σ0 s id w){ns:List Int}{n:Nat}(hn:n=ns.length)
   (hf:∀{τ s:Store} {w:Wr} {d:D} {ns:List Int},WrIn τ s id w→At prog τ a_i d (ns.map Go.Fw.encI)→w.out.length+4 * ns.length≤2 ^ 40→0≤w.lim∧w.lim≤2 ^ 60→DCalls prog f [.one (pO id), .one d] s fun r s'=>r= .tup []∧WrIn τ s' id (ns.foldl (fun w n=>w.num m n) w))
   (hs:w.out.length+4 * ns.length≤2 ^ 40) (hlim:0≤w.lim∧w.lim≤2 ^ 60) {K:Store→Prop} (hK:∀s',WrIn σ0 s' id (ns.foldl (fun w n=>w.num m n) w)→K s') :
   Fw.newObj s (.live a_i (ns.map Go.Fw.encI)) fun i s1=>DCalls prog f [.one (pO id), .one (.osl i 0 n)] s1 fun r s2=>(r= .tup [])∧K s2:=by
 refine a_d fun i s1 hi hset he hs1=>?_
 obtain ⟨τ,h1,h2,h3⟩:=h.newList (so:= .live a_i (ns.map Go.Fw.encI)) hi (by intro e;cases e)
 rw[←hset] at h1
 refine (hf h1 (At.fresh h3 (by rw[List.length_map];omega) (by rw[List.length_map];exact hn)) hs hlim).mono ?_
 rintro r s2 ⟨rfl,h4⟩
 refine ⟨rfl,hK s2 ?_⟩
 obtain ⟨q1,d,q2,q3,q4⟩:=h4
 refine ⟨?_,d,q2,Own.from h2 q3,q4⟩
 by_cases hf:σ0 id= .free
 · exact hf
 · have:=h2 id hf;rw[q1] at this;exact this.symm
theorem a_jp {k0 k1 k2 k3 k4 k5:D}{k:Co}(hk:CoAt σ k0 k1 k2 k3 k4 k5 k)(h1:k.Own.length≤2 ^ 30)(h2:k.Routes.length≤2 ^ 30)(hI:∀o ∈ k.Own,-2 ^ 63≤o) :
   Pure prog p_l [coA k0 k1 k2 k3 k4 k5 k.Dirty] σ (.tup [.one (.str (ofL k.saveC.1)),iA k.saveC.2]):=by
 refine .of ?_ (.tup [.str (ofL k.saveC.1),iD k.saveC.2] (by simp only[List.mem_cons,List.not_mem_nil,or_false];rintro d (rfl | rfl) <;> constructor))
 have hl4:=hk.lines.size
 rw[List.length_map] at hl4
 refine a_lh k0 k1 k2 k3 k4 k5 k.Dirty σ _ (hk.lines.lenK ?_)
 rw[List.length_map]
 refine bcd (fun hlt=>?_) (fun hge=>?_)
 · rw[Co.saveC,if_pos (by omega)]
   exact ⟨rfl, .refl _⟩
 have hge:¬k.Lines.length < 4:=by omega
 refine hk.own.lenK (hk.routes.lenK ?_)
 rw[List.length_map,List.length_map]
 have hlim:w64 (w64 (w64 (2 * (k.Own.length:Int)) +w64 (2 * (k.Routes.length:Int))) +36) =2 * (k.Own.length:Int) +2 * k.Routes.length+36:=by
   rw[a_w (n:=2 * (k.Own.length:Int)) (by omega) (by omega),a_w (n:=2 * (k.Routes.length:Int)) (by omega) (by omega),a_w (n:=2 * (k.Own.length:Int) +2 * (k.Routes.length:Int)) (by omega) (by omega),a_w (by omega) (by omega)]
 rw[hlim]
 refine (a_pv _ (by omega)).mono ?_
 rintro r s ⟨id,rfl,hw⟩
 refine ⟨_,rfl,(hk.own.ext hw.ext).lenK ?_⟩
 rw[List.length_map]
 generalize hw0:(⟨0,[],2 * (k.Own.length:Int) +2 * k.Routes.length+36⟩ :Wr) =w0 at hw
 have l0:w0.out.length=0∧w0.lim=2 * (k.Own.length:Int) +2 * k.Routes.length+36:=by rw[←hw0];exact ⟨rfl,rfl⟩
 refine ⟨fun n s=>∃j:Nat,n=j∧j≤k.Own.length∧WrIn σ s id ((k.Own.take j).foldl ownW w0),fun n _=>k.Own.length - n.toNat,⟨0,rfl,by omega,hw⟩,?_⟩
 rintro _ s1 ⟨j,rfl,hj,hw1⟩
 refine bcd (fun hlt=>?_) (fun hge1=>?_)
 · have hlt:j < k.Own.length:=by omega
   obtain ⟨o,ho⟩:=a_g (l:=k.Own) (j:=j) hlt
   have hof:=q_x a_op (k.Own.take j) w0
   rw[List.length_take,Nat.min_eq_left hj] at hof
   refine (hk.own.ext hw1.ext).load (a_c ho) c_int rfl ⟨o,rfl,?_⟩
   have hoI:=hI o (List.mem_of_getElem? ho)
   have hwo:w64 ((if (1048576:Int) < o then 1048576 else o) +2) =(if 1048576 < o then 1048576 else o) +2:=by
     rw[a_w] <;> split <;> omega
   rw[hwo]
   refine a_fk (m:=2) (ns:= [(if 1048576 < o then 1048576 else o) +2]) hw1 rfl (fun h hd hs hl=>a_ez h hd hs hl) (by simp;omega) (by rw[hof.2];omega) fun s2 hw2=>?_
   rw[a_m (by omega)]
   exact ⟨⟨j+1,rfl,hlt,by rw[a_am _ _ _ _ _ ho];exact hw2⟩,c_9 hlt⟩
 have e:j=k.Own.length:=by omega
 subst e
 rw[List.take_length] at hw1
 have hof:=q_x a_op k.Own w0
 generalize hw1e:k.Own.foldl ownW w0=w1 at hw1 hof
 refine (hk.routes.ext hw1.ext).lenK ⟨fun n s=>∃j:Nat,n=j∧j≤k.Routes.length∧WrIn σ s id ((k.Routes.take j).foldl rtW w1),fun n _=>k.Routes.length - n.toNat,⟨0,rfl,by omega,hw1⟩,?_⟩
 rintro _ s2 ⟨j,rfl,hj,hw2⟩
 rw[List.length_map]
 refine bcd (fun hlt=>?_) (fun hge2=>?_)
 · have hlt:j < k.Routes.length:=by omega
   obtain ⟨o,ho⟩:=a_g (l:=k.Routes) (j:=j) hlt
   have hrf:=q_x a_tg (k.Routes.take j) w1
   rw[List.length_take,Nat.min_eq_left hj] at hrf
   refine (hk.routes.ext hw2.ext).load (a_c ho) a_x rfl ⟨o.State,o.Since,o.Next,o.Mark,rfl,?_⟩
   refine a_fk (m:=1) (ns:= [o.State,o.Next]) hw2 rfl (fun h hd hs hl=>a_ga h hd hs hl) (by simp;omega) (by rw[hrf.2,hof.2];omega) fun s3 hw3=>?_
   rw[a_m (by omega)]
   exact ⟨⟨j+1,rfl,hlt,by rw[a_am _ _ _ _ _ ho];exact hw3⟩,c_9 hlt⟩
 have e:j=k.Routes.length:=by omega
 subst e
 rw[List.take_length] at hw2
 have hrf:=q_x a_tg k.Routes w1
 generalize hw2e:k.Routes.foldl rtW w1=w2 at hw2 hrf
 have hk4:=hk.lines.ext hw2.ext
 have hsub:=hk4.sub (lo:=1) (hi:=4) (by omega) (by rw[List.length_map];omega)
 rw[←List.map_drop,←List.map_take] at hsub
 have hsl:((k.Lines.drop 1).take (4 - 1)).length=3:=by rw[List.length_take,List.length_drop];omega
 refine hk4.sliceK (lo:=1) (hi:=4) b_8 rfl rfl (by omega) (by rw[List.length_map];omega) (hsub.lenK ⟨fun n s=>∃j:Nat,n=j∧j≤3∧WrIn σ s id ((((k.Lines.drop 1).take 3).take j).foldl lnW w2),fun n _=>3 - n.toNat,⟨0,rfl,by omega,hw2⟩,?_⟩)
 rintro _ s3 ⟨j,rfl,hj,hw3⟩
 rw[List.length_map,hsl]
 have hsub3:At prog s3 d_l (g_i k4 1 4) (((k.Lines.drop 1).take 3).map Ls.enc):=by
   have:=(hk.lines.ext hw3.ext).sub (lo:=1) (hi:=4) (by omega) (by rw[List.length_map];omega)
   rw[←List.map_drop,←List.map_take] at this;exact this
 refine bcd (fun hlt=>?_) (fun hge3=>?_)
 · have hlt:j < 3:=by omega
   obtain ⟨o,ho⟩:=a_g (l:=(k.Lines.drop 1).take 3) (j:=j) (by rw[hsl];exact hlt)
   have hlf:=q_x a_xq (((k.Lines.drop 1).take 3).take j) w2
   rw[List.length_take,hsl,Nat.min_eq_left hj] at hlf
   refine hsub3.load (a_c ho) b_8 rfl ⟨o.Ask,o.Done,o.Grant,o.Told,o.PAsk,o.PDone,o.PGrant,o.Since,rfl,?_⟩
   refine a_fk (m:=4) (ns:= [o.Ask,o.Done,o.Grant]) hw3 rfl (fun h hd hs hl=>a_e4 h hd hs hl) (by simp only[List.length_cons,List.length_nil];omega) (by rw[hlf.2,hrf.2,hof.2];omega) fun s4 hw4=>?_
   rw[a_m (by omega)]
   exact ⟨⟨j+1,rfl,hlt,by rw[a_am _ _ _ _ _ ho];exact hw4⟩,c_9 hlt⟩
 have e:j=3:=by omega
 subst e
 rw[List.take_take,Nat.min_self] at hw3
 have hsave:((k.Lines.drop 1).take 3).foldl lnW w2=k.saveW:=by rw[Co.saveW,←hw2e,←hw1e,←hw0]
 rw[hsave] at hw3
 refine (a_ep hw3).use ⟨_,_,rfl,?_⟩
 rw[Co.saveC,if_neg hge]
 exact ⟨rfl,hw3.ext⟩
/-! ### Load -/
theorem CoOwn.other {s s':Store}{d0 d1 d2 d3 d4 d5:D}{k:Co}{id:Nat}(h:CoOwn σ0 s d0 d1 d2 d3 d4 d5 k)(hn:σ0 id= .free)(hi:∀d ∈ [d0,d1,d2,d3,d4,d5],a_5 d≠some id)(hs:∀i,i≠id→s' i=s i) :CoOwn σ0 s' d0 d1 d2 d3 d4 d5 k:=
 ⟨a_h h.own hn (hi _ (by simp)) hs,a_h h.routes hn (hi _ (by simp)) hs,a_h h.points hn (hi _ (by simp)) hs,a_h h.xs hn (hi _ (by simp)) hs,a_h h.lines hn (hi _ (by simp)) hs,a_h h.resets hn (hi _ (by simp)) hs,h.apart⟩
theorem a_ej {α:Type}(a b:List α)(x y:α) :(a ++ x::b).set a.length y=a ++ y::b:=by
 rw[List.set_append_right _ _ (Nat.le_refl _),Nat.sub_self];rfl
theorem a_ir {c0 c1 c2 c3 c4:D}{c:Cf}(h:∀s,CfAt s c0 c1 c2 c3 c4 c)(now:Int)(h1:c.Secs.length≤2 ^ 20)(h2:c.Xs.length≤2 ^ 20)(h3:c.Rts.length≤2 ^ 20){l:List UInt8}(hl:l.length≤2 ^ 60) :
   DCalls prog o_y [cfA c0 c1 c2 c3 c4 c,iA now, .one (.str (ofL l))] σ (CoPost σ (c.loadC now l)):=by
 refine a_m5 _ _ _ _ _ _ _ _ _ now (ofL l) σ _ ((p_b h now h1 h2 h3).mono ?_)
 rintro r s0 ⟨k0,k1,k2,k3,k4,k5,rfl,hk0⟩
 refine ⟨_,_,_,_,_,_,_,rfl,(a_my l).mono ?_⟩
 rintro r s1 ⟨id,rfl,hid0,hr1,he1,ho1⟩
 have hid:σ id= .free:=by
   by_cases hf:σ id= .free
   · exact hf
   · have:=hk0.own.ext id hf;rw[hid0] at this;exact this.symm
 have hne:∀d ∈ [k0,k1,k2,k3,k4,k5],a_5 d≠some id:=by
   intro d hd hi
   simp only[List.mem_cons,List.not_mem_nil,or_false] at hd
   rcases hd with rfl | rfl | rfl | rfl | rfl | rfl
   · exact f_t hk0.own.at_ hi hid0
   · exact f_t hk0.routes.at_ hi hid0
   · exact f_t hk0.points.at_ hi hid0
   · exact f_t hk0.xs.at_ hi hid0
   · exact f_t hk0.lines.at_ hi hid0
   · exact f_t hk0.resets.at_ hi hid0
 have hk1:=hk0.other hid hne ho1
 have eO:(b_o c now).Own=List.replicate c.Secs.length (-1):=rfl
 have eR:(b_o c now).Routes=List.replicate c.Rts.length ⟨0,0,0,0⟩:=rfl
 have eL:(b_o c now).Lines=List.replicate 4 ⟨0,0,0,0,0,0,0,0⟩:=rfl
 have eD:(b_o c now).Dirty=true:=rfl
 have nO:(b_o c now).Own.length=c.Secs.length:=by simp[b_o]
 have nR:(b_o c now).Routes.length=c.Rts.length:=by simp[b_o]
 generalize hkk:b_o c now=k at *
 refine ⟨_,rfl,hk1.own.at_.lenK ?_⟩
 rw[List.length_map,nO]
 refine ⟨fun n s => ∃ (j : Nat) (a : List Int) (q : Rd), n = j ∧ j ≤ c.Secs.length ∧ a.length = j ∧ CoOwn σ s k0 k1 k2 k3 k4 k5 { k with Own := a ++ List.replicate (c.Secs.length - j) (-1) } ∧ p_e s id q ∧ q.l.length ≤ l.length ∧
     u_7 c.Secs.length ⟨0,l⟩ =(a ++ (u_7 (c.Secs.length - j) q).1,(u_7 (c.Secs.length - j) q).2),fun n _=>c.Secs.length - n.toNat,⟨0,[],⟨0,l⟩,rfl,by omega,rfl,by rw[List.nil_append,Nat.sub_zero,←eO];exact hk1,hr1,Nat.le_refl _,rfl⟩,?_⟩
 rintro _ s2 ⟨j,a,q,rfl,hj,ha,hk2,hr2,hq,hrd⟩
 refine bcd (fun hlt=>?_) (fun hge=>?_)
 · have hlt:j < c.Secs.length:=by omega
   obtain ⟨m,hm⟩ :∃m,c.Secs.length - j=m+1:=⟨c.Secs.length - j - 1,by omega⟩
   have hm':c.Secs.length - (j+1) =m:=by omega
   rw[hm] at hk2 hrd
   rw[List.replicate_succ] at hk2
   refine (a_fq hr2 (by omega)).mono ?_
   rintro r s3 ⟨rfl,hr3,ho3⟩
   have hk3:=hk2.other hid hne ho3
   have hb:=a_rt
   have hn2:0≤(q.num 2).1∧(q.num 2).1 < 2 ^ 60:=by
     unfold Rd.num
     split
     · have:=a_rt ((q.short 2).l.take 2) 0 (by omega)
       refine ⟨this.1,Int.lt_of_lt_of_le this.2 ?_⟩
       have e:∀m:Nat,(0+1:Int) * (256:Int) ^ m=((256 ^ m:Nat) :Int):=fun m=>by simp
       rw[e]
       have:256 ^ ((q.short 2).l.take 2).length≤256 ^ 2:=Nat.pow_le_pow_right (by omega) (by rw[List.length_take];omega)
       omega
     · exact ⟨Int.le_refl 0,by show (0:Int) < 2 ^ 60;decide⟩
   refine ⟨_,rfl,?_⟩
   rw[a_w (n:=(q.num 2).1 - 2) (by omega) (by omega)]
   refine hk3.own.at_.idxK (j:=j) c_int rfl (by simp;omega) (hk3.putO (k:= { k with Own:=a ++ -1::List.replicate m (-1) }) (j:=j) (x:= -1) (y:=(q.num 2).1 - 2) (by show (a ++ -1::List.replicate m (-1))[j]? =_;rw[←ha,List.getElem?_append_right (Nat.le_refl _),Nat.sub_self];rfl) (by omega) (by simp) rfl fun s4 hk4 ho4=>⟨by trivial,?_⟩)
   rw[a_m (by omega)]
   refine ⟨⟨j+1,a ++ [(q.num 2).1 - 2],(q.num 2).2,rfl,hlt,by simp[ha],?_,(ho4 id (hne _ (by simp))).trans hr3,Nat.le_trans (q.num_len 2) hq,?_⟩,c_9 hlt⟩
   · rw[hm']
     have e:(a ++ -1::List.replicate m (-1)).set j ((q.num 2).1 - 2) =a ++ [(q.num 2).1 - 2] ++ List.replicate m (-1):=by rw[←ha,a_ej];simp
     rw[←e];exact hk4
   · rw[hm',hrd,u_7,List.append_assoc];rfl
 have e:j=c.Secs.length:=by omega
 subst e
 rw[Nat.sub_self,List.replicate_zero,List.append_nil] at hk2
 rw[Nat.sub_self,u_7,List.append_nil] at hrd
 refine hk2.routes.at_.lenK ?_
 rw[List.length_map,nR]
 refine ⟨fun n s => ∃ (j : Nat) (b : List Rs) (p : Rd), n = j ∧ j ≤ c.Rts.length ∧ b.length = j ∧ CoOwn σ s k0 k1 k2 k3 k4 k5 { k with Own := a, Routes := b ++ List.replicate (c.Rts.length - j) ⟨0, 0, 0, 0⟩ } ∧ p_e s id p ∧ p.l.length ≤ l.length ∧
     u_s c.Rts.length q=(b ++ (u_s (c.Rts.length - j) p).1,(u_s (c.Rts.length - j) p).2),fun n _=>c.Rts.length - n.toNat,⟨0,[],q,rfl,by omega,rfl,by rw[List.nil_append,Nat.sub_zero,←eR];exact hk2,hr2,hq,rfl⟩,?_⟩
 rintro _ s3 ⟨j,b,p,rfl,hj,hb,hk3,hr3,hp,hrt⟩
 refine bcd (fun hlt=>?_) (fun hge=>?_)
 · have hlt:j < c.Rts.length:=by omega
   obtain ⟨m,hm⟩ :∃m,c.Rts.length - j=m+1:=⟨c.Rts.length - j - 1,by omega⟩
   have hm':c.Rts.length - (j+1) =m:=by omega
   rw[hm] at hk3 hrt
   rw[List.replicate_succ] at hk3
   refine (q_1 hr3 (by omega)).mono ?_
   rintro r s4 ⟨rfl,hr4,ho4⟩
   refine ⟨_,rfl,(q_1 hr4 (by have:=p.num_len 1;omega)).mono ?_⟩
   rintro r s5 ⟨rfl,hr5,ho5⟩
   have hk5:=(hk3.other hid hne ho4).other hid hne ho5
   refine ⟨_,rfl,hk5.routes.at_.idxK (j:=j) a_x rfl (by simp;omega) (hk5.putR (k:= { k with Own:=a,Routes:=b ++ ⟨0,0,0,0⟩ ::List.replicate m ⟨0,0,0,0⟩ }) (j:=j) (x:=⟨0,0,0,0⟩) (y:=⟨(p.num 1).1,0,((p.num 1).2.num 1).1,0⟩) (by show (b ++ (⟨0,0,0,0⟩ :Rs) ::List.replicate m ⟨0,0,0,0⟩)[j]? =_;rw[←hb,List.getElem?_append_right (Nat.le_refl _),Nat.sub_self];rfl) (by omega) (by simp) rfl fun s6 hk6 ho6=>⟨by trivial,?_⟩)⟩
   rw[a_m (by omega)]
   refine ⟨⟨j+1,b ++ [⟨(p.num 1).1,0,((p.num 1).2.num 1).1,0⟩],((p.num 1).2.num 1).2,rfl,hlt,by simp[hb],?_,(ho6 id (hne _ (by simp))).trans hr5,Nat.le_trans ((p.num 1).2.num_len 1) (Nat.le_trans (p.num_len 1) hp),?_⟩,c_9 hlt⟩
   · rw[hm']
     have e:(b ++ (⟨0,0,0,0⟩ :Rs) ::List.replicate m ⟨0,0,0,0⟩).set j ⟨(p.num 1).1,0,((p.num 1).2.num 1).1,0⟩ =b ++ [⟨(p.num 1).1,0,((p.num 1).2.num 1).1,0⟩] ++ List.replicate m ⟨0,0,0,0⟩:=by rw[←hb,a_ej];simp
     rw[←e];exact hk6
   · rw[hm',hrt,u_s,List.append_assoc];rfl
 have e:j=c.Rts.length:=by omega
 subst e
 rw[Nat.sub_self,List.replicate_zero,List.append_nil] at hk3
 rw[Nat.sub_self,u_s,List.append_nil] at hrt
 have hL4:(k.Lines.map Ls.enc).length=4:=by rw[eL];rfl
 refine hk3.lines.at_.sliceFromK (lo:=1) b_8 rfl (by rw[hL4];omega) ?_
 rw[hL4]
 have hsub:=hk3.lines.at_.sub (lo:=1) (hi:=4) (by omega) (by rw[hL4];omega)
 refine hsub.lenK ?_
 have hsl:(((k.Lines.map Ls.enc).drop 1).take (4 - 1)).length=3:=by rw[List.length_take,List.length_drop,hL4];rfl
 rw[hsl]
 obtain ⟨N,hN⟩ :∃N:Nat,N=3:=⟨3,rfl⟩
 refine ⟨fun n s => ∃ (j : Nat) (d : List Ls) (p' : Rd), n = j ∧ j ≤ N ∧ d.length = j ∧ CoOwn σ s k0 k1 k2 k3 k4 k5 { k with Own := a, Routes := b, Lines := ⟨0, 0, 0, 0, 0, 0, 0, 0⟩ :: (d ++ List.replicate (N - j) ⟨0, 0, 0, 0, 0, 0, 0, 0⟩) } ∧ p_e s id p' ∧ p'.l.length ≤ l.length ∧
     u_t N p=(d ++ (u_t (N - j) p').1,(u_t (N - j) p').2),fun n _=>3 - n.toNat,⟨0,[],p,rfl,by omega,rfl,by rw[List.nil_append,Nat.sub_zero,←List.replicate_succ,hN,←eL];exact hk3,hr3,hp,rfl⟩,?_⟩
 rintro _ s4 ⟨j,d,p',rfl,hj,hd,hk4,hr4,hp',hln⟩
 refine bcd (fun hlt=>?_) (fun hge=>?_)
 · have hlt:j < N:=by omega
   obtain ⟨m,hm⟩ :∃m,N - j=m+1:=⟨N - j - 1,by omega⟩
   have hm':N - (j+1) =m:=by omega
   rw[hm] at hk4 hln
   rw[List.replicate_succ] at hk4
   refine (k_6 hr4 (by omega)).mono ?_
   rintro r s5 ⟨rfl,hr5,ho5⟩
   have n1:=p'.num_len 4
   refine ⟨_,rfl,(k_6 hr5 (by omega)).mono ?_⟩
   rintro r s6 ⟨rfl,hr6,ho6⟩
   have n2:=(p'.num 4).2.num_len 4
   refine ⟨_,rfl,(k_6 hr6 (by omega)).mono ?_⟩
   rintro r s7 ⟨rfl,hr7,ho7⟩
   have n3:=((p'.num 4).2.num 4).2.num_len 4
   have hk7:=((hk4.other hid hne ho5).other hid hne ho6).other hid hne ho7
   refine ⟨_,rfl,?_⟩
   rw[a_m (by omega)]
   refine hk7.lines.at_.idxK (j:=j+1) b_8 rfl (by simp;omega) (hk7.putL (k:= { k with Own:=a,Routes:=b,Lines:=⟨0,0,0,0,0,0,0,0⟩ :: (d ++ ⟨0,0,0,0,0,0,0,0⟩ ::List.replicate m ⟨0,0,0,0,0,0,0,0⟩) }) (j:=j+1) (x:=⟨0,0,0,0,0,0,0,0⟩) (y:=ln3 (p'.num 4).1 ((p'.num 4).2.num 4).1 (((p'.num 4).2.num 4).2.num 4).1) (by show ((⟨0,0,0,0,0,0,0,0⟩ :Ls) :: (d ++ ⟨0,0,0,0,0,0,0,0⟩ ::List.replicate m ⟨0,0,0,0,0,0,0,0⟩))[j+1]? =_;rw[List.getElem?_cons_succ,←hd,List.getElem?_append_right (Nat.le_refl _),Nat.sub_self];rfl) (by omega) (by simp) rfl fun s8 hk8 ho8=>⟨by trivial,?_⟩)
   refine ⟨⟨j+1,d ++ [ln3 (p'.num 4).1 ((p'.num 4).2.num 4).1 (((p'.num 4).2.num 4).2.num 4).1],(((p'.num 4).2.num 4).2.num 4).2,rfl,hlt,by simp[hd],?_,(ho8 id (hne _ (by simp))).trans hr7,by omega,?_⟩,c_9 (by omega)⟩
   · rw[hm']
     have e : ((⟨0, 0, 0, 0, 0, 0, 0, 0⟩ : Ls) :: (d ++ ⟨0, 0, 0, 0, 0, 0, 0, 0⟩ :: List.replicate m ⟨0, 0, 0, 0, 0, 0, 0, 0⟩)).set (j + 1) (ln3 (p'.num 4).1 ((p'.num 4).2.num 4).1 (((p'.num 4).2.num 4).2.num 4).1) =
         ⟨0,0,0,0,0,0,0,0⟩ :: (d ++ [ln3 (p'.num 4).1 ((p'.num 4).2.num 4).1 (((p'.num 4).2.num 4).2.num 4).1] ++ List.replicate m ⟨0,0,0,0,0,0,0,0⟩):=by rw[List.set_cons_succ,←hd,a_ej];simp
     rw[←e];exact hk8
   · rw[hm',hln,u_t,List.append_assoc];rfl
 have e:j=N:=by omega
 subst e
 rw[Nat.sub_self,List.replicate_zero,List.append_nil] at hk4
 rw[Nat.sub_self,u_t,List.append_nil] at hln
 subst hN
 have hQ:c.loadQ now l=(⟨a,b,k.Points,k.Xs,⟨0,0,0,0,0,0,0,0⟩ ::d,k.Resets,true⟩,p'):=by
   simp only[Cf.loadQ,hkk,hrd,hrt,hln]
 have hkq:CoOwn σ s4 k0 k1 k2 k3 k4 k5 ⟨a,b,k.Points,k.Xs,⟨0,0,0,0,0,0,0,0⟩ ::d,k.Resets,true⟩:=⟨hk4.own,hk4.routes,hk4.points,hk4.xs,hk4.lines,hk4.resets,hk4.apart⟩
 have bad : ∀ s, Ext σ s → ¬ (p'.e = 0 ∧ p'.l = [] ∧ Co.fits c ⟨a, b, k.Points, k.Xs, ⟨0, 0, 0, 0, 0, 0, 0, 0⟩ :: d, k.Resets, true⟩ = true ∧ tm 0 now = true) →
     CoPost σ (c.loadC now l) (.tup [.agg [.nils, .nils, .nils, .nils, .nils, .nils, .bool false],iA 3]) s:=fun s he hn=>by
   rw[Cf.loadC,hQ,if_neg hn]
   have ap:∀l:List D,(∀d ∈ l,d= .nils)→l.Pairwise Apart:=by
     intro l
     induction l with
     | nil=>intro _;exact .nil
     | cons x l ih=>intro h;exact .cons (fun y hy id h1=>by rw[h x (by simp)] at h1;cases h1) (ih fun d hd=>h d (by simp[hd]))
   exact ⟨.nils, .nils, .nils, .nils, .nils, .nils,rfl, .nil _ he, .nil _ he, .nil _ he, .nil _ he, .nil _ he, .nil _ he,ap _ (by simp)⟩
 intro R hR
 refine (a_jt hr4).use ⟨_,rfl,bcn (fun e=>bad s4 hkq.own.ext fun g=>?_) (fun e=>?_)⟩
 · rw[if_neg (fun g2=>g2.2 g.2.1)] at e;exact e g.1
 have hp0:p'.e=0∧p'.l=[]:=by
   by_cases h2:p'.e=0∧p'.l≠[]
   · rw[if_pos h2] at e;cases e
   · rw[if_neg h2] at e
     exact ⟨e,Classical.byContradiction fun h3=>h2 ⟨e,h3⟩⟩
 refine (f_a h hkq.at).use ⟨_,rfl,a_p (fun e=>bad s4 hkq.own.ext fun g=>by rw[g.2.2.1] at e;cases e) (fun hfit=>a_d fun id5 s5 hid5 _ he5 hs5=>?_)⟩
 have hk5:=hkq.ext' he5
 refine (e_t (l:= [now]) 0 (by omega) (At.fresh (rs:= [Go.Fw.encI now]) hs5 (by simp) rfl)).use ⟨_,rfl,?_⟩
 rw[show ([now].all fun n=>decide (0≤n∧n≤4294967295+0)) =tm 0 now by simp[tm]]
 refine a_p (fun e=>bad s5 hk5.own.ext fun g=>by rw[g.2.2.2] at e;cases e) (fun htm=>⟨by trivial,hR _ _ _ _ _ _ _ s5 ?_⟩)
 refine hk5.routes.at_.lenK ?_
 rw[List.length_map,hb]
 refine ⟨fun n s=>∃j:Nat,n=j∧j≤c.Rts.length∧CoOwn σ s k0 k1 k2 k3 k4 k5 ⟨a,(b.take j).map f_s ++ b.drop j,k.Points,k.Xs,⟨0,0,0,0,0,0,0,0⟩ ::d,k.Resets,true⟩,fun n _=>c.Rts.length - n.toNat,⟨0,rfl,by omega,by simpa using hk5⟩,?_⟩
 rintro _ s6 ⟨j,rfl,hj,hk6⟩
 refine bcd (fun hlt=>?_) (fun hge=>?_)
 · have hlt:j < c.Rts.length:=by omega
   obtain ⟨x,hx⟩:=a_g (l:=b) (j:=j) (by omega)
   have hln1:((b.take j).map f_s).length=j:=by rw[List.length_map,List.length_take];omega
   have hdx:b.drop j=x::b.drop (j+1):=by
     have hlt':=(List.getElem?_eq_some_iff.1 hx)
     rw[List.drop_eq_getElem_cons hlt'.1,hlt'.2]
   have hxj:((b.take j).map f_s ++ b.drop j)[j]? =some x:=by
     rw[List.getElem?_append_right (by omega),hln1,Nat.sub_self,hdx];rfl
   have next : ∀ y : Rs, y = f_s x → ∀ s7, CoOwn σ s7 k0 k1 k2 k3 k4 k5 ⟨a, ((b.take j).map f_s ++ b.drop j).set j y, k.Points, k.Xs, ⟨0, 0, 0, 0, 0, 0, 0, 0⟩ :: d, k.Resets, true⟩ →
       (∃j':Nat,w64 ((j:Int) +1) =j'∧j'≤c.Rts.length∧CoOwn σ s7 k0 k1 k2 k3 k4 k5 ⟨a,(b.take j').map f_s ++ b.drop j',k.Points,k.Xs,⟨0,0,0,0,0,0,0,0⟩ ::d,k.Resets,true⟩)∧c.Rts.length - (w64 ((j:Int) +1)).toNat < c.Rts.length - (j:Int).toNat:=fun y hy s7 h7=>by
     rw[a_m (by omega)]
     refine ⟨⟨j+1,rfl,hlt,?_⟩,c_9 hlt⟩
     have e:((b.take j).map f_s ++ b.drop j).set j y=(b.take (j+1)).map f_s ++ b.drop (j+1):=by
       rw[hdx,hy]
       have:=a_ej ((b.take j).map f_s) (b.drop (j+1)) x (f_s x)
       rw[hln1] at this
       rw[this,List.take_add_one,hx];simp
     rw[←e];exact h7
   refine hk6.routes.at_.load (a_c hxj) a_x rfl ⟨x.State,x.Since,x.Next,x.Mark,rfl,bce (fun h0=>?_) (fun h0=>?_)⟩
   · exact hk6.routes.at_.idxK (j:=j) a_x rfl (by simp;omega) (hk6.putR (k:=⟨a,(b.take j).map f_s ++ b.drop j,k.Points,k.Xs,⟨0,0,0,0,0,0,0,0⟩ ::d,k.Resets,true⟩) (j:=j) (x:=x) (y:=⟨0,0,0,0⟩) hxj (by omega) (by simp) rfl fun s7 h7 _=>⟨by trivial,next _ (by rw[f_s,if_pos h0]) s7 h7⟩)
   · exact hk6.routes.at_.idxK (j:=j) a_x rfl (by simp;omega) (hk6.putR (k:=⟨a,(b.take j).map f_s ++ b.drop j,k.Points,k.Xs,⟨0,0,0,0,0,0,0,0⟩ ::d,k.Resets,true⟩) (j:=j) (x:=x) (y:=⟨5,0,x.Next,0⟩) hxj (by omega) (by simp) rfl fun s7 h7 _=>⟨by trivial,next _ (by rw[f_s,if_neg h0]) s7 h7⟩)
 have e:j=c.Rts.length:=by omega
 subst e
 rw[←hb,List.take_length,List.drop_length,List.append_nil] at hk6
 rw[Cf.loadC,hQ,if_pos ⟨hp0.1,hp0.2,hfit,htm⟩]
 exact ⟨_,_,_,_,_,_,rfl,hk6.own,hk6.routes,hk6.points,hk6.xs,hk6.lines,hk6.resets,hk6.apart⟩
end
end Go.Proofs.YtdmfnhbmhkgemaaGreat
namespace Go.Fw
section
theorem y_m {b:Bool}{x:Br}(h:b=false) :opt b x=[]:=by unfold opt;rw[h];rfl
theorem a_o2 {k:Co}{r:Nat} :∀{l:List St},(∀s ∈ l,a_z k s.Sec=(r:Int) +1)→p_a k r l=[]
 | [],_=>rfl
 | s::l,h=>by rw[p_a,y_m (by rw[h s (by simp)];simp),a_o2 fun x hx=>h x (by simp[hx])];rfl
theorem a_cg {k:Co} :∀{l:List Rt} {r:Nat},(∀(j:Nat) x,l[j]? =some x→p_a k (r+j) (x.Path.drop (b_6 k (r+j) x.Path.length)) =[])→a_2 k l r=[]
 | [],_,_=>rfl
 | x::l,r,h=>by
   rw[a_2,show p_a k r (x.Path.drop (b_6 k r x.Path.length)) =[] from h 0 x rfl,a_cg fun j y hy=>by have:=h (j+1) y (by simpa using hy);rwa [show r+ (j+1) =r+1+j by omega] at this];rfl
theorem a_ka {k:Co} :∀{l:List Int} {s:Nat},(∀o ∈ l,(decide (o > 0) && inL [0] (c_s k (o - 1))) =false)→b_0 k l s=[]
 | [],_,_=>rfl
 | o::l,s,h=>by rw[b_0,y_m (h o (by simp)),a_ka fun x hx=>h x (by simp[hx])];rfl
theorem u_r {c:Cf}{k:Co} :∀{l:List Rt} {r:Nat},(∀(j:Nat) x,l[j]? =some x→d_y (c_s k ((r+j:Nat) :Int)) =true→e_s k (r+j) (c.needs x) =[])→a_t c k l r=[]
 | [],_,_=>rfl
 | x::l,r,h=>by
   rw[a_t,u_r fun j y hy=>by have:=h (j+1) y (by simpa using hy);rwa [show r+ (j+1) =r+1+j by omega] at this]
   split
   · rename_i hr;rw[show e_s k r (c.needs x) =[] from h 0 x rfl hr];rfl
   · rfl
theorem z_t {c:Cf}{k:Co} :∀{l:List Rt} {r:Nat},(∀(j:Nat) x,l[j]? =some x→inL [0] (c_s k ((r+j:Nat) :Int)) =false→e_q c k (r+j) (a_9 x.Path c.Xs 0) =[])→a_0 c k l r=[]
 | [],_,_=>rfl
 | x::l,r,h=>by
   rw[a_0,z_t fun j y hy=>by have:=h (j+1) y (by simpa using hy);rwa [show r+ (j+1) =r+1+j by omega] at this]
   split
   · rfl
   · rename_i hr;rw[show e_q c k r (a_9 x.Path c.Xs 0) =[] from h 0 x rfl (by simpa using hr)];rfl
theorem z_r {c:Cf}{k:Co}(h:∀l:Nat,u_x c k l=[]) :∀j,b_g c k j=[]
 | 0=>rfl
 | j+1=>by rw[b_g,z_r h j,h];rfl
/-! movers behind commands -/
theorem x_f {now:Int} :∀{l:List Nd} {w:List Mv} {s:Int},(∀n ∈ l,0≤n.Sec)→s ∉ l.map Nd.Sec→a_k (j_3 now l w) s=a_k w s
 | [],w,s,_,_=>rfl
 | n::l,w,s,h,hs=>by
   unfold j_3
   rw[List.foldl_cons]
   have ih:=x_f (now:=now) (l:=l) (w:=w.set n.Sec.toNat (g_o ((a_k w n.Sec).getD ⟨0,0⟩) now n.Pos)) (s:=s) (fun x hx=>h x (by simp[hx])) (fun e=>hs (by simp[List.mem_map] at e ⊢;exact .inr e))
   unfold j_3 at ih
   rw[ih,f_o (h n (by simp)) (fun e=>hs (by simp[e]))]
theorem a_o5 {now:Int} :∀{l:List Nd} {w:List Mv},(l.map Nd.Sec).Nodup→(∀n ∈ l,0≤n.Sec∧n.Sec < w.length)→∀n ∈ l,d_c (j_3 now l w) n.Sec=n.Pos
 | x::l,w,hnd,hr,n,hn=>by
   rw[List.map_cons,List.nodup_cons] at hnd
   have h0:=hr x (by simp)
   rcases List.mem_cons.1 hn with rfl | hn'
   · have e:=x_f (now:=now) (l:=l) (w:=w.set n.Sec.toNat (g_o ((a_k w n.Sec).getD ⟨0,0⟩) now n.Pos)) (s:=n.Sec) (fun y hy=>(hr y (by simp[hy])).1) hnd.1
     unfold j_3 at e ⊢
     rw[List.foldl_cons]
     unfold d_c
     rw[e,r_1 h0.1 h0.2]
     exact z_j _ _ _
   · have ih:=a_o5 (now:=now) (l:=l) (w:=w.set x.Sec.toNat (g_o ((a_k w x.Sec).getD ⟨0,0⟩) now x.Pos)) hnd.2 (fun y hy=>by rw[List.length_set];exact hr y (by simp[hy])) n hn'
     unfold j_3 at ih ⊢
     rw[List.foldl_cons];exact ih
theorem a_gi {now:Int} :∀{l:List Int} {w:List Mv} {i:Int},(∀j ∈ l,0≤j)→0≤i→d_c w i=1→d_c (xsC now l w) i=1
 | [],w,i,_,_,h=>h
 | j::l,w,i,hl,hi,h=>by
   have ih:=a_gi (now:=now) (l:=l) (w:=w.set j.toNat (g_o ((a_k w j).getD ⟨0,0⟩) now 1)) (i:=i) (fun x hx=>hl x (by simp[hx])) hi (by
     unfold d_c
     rw[n_3 (hl j (by simp))]
     split
     · exact z_j _ _ _
     · exact h)
   unfold xsC at ih ⊢
   rw[List.foldl_cons];exact ih
theorem a_s0 {now:Int} :∀{l:List Int} {w:List Mv},(∀j ∈ l,0≤j∧j < w.length)→∀i ∈ l,d_c (xsC now l w) i=1
 | j::l,w,hl,i,hi=>by
   have h0:=hl j (by simp)
   rcases List.mem_cons.1 hi with rfl | hi'
   · have e := a_gi (now := now) (l := l) (w := w.set i.toNat (g_o ((a_k w i).getD ⟨0, 0⟩) now 1)) (i := i) (fun x hx => (hl x (by simp [hx])).1) h0.1 (by
       unfold d_c;rw[r_1 h0.1 h0.2];exact z_j _ _ _)
     unfold xsC at e ⊢
     rw[List.foldl_cons];exact e
   · have ih:=a_s0 (now:=now) (l:=l) (w:=w.set j.toNat (g_o ((a_k w j).getD ⟨0,0⟩) now 1)) (fun x hx=>by rw[List.length_set];exact hl x (by simp[hx])) i hi'
     unfold xsC at ih ⊢
     rw[List.foldl_cons];exact ih
theorem t_a (c:Cf) :∀l:List St,List.Sublist ((l.filterMap (b_v c)).map Nd.Sec) (l.map St.Sec)
 | []=> .slnil
 | s::l=>by
   have ih:=t_a c l
   cases hn:b_v c s with
   | none=>rw[List.filterMap_cons_none hn];exact ih.cons _
   | some n=>
     rw[List.filterMap_cons_some hn,List.map_cons,List.map_cons]
     have:n.Sec=s.Sec:=by
       unfold b_v at hn
       split at hn
       · cases hn
       · split at hn
         · cases hn
         · split at hn
           · cases hn
           · injection hn with hn;rw[←hn]
     rw[this];exact ih.cons_cons _
theorem a_qq {c:Cf}{r:Rt}(h:RtOk c r) :((c.needs r).map Nd.Sec).Nodup:=by
 unfold Cf.needs
 rw[List.map_append,List.nodup_append]
 refine ⟨(t_a c r.Path).nodup h.dup,h.fl.2,fun a ha b hb e=>?_⟩
 subst e
 have ha:=(t_a c r.Path).subset ha
 obtain ⟨s,hs,rfl⟩:=List.mem_map.1 ha
 obtain ⟨n,hn,hn2⟩:=List.mem_map.1 hb
 have:=(h.fl.1 n hn).path
 unfold c_e at this
 rw[List.any_eq_false] at this
 exact this s hs (by simp[hn2])
structure OneIs (c:Cf) (k:Co) (a:Nat) :Prop where
 fit:k.fits c=true
 own:∀s ∈ c.lockL a,a_k k.Own s=some ((a:Int) +1)
 owns:∀o ∈ k.Own,o=0∨o=(a:Int) +1
 st:c_s k a=1
 oth:∀j:Nat,j≠a→c_s k j=0
 pts:∀n ∈ c.Needs a,d_c k.Points n.Sec=n.Pos
 xs:∀i ∈ c.Cross a,d_c k.Xs i=1
 lns:∀l:Nat,((k.Lines[l]?).getD zLs).Done=0∧0≤((k.Lines[l]?).getD zLs).Ask∧((k.Lines[l]?).getD zLs).Told=0∧((k.Lines[l]?).getD zLs).Grant=0
theorem a_fg {c:Cf}{a:Int}{x:Rt}(hx:a_k c.Rts a=some x){s:St}(hs:s ∈ x.Path) :s.Sec ∈ c.lockL a:=by
 unfold Cf.lockL;rw[hx];exact mem_lockR.2 (.inr (.inl (List.mem_map.2 ⟨s,hs,rfl⟩)))
end
section
theorem a_r5 {x:Rs}{r:Rt}(h:Rs.fits (x,r) =true) :Rs.fits (f_s ⟨x.State,0,x.Next,0⟩,r) =true:=by
 simp only[Rs.fits,Bool.and_eq_true,decide_eq_true_eq] at h ⊢
 unfold f_s
 simp only
 split
 · exact ⟨⟨by decide,by simp⟩,by decide⟩
 · exact ⟨⟨by show (0:Int)≤5∧(5:Int)≤5;decide,h.1.2⟩,by show tm 0 0=true∧tm 0 0=true;decide⟩
theorem a_uh {c:Cf}{k:Co}(h:FitIs c k){now:Int}(hn:tm 0 now=true) :(k.backK c now).fits c=true:=by
 have hnew:=fits_iff.1 (a_fm h.chk hn)
 have l3:((k.Lines.drop 1).take 3).length=3:=by rw[List.length_take,List.length_drop,h.lLn];rfl
 refine fits_iff.2 ⟨h.chk,h.lOwn,hnew.lPts,hnew.lRes,by show (k.Routes.map _).length=_;rw[List.length_map];exact h.lRts,hnew.lXs,by show (_:: ((k.Lines.drop 1).take 3).map _:List Ls).length=4;rw[List.length_cons,List.length_map,l3],h.own,fun i x r hi hr=>?_,hnew.pts,hnew.xs,fun l hl=>?_,hnew.res⟩
 · have hi:(k.Routes.map (fun r=>f_s ⟨r.State,0,r.Next,0⟩))[i]? =some x:=hi
   rw[List.getElem?_map,Option.map_eq_some_iff] at hi
   obtain ⟨y,hy,rfl⟩:=hi
   exact a_r5 (h.rts i y r hy hr)
 · have hl:l ∈ (⟨0,0,0,0,0,0,0,0⟩ :Ls) :: ((k.Lines.drop 1).take 3).map (fun x=>ln3 x.Ask x.Done x.Grant):=hl
   simp only[List.mem_cons,List.mem_map] at hl
   rcases hl with rfl | ⟨x,hx,rfl⟩
   · decide
   · have:=h.lns x (List.mem_of_mem_drop (List.mem_of_mem_take hx))
     simp only[Ls.fits,Bool.and_eq_true,ln3] at this ⊢
     exact ⟨⟨this.1.1,this.1.2.1,this.1.2.2.1,this.1.2.2.1,by decide,by decide,by decide⟩,by decide⟩
end
section
structure Inv (c:Cf) (k:Co) :Prop where
 fit:FitIs c k
 own:∀(r:Nat) x,c.Rts[r]? =some x→∀s ∈ x.Path.drop (b_6 k r x.Path.length),a_z k s.Sec=(r:Int) +1
 idle:∀(s:Int) (r:Nat),a_z k s=(r:Int) +1→c_s k r≠0
 pts:∀(r:Nat) x,c.Rts[r]? =some x→d_y (c_s k r) =true→∀n ∈ c.needs x,a_z k n.Sec=(r:Int) +1→d_c k.Points n.Sec=n.Pos
 gat:∀(r:Nat) x,c.Rts[r]? =some x→c_s k r≠0→∀i ∈ a_9 x.Path c.Xs 0,a_z k (xAt c i) =(r:Int) +1→d_c k.Xs i=1
 lns:∀line:Nat,0≤c.lineSec line→(lnG k.Lines line).Done≤(lnG k.Lines line).Ask∧(lnG k.Lines line).Told≤(lnG k.Lines line).Grant∧(a_z k (c.lineSec line) = -2→(lnG k.Lines line).Ask=(lnG k.Lines line).Done)
theorem inL0 (n:Int) :inL [0] n=decide (n=0):=by unfold inL;simp[eq_comm]
theorem s_0 (w:List Ls)(l:Nat) :lnG w l=(w[l]?).getD zLs:=by unfold lnG;rw[d_s]
theorem a_ew {k:Co}{r:Nat} :∀{l:List Nd},(∀n ∈ l,a_z k n.Sec=(r:Int) +1→d_c k.Points n.Sec=n.Pos)→e_s k r l=[]
 | [],_=>rfl
 | n::l,h=>by
   rw[e_s,y_m (b:=(a_z k n.Sec ==(r:Int) +1) && (d_c k.Points n.Sec != n.Pos)),a_ew fun x hx=>h x (by simp[hx])];rfl
   by_cases e:a_z k n.Sec=(r:Int) +1
   · rw[h n (by simp) e];simp
   · simp[e]
theorem a_gv {c:Cf}{k:Co}{r:Nat} :∀{l:List Int},(∀i ∈ l,a_z k (xAt c i) =(r:Int) +1→d_c k.Xs i=1)→e_q c k r l=[]
 | [],_=>rfl
 | i::l,h=>by
   rw[e_q,y_m (b:=(a_z k (xAt c i) ==(r:Int) +1) && (d_c k.Xs i != 1)),a_gv fun x hx=>h x (by simp[hx])];rfl
   by_cases e:a_z k (xAt c i) =(r:Int) +1
   · rw[h i (by simp) e];simp
   · simp[e]
theorem Inv.judge {c:Cf}{k:Co}(h:Inv c k) :k.judge c=[]:=by
 have hf:k.fits c=true:=fits_iff.2 h.fit
 unfold Co.judge
 rw[if_pos hf]
 have e1:a_2 k c.Rts 0=[]:=a_cg fun j x hx=>by
   rw[Nat.zero_add]
   exact a_o2 fun s hs=>h.own j x hx s hs
 have e2:b_0 k k.Own 0=[]:=a_ka fun o ho=>by
   by_cases hp:o > 0
   · obtain ⟨i,hi⟩:=List.mem_iff_getElem?.1 ho
     have ho1:a_z k (i:Int) =((o - 1).toNat:Int) +1:=by rw[d_1 rfl hi];omega
     have:=h.idle _ _ ho1
     have e:(((o - 1).toNat:Nat) :Int) =o - 1:=by omega
     rw[e] at this
     rw[inL0,decide_eq_false this,Bool.and_false]
   · rw[decide_eq_false hp,Bool.false_and]
 have e3:a_t c k c.Rts 0=[]:=u_r fun j x hx hr=>by
   rw[Nat.zero_add] at hr ⊢
   exact a_ew fun n hn ho=>h.pts j x hx hr n hn ho
 have e4:a_0 c k c.Rts 0=[]:=z_t fun j x hx hr=>by
   rw[Nat.zero_add] at hr ⊢
   rw[inL0,decide_eq_false_iff_not] at hr
   exact a_gv fun i hi ho=>h.gat j x hx hr i hi ho
 have e5:b_g c k 3=[]:=z_r (fun l=>by
   unfold u_x
   refine y_m ?_
   by_cases hs:0≤c.lineSec l
   · obtain ⟨h1,h2,h3⟩:=h.lns l hs
     rw[s_0] at h1 h2 h3
     rw[decide_eq_false (show ¬((k.Lines[l]?).getD zLs).Done > ((k.Lines[l]?).getD zLs).Ask by omega),decide_eq_false (show ¬((k.Lines[l]?).getD zLs).Told > ((k.Lines[l]?).getD zLs).Grant by omega)]
     by_cases e:a_z k (c.lineSec l) = -2
     · simp[h3 e]
     · simp[e]
   · rw[decide_eq_false hs,Bool.false_and]) 3
 rw[e1,e2,e3,e4,e5];rfl
theorem Inv.mild {c:Cf}{k k':Co}(h:Inv c k)(hf:FitIs c k')(o:∀s,0 < a_z k' s→a_z k' s=a_z k s)
   (a:∀(r:Nat) x,c.Rts[r]? =some x→b_6 k r x.Path.length≤b_6 k' r x.Path.length)
   (b:∀(r:Nat) x,c.Rts[r]? =some x→∀s ∈ x.Path.drop (b_6 k' r x.Path.length),a_z k s.Sec=(r:Int) +1→a_z k' s.Sec=a_z k s.Sec)
   (i:∀r:Nat,c_s k r≠0→c_s k' r≠0∨∀s,a_z k' s≠(r:Int) +1)
   (p:∀r:Nat,d_y (c_s k' r) =true→d_y (c_s k r) =true∧∀s,0 < a_z k' s→d_c k'.Points s=d_c k.Points s)
   (g1:∀r:Nat,c_s k' r≠0→c_s k r≠0)
   (g2:∀i x,i ∈ a_9 (x:Rt).Path c.Xs 0→0 < a_z k' (xAt c i)→d_c k.Xs i=1→d_c k'.Xs i=1)
   (l:∀line:Nat,0≤c.lineSec line→(lnG k'.Lines line).Done≤(lnG k'.Lines line).Ask∧(lnG k'.Lines line).Told≤(lnG k'.Lines line).Grant∧(a_z k' (c.lineSec line) = -2→(lnG k'.Lines line).Ask=(lnG k'.Lines line).Done)) :Inv c k' where
 fit:=hf
 own r x hx s hs:=by
   have hin:s ∈ x.Path.drop (b_6 k r x.Path.length):=(List.drop_sublist_drop_left x.Path (a r x hx)).subset hs
   have:=h.own r x hx s hin
   rw[b r x hx s hs this];exact this
 idle s r hs:=by
   have h1:=h.idle s r (by rw[←o s (by omega)];exact hs)
   rcases i r h1 with h2 | h2
   · exact h2
   · exact absurd hs (h2 s)
 pts r x hx hr n hn ho:=by
   obtain ⟨h1,h2⟩:=p r hr
   rw[h2 _ (by omega)]
   exact h.pts r x hx h1 n hn (by rw[←o _ (by omega)];exact ho)
 gat r x hx hr i hi ho:=g2 i x hi (by omega) (h.gat r x hx (g1 r hr) i hi (by rw[←o _ (by omega)];exact ho))
 lns:=l
/-! what the parts of a state read as -/
theorem h_o (k:Co)(r:Int) :c_s k r=(rsG k.Routes r).State:=by
 unfold c_s rsG;cases a_k k.Routes r <;> rfl
theorem a_ub (k:Co)(r:Int) :s_f k r=(rsG k.Routes r).Next:=by
 unfold s_f rsG;cases a_k k.Routes r <;> rfl
theorem a_uk (k:Co)(r len:Nat) :b_6 k r len=if d_y (rsG k.Routes r).State=true then 0 else if inL [4,5] (rsG k.Routes r).State=true then (rsG k.Routes r).Next.toNat else len:=by
 unfold b_6;rw[h_o,a_ub]
theorem i_0 {l:List Rs}{r t:Int}{x:Rs}(hr:0≤r)(hl:r < l.length) :rsG (l.set r.toNat x) t=if t=r then x else rsG l t:=by
 unfold rsG
 rw[n_3 hr]
 by_cases e:t=r
 · rw[if_pos ⟨e,hl⟩,if_pos e];rfl
 · rw[if_neg (fun h=>e h.1),if_neg e]
theorem a_bs {k:Co}{s t o:Int}{w:List Int}(hw:w=k.Own.set s.toNat o)(hs:0≤s)(hl:s < k.Own.length) :(a_k w t).getD 0=if t=s then o else a_z k t:=by
 unfold a_z
 rw[hw,n_3 hs]
 by_cases e:t=s
 · rw[if_pos ⟨e,hl⟩,if_pos e];rfl
 · rw[if_neg (fun h=>e h.1),if_neg e]
theorem a_l5 {w:List Ls}{l t:Int}{x:Ls}(hl:0≤l)(h:l < w.length) :lnG (w.set l.toNat x) t=if t=l then x else lnG w t:=by
 unfold lnG
 rw[n_3 hl]
 by_cases e:t=l
 · rw[if_pos ⟨e,h⟩,if_pos e];rfl
 · rw[if_neg (fun h=>e h.1),if_neg e]
theorem f_8 (n:Int) :d_y n=true↔n=1∨n=2∨n=3:=by
 unfold d_y inL
 simp only[decide_eq_true_eq,List.mem_cons,List.not_mem_nil,or_false]
theorem a_pr (n:Int) :inL [4,5] n=true↔n=4∨n=5:=by
 unfold inL
 simp only[decide_eq_true_eq,List.mem_cons,List.not_mem_nil,or_false]
def frm (x:Rs)(len:Nat) :Nat:=if d_y x.State=true then 0 else if inL [4,5] x.State=true then x.Next.toNat else len
theorem e_e (k:Co)(r len:Nat) :b_6 k r len=frm (rsG k.Routes r) len:=a_uk k r len
theorem Inv.route {c:Cf}{k:Co}{r:Int}{y:Rs}{d:Bool}(h:Inv c k)(hf:FitIs c { k with Routes:=k.Routes.set r.toNat y,Dirty:=d })(hr:0≤r)(hl:r < k.Routes.length)(h0:(rsG k.Routes r).State≠0)(hy:y.State≠0)
   (hrun:d_y y.State=true→d_y (rsG k.Routes r).State=true) (hfr:∀x,c.Rts[r.toNat]? =some x→frm (rsG k.Routes r) x.Path.length≤frm y x.Path.length) :Inv c { k with Routes:=k.Routes.set r.toNat y,Dirty:=d } :=by
 have hs:∀t:Int,c_s { k with Routes:=k.Routes.set r.toNat y,Dirty:=d } t=if t=r then y.State else c_s k t:=fun t=>by
   rw[h_o,h_o,i_0 hr hl];split <;> rfl
 refine h.mild hf (fun s _=>rfl) (fun q x hx=>?_) (fun q x hx s hs _=>rfl) (fun q hq=> .inl ?_) (fun q hq=>⟨?_,fun _ _=>rfl⟩) (fun q hq=>?_) (fun _ _ _ _ hc=>hc) h.lns
 · rw[e_e,e_e]
   show frm _ _≤frm (rsG (k.Routes.set r.toNat y) q) _
   rw[i_0 hr hl]
   split
   · rename_i e
     have:=hfr x (by rw[←e];exact hx)
     rw[e];exact this
   · exact Nat.le_refl _
 · rw[hs];split
   · exact hy
   · exact hq
 · rw[hs] at hq
   split at hq
   · rename_i e;rw[h_o,e];exact hrun hq
   · exact hq
 · rw[hs] at hq
   split at hq
   · rename_i e;rw[h_o,e];exact h0
   · exact hq
theorem a_wk (k:Co)(r to now:Int) :k.leadY r to now= { k with Routes:=k.Routes.set r.toNat (if to=4 then ⟨to,now,(rsG k.Routes r).Next,0⟩ else { rsG k.Routes r with State:=to }),Dirty:=if to=4 then true else k.Dirty } :=by
 unfold Co.leadY
 simp only
 split
 · rfl
 · rfl
theorem Inv.lead {c:Cf}{k:Co}{r to now:Int}{fr:List Int}(h:Inv c k)(hn:tm 0 now=true)(he:k.leadE r fr=0)(ht:(to=4∧(fr=[1,2,3]∨fr=[5]))∨(to=1∧fr=[3])) :Inv c (k.leadY r to now):=by
 have hf:=fits_iff.1 (a_t6 (fits_iff.2 h.fit) hn (by rcases ht with ⟨rfl,_⟩ | ⟨rfl,_⟩ <;> omega:0≤to∧to≤5) he)
 unfold Co.leadE at he
 split at he
 · cases he
 rename_i x hx
 have hg:=a_l hx
 have hl:=(List.getElem?_eq_some_iff.1 hg.2.2).1
 have hrx:rsG k.Routes r=x:=by unfold rsG;rw[hx];rfl
 have hin:inL fr x.State=true:=by
   cases hi:inL fr x.State with
   | true=>rfl
   | false=>rw[if_pos hi] at he;cases he
 rw[a_wk] at hf ⊢
 have h123:inL [1,2,3] x.State=true→d_y x.State=true:=fun h=>h
 have h3:inL [3] x.State=true→x.State=3:=fun h=>by unfold inL at h;simpa[eq_comm] using h
 have h5:inL [5] x.State=true→x.State=5:=fun h=>by unfold inL at h;simpa[eq_comm] using h
 rcases ht with ⟨rfl,hfr⟩ | ⟨rfl,rfl⟩
 · rw[if_pos rfl,if_pos rfl] at hf ⊢
   refine h.route hf hg.1 (by omega) ?_ (by simp) (fun e=>by simp[d_y,inL] at e) (fun z hz=>?_)
   · rw[hrx]
     rcases hfr with rfl | rfl
     · have:=(f_8 _).1 (h123 hin);omega
     · have:=h5 hin;omega
   · rw[hrx]
     rcases hfr with rfl | rfl
     · have:=h123 hin
       unfold frm;rw[if_pos this];exact Nat.zero_le _
     · have e5:=h5 hin
       unfold frm
       rw[if_neg (by rw[e5];decide),if_pos (by rw[e5];decide),if_neg (show ¬d_y 4=true by decide),if_pos (show inL [4,5] 4=true by decide)]
       exact Nat.le_refl _
 · have e3:=h3 hin
   rw[if_neg (by decide),if_neg (by decide)] at hf ⊢
   refine h.route hf hg.1 (by omega) (by rw[hrx];omega) (by simp) (fun _=>by rw[hrx,e3];decide) (fun z hz=>?_)
   rw[hrx]
   unfold frm
   rw[if_pos (by rw[e3];decide)]
   exact Nat.zero_le _
end
section
variable {c:Cf} {k:Co} {v:Vw} {now:Int}
theorem a_v6 {r:Int}{x:Rt}(hr:0≤r)(hx:c.Rts[r.toNat]? =some x) :c.pathS r=x.Path.map St.Sec:=by unfold Cf.pathS;rw[a_v1 hr hx]
theorem Inv.goOn (h:Inv c k)(hn:tm 0 now=true){r:Int}(hr:0≤r)(hl:r < k.Routes.length)(h4:(rsG k.Routes r).State=4) :Inv c (k.goOn c v now r)∧(rsG (k.goOn c v now r).Routes r).State=4:=by
 have hf:=s_2 (v:=v) h.fit hn hr
 obtain ⟨x,hx⟩:=a_g (l:=c.Rts) (j:=r.toNat) (by have:=h.fit.lRts;omega)
 have hp:=a_v6 hr hx
 unfold Co.goOn at hf ⊢
 cases hgp:a_k (c.pathS r) (rsG k.Routes r).Next with
 | none=>simp only;exact ⟨h,h4⟩
 | some s=>
   rw[hgp] at hf
   simp only at hf ⊢
   have hgs:=a_l hgp
   have hsr:=z_v h.fit.chk hgs.2.2
   have hfrm:∀(y:Rs) (n:Nat),y.State=4→frm y n=y.Next.toNat:=fun y n hy=>by
     unfold frm;rw[if_neg (by rw[hy];decide),if_pos (by rw[hy];decide)]
   split at hf
   · rename_i ho
     rw[if_pos ho]
     refine ⟨h.route (d:=k.Dirty) (y:= { rsG k.Routes r with Next:=(rsG k.Routes r).Next+1 }) hf hr hl (by rw[h4];decide) (by show (rsG k.Routes r).State≠0;rw[h4];decide) (fun e=>e) (fun z hz=>?_),?_⟩
     · rw[hfrm _ _ h4,hfrm _ _ (show ({ rsG k.Routes r with Next:=(rsG k.Routes r).Next+1 } :Rs).State=4 from h4)]
       show (rsG k.Routes r).Next.toNat≤((rsG k.Routes r).Next+1).toNat
       omega
     · show (rsG (k.Routes.set r.toNat _) r).State=4
       rw[i_0 hr hl,if_pos rfl];exact h4
   · rename_i ho
     have ho:h_d k.Own s=r+1:=Classical.byContradiction ho
     have hos:a_z k s=r+1:=ho
     rw[if_neg (fun g=>g ho)]
     split at hf
     · rename_i hcl
       rw[if_pos hcl]
       have hlo:s < k.Own.length:=by have:=h.fit.lOwn;omega
       have hown:∀t,a_z { k with Own:=k.Own.set s.toNat 0,Dirty:=true,Routes:=k.Routes.set r.toNat { rsG k.Routes r with Next:=(rsG k.Routes r).Next+1,Mark:=now } } t=if t=s then 0 else a_z k t:=fun t=>a_bs rfl hsr.1 hlo
       have hst:∀t,c_s { k with Own:=k.Own.set s.toNat 0,Dirty:=true,Routes:=k.Routes.set r.toNat { rsG k.Routes r with Next:=(rsG k.Routes r).Next+1,Mark:=now } } t=c_s k t:=fun t=>by
         rw[h_o,h_o,i_0 hr hl]
         split
         · rename_i e;rw[e]
         · rfl
       refine ⟨h.mild hf (fun t ht=>?_) (fun q z hz=>?_) (fun q z hz st hst' hoq=>?_) (fun q hq=> .inl (by rw[hst];exact hq)) (fun q hq=>⟨by rw[hst] at hq;exact hq,fun _ _=>rfl⟩) (fun q hq=>by rw[hst] at hq;exact hq) (fun _ _ _ _ hc=>hc) (fun line hline=>?_),?_⟩
       · rw[hown] at ht ⊢
         split at ht
         · omega
         · rename_i e;rw[if_neg e]
       · rw[e_e,e_e]
         show _≤frm (rsG (k.Routes.set r.toNat _) q) _
         rw[i_0 hr hl]
         split
         · rename_i e
           rw[e,hfrm _ _ h4,hfrm _ _ (show ({ rsG k.Routes r with Next:=(rsG k.Routes r).Next+1,Mark:=now } :Rs).State=4 from h4)]
           show (rsG k.Routes r).Next.toNat≤((rsG k.Routes r).Next+1).toNat
           omega
         · exact Nat.le_refl _
       · rw[hown,if_neg]
         intro e
         rw[e,hos] at hoq
         have hqr:(q:Int) =r:=by omega
         have hzx:z=x:=by
           have:c.Rts[r.toNat]? =some z:=by rw[←hqr];exact hz
           rw[hx] at this;injection this with this;exact this.symm
         subst hzx
         rw[e_e] at hst'
         have e2:(rsG (k.Routes.set r.toNat ({ rsG k.Routes r with Next:=(rsG k.Routes r).Next+1,Mark:=now } :Rs)) q) = { rsG k.Routes r with Next:=(rsG k.Routes r).Next+1,Mark:=now } :=by rw[i_0 hr hl,if_pos hqr]
         have hst':st ∈ z.Path.drop (frm (rsG (k.Routes.set r.toNat ({ rsG k.Routes r with Next:=(rsG k.Routes r).Next+1,Mark:=now } :Rs)) q) z.Path.length):=hst'
         rw[e2,hfrm _ _ (show ({ rsG k.Routes r with Next:=(rsG k.Routes r).Next+1,Mark:=now } :Rs).State=4 from h4)] at hst'
         obtain ⟨i,hi⟩:=List.mem_iff_getElem?.1 hst'
         rw[List.getElem?_drop] at hi
         have hnd:=a_q9 h.fit.chk r
         rw[hp] at hnd
         have hi1:(z.Path.map St.Sec)[((rsG k.Routes r).Next+1).toNat+i]? =some s:=by
           rw[List.getElem?_map]
           have hi:z.Path[((rsG k.Routes r).Next+1).toNat+i]? =some st:=hi
           rw[hi,←e];rfl
         have hi2:=hgs.2.2
         rw[hp] at hi2
         have hlt1:=(List.getElem?_eq_some_iff.1 hi1)
         have hlt2:=(List.getElem?_eq_some_iff.1 hi2)
         have:=(List.getElem_inj (h₀:=hlt1.1) (h₁:=hlt2.1) hnd).1 (by rw[hlt1.2,hlt2.2])
         have:=hgs.1
         omega
       · obtain ⟨h1,h2,h3⟩:=h.lns line hline
         refine ⟨h1,h2,fun e=>?_⟩
         rw[hown] at e
         split at e
         · omega
         · exact h3 e
       · show (rsG (k.Routes.set r.toNat _) r).State=4
         rw[i_0 hr hl,if_pos rfl];exact h4
     · rename_i hcl
       rw[if_neg hcl]
       exact ⟨h,h4⟩
theorem a_n1 {o:Int}{l:List Int}(s:Int)(ho:o≠0) :(a_k (d_i o l) s).getD 0=if (a_k l s).getD 0=o then 0 else (a_k l s).getD 0:=by
 unfold d_i
 rw[a_gt]
 cases a_k l s with
 | none=>simp
 | some z=>simp only[Option.map_some,Option.getD_some]
theorem a_ut {n:Int}{w:List Ls}(hn:0≤n)(hl:n < w.length)(l:Int) :lnG (l_7 n w) l=if n > 0∧l=n then { lnG w n with Done:=(lnG w n).Ask } else lnG w l:=by
 unfold l_7
 by_cases h:n > 0
 · rw[if_pos h,a_l5 hn hl]
   by_cases e:l=n
   · rw[if_pos e,if_pos ⟨h,e⟩]
   · rw[if_neg e,if_neg (fun g=>e g.2)]
 · rw[if_neg h,if_neg (fun g=>h g.1)]
theorem Inv.endR (h:Inv c k){r:Int}(hr:0≤r)(hl:r < k.Routes.length) :Inv c (k.endR c r):=by
 have hf:=a_kl h.fit hr
 have hown:∀t,a_z (k.endR c r) t=if a_z k t=r+1 then 0 else a_z k t:=fun t=>a_n1 t (by omega)
 have hrs:∀t,rsG (k.endR c r).Routes t=if t=r then ⟨0,0,0,0⟩ else rsG k.Routes t:=fun t=>i_0 hr hl
 have hst:∀t,c_s (k.endR c r) t=if t=r then 0 else c_s k t:=fun t=>by rw[h_o,h_o,hrs];split <;> rfl
 have hln:=x_9 h.fit.chk (c.rt r).Path
 refine h.mild hf (fun t ht=>?_) (fun q z hz=>?_) (fun q z hz st hst' hoq=>?_) (fun q hq=>?_) (fun q hq=>⟨?_,fun _ _=>rfl⟩) (fun q hq=>?_) (fun _ _ _ _ hc=>hc) (fun line hline=>?_)
 · rw[hown] at ht ⊢
   split at ht
   · omega
   · rename_i e;rw[if_neg e]
 · rw[e_e,e_e,hrs]
   split
   · rename_i e
     have hlt:=(List.getElem?_eq_some_iff.1 hz).1
     obtain ⟨y,hy⟩:=a_g (l:=k.Routes) (j:=q) (by have:=h.fit.lRts;omega)
     have hfit:=h.fit.rts q y z hy hz
     have hyq:rsG k.Routes q=y:=by unfold rsG;rw[d_s,hy];rfl
     rw[hyq]
     simp only[Rs.fits,Bool.and_eq_true,decide_eq_true_eq] at hfit
     unfold frm
     rw[if_neg (show ¬d_y (⟨0,0,0,0⟩ :Rs).State=true by decide),if_neg (show ¬inL [4,5] (⟨0,0,0,0⟩ :Rs).State=true by decide)]
     split
     · omega
     split
     · omega
     · exact Nat.le_refl _
   · exact Nat.le_refl _
 · rw[hown,if_neg]
   intro e
   rw[e] at hoq
   have hqr:(q:Int) =r:=by omega
   rw[e_e,hrs,if_pos hqr] at hst'
   unfold frm at hst'
   rw[if_neg (show ¬d_y (⟨0,0,0,0⟩ :Rs).State=true by decide),if_neg (show ¬inL [4,5] (⟨0,0,0,0⟩ :Rs).State=true by decide),List.drop_length] at hst'
   cases hst'
 · by_cases e:(q:Int) =r
   · refine .inr fun s hs=>?_
     rw[hown] at hs
     split at hs
     · omega
     · rename_i hne;exact hne (by rw[hs,e])
   · refine .inl ?_
     rw[hst,if_neg e];exact hq
 · rw[hst] at hq
   split at hq
   · cases hq
   · exact hq
 · rw[hst] at hq
   split at hq
   · exact absurd rfl hq
   · exact hq
 · obtain ⟨h1,h2,h3⟩:=h.lns line hline
   have hd:=a_ut (w:=k.Lines) (n:=c.lineR r) hln.1 (by have:=h.fit.lLn;unfold Cf.lineR;omega) (line:Int)
   show (lnG (l_7 (c.lineR r) k.Lines) line).Done≤(lnG (l_7 (c.lineR r) k.Lines) line).Ask∧(lnG (l_7 (c.lineR r) k.Lines) line).Told≤(lnG (l_7 (c.lineR r) k.Lines) line).Grant∧(a_z (k.endR c r) (c.lineSec line) = -2→(lnG (l_7 (c.lineR r) k.Lines) line).Ask=(lnG (l_7 (c.lineR r) k.Lines) line).Done)
   rw[hd]
   split
   · rename_i e
     rw[e.2] at h1 h2
     exact ⟨Int.le_refl _,h2,fun _=>rfl⟩
   · refine ⟨h1,h2,fun e=>h3 ?_⟩
     rw[hown] at e
     split at e
     · omega
     · exact e
theorem Inv.routeR (h:Inv c k)(hn:tm 0 now=true){d:Bool}{r:Int}(hr:0≤r)(hl:r < k.Routes.length) :Inv c (k.routeR c v now d r):=by
 have hf:=a_cm (v:=v) (d:=d) h.fit hn hr
 unfold Co.routeR at hf ⊢
 split
 · rename_i hc
   rw[if_pos hc] at hf
   refine h.route (d:=k.Dirty) hf hr hl (by omega) (by simp) (fun e=>by simp[d_y,inL] at e) (fun z hz=>?_)
   unfold frm
   rw[if_pos ((f_8 _).2 (by omega))]
   exact Nat.zero_le _
 · rename_i hc0
   rw[if_neg hc0] at hf
   split
   · rename_i hc
     rw[if_pos hc] at hf
     refine h.route (d:=k.Dirty) hf hr hl (by omega) (by simp) (fun e=>(f_8 _).2 (by omega)) (fun z hz=>?_)
     unfold frm
     rw[if_pos ((f_8 _).2 (by omega))]
     exact Nat.zero_le _
   · rename_i hc1
     rw[if_neg hc1] at hf
     split
     · rename_i hc
       rw[if_pos hc] at hf
       refine h.route (d:=k.Dirty) hf hr hl (by omega) (by simp) (fun e=>(f_8 _).2 (by omega)) (fun z hz=>?_)
       unfold frm
       rw[if_pos ((f_8 _).2 (by omega))]
       exact Nat.zero_le _
     · rename_i hc2
       split
       · rename_i h4
         obtain ⟨hg,hg4⟩:=h.goOn (v:=v) hn hr hl h4
         have hgl:r < (k.goOn c v now r).Routes.length:=by have:=hg.fit.lRts;have:=h.fit.lRts;omega
         unfold Co.endingR
         split
         · exact h
         · split
           · exact hg.endR hr hgl
           · exact hg
       · exact h
theorem Inv.routesR (h:Inv c k)(hn:tm 0 now=true){d:Bool} :∀n:Nat,n≤c.Rts.length→Inv c (routesR c v now d k n)
 | 0,_=>h
 | n+1,hl=>by
   have ih:=Inv.routesR h hn (d:=d) n (by omega)
   exact ih.routeR hn (by omega) (by have:=ih.fit.lRts;omega)
theorem Inv.stepX (h:Inv c k)(hn:tm 0 now=true) :Inv c (k.stepX c v now):=by
 have hR:Inv c (k.stepR c v now):=h.routesR hn _ (Nat.le_refl _)
 have hf:=w_e (v:=v) h.fit hn
 unfold Co.stepX at hf ⊢
 generalize k.stepR c v now=q at *
 refine hR.mild hf (fun _ _=>rfl) (fun _ _ _=>Nat.le_refl _) (fun _ _ _ _ _ _=>rfl) (fun _ hq=> .inl hq) (fun _ hq=>⟨hq,fun _ _=>rfl⟩) (fun _ hq=>hq) (fun i x hi ho hc=>?_) hR.lns
 obtain ⟨i',s,e3,hs,_⟩:=f_y _ _ _ _ hi
 rw[Nat.zero_add] at e3
 subst e3
 have hlt:=(List.getElem?_eq_some_iff.1 hs).1
 have hll:q.Xs.length=c.Xs.length:=hR.fit.lXs
 obtain ⟨m,hm⟩:=a_g (l:=xsN c q.Own now q.Xs c.Xs.length) (j:=i') (by rw[x_w];omega)
 have hg:=a_sy (own:=q.Own) (now:=now) hll c.Xs.length (by omega) i' s m hlt hs hm
 rw[a_mw rfl hs] at ho
 have ho:0 < a_z q s:=ho
 show d_c (xsN c q.Own now q.Xs c.Xs.length) (i':Int) =1
 rw[k_e rfl hm,hg,if_neg]
 intro e
 have e:a_z q s=0:=e
 omega
theorem Inv.rstOne (h:Inv c k){s:Nat}(hl:s < k.Resets.length) :Inv c (k.rstOne v s):=by
 have hf:=a_ca (v:=v) (s:=(s:Int)) h.fit
 have same:∀w:List Int,FitIs c { k with Resets:=w }→Inv c { k with Resets:=w } :=fun w hw=>
   h.mild hw (fun _ _=>rfl) (fun _ _ _=>Nat.le_refl _) (fun _ _ _ _ _ _=>rfl) (fun _ hq=> .inl hq) (fun _ hq=>⟨hq,fun _ _=>rfl⟩) (fun _ hq=>hq) (fun _ _ _ _ hc=>hc) h.lns
 unfold Co.rstOne at hf ⊢
 split
 · exact h
 · rename_i h1
   rw[if_neg h1] at hf
   split
   · rename_i h2
     rw[if_pos h2] at hf
     exact same _ hf
   · rename_i h2
     rw[if_neg h2] at hf
     have ho:a_z k s= -1:=Classical.byContradiction h2
     split
     · rename_i h3
       rw[if_pos h3] at hf
       have hlo:(s:Int) < k.Own.length:=by have:=h.fit.lOwn;have:=h.fit.lRes;omega
       have hown:∀t,a_z { k with Own:=k.Own.set (s:Int).toNat 0,Dirty:=true,Resets:=k.Resets.set (s:Int).toNat 0 } t=if t=s then 0 else a_z k t:=fun t=>a_bs rfl (by omega) hlo
       refine h.mild hf (fun t ht=>?_) (fun _ _ _=>Nat.le_refl _) (fun q z hz st hst hoq=>?_) (fun _ hq=> .inl hq) (fun _ hq=>⟨hq,fun _ _=>rfl⟩) (fun _ hq=>hq) (fun _ _ _ _ hc=>hc) (fun line hline=>?_)
       · rw[hown] at ht ⊢
         split at ht
         · omega
         · rename_i e;rw[if_neg e]
       · rw[hown,if_neg]
         intro e
         rw[e,ho] at hoq;omega
       · obtain ⟨h1,h2,h3⟩:=h.lns line hline
         refine ⟨h1,h2,fun e=>?_⟩
         rw[hown] at e
         split at e
         · omega
         · exact h3 e
     · exact h
theorem Inv.rstN (h:Inv c k) :∀n:Nat,n≤c.Secs.length→Inv c (rstN v k n)
 | 0,_=>h
 | n+1,hl=>by
   have ih:=Inv.rstN h n (by omega)
   exact ih.rstOne (by have:=ih.fit.lRes;omega)
theorem Inv.stepY (h:Inv c k)(hn:tm 0 now=true) :Inv c (k.stepY c v now):=by
 have hX:=h.stepX (v:=v) hn
 exact hX.rstN _ (by rw[hX.fit.lRes];exact Nat.le_refl _)
end
section
variable {c:Cf} {k:Co} {v:Vw} {now:Int}
theorem Inv.oneLine (h:Inv c k){l s:Nat}{o o':Int}{x y:Ls}{d:Bool}(hls:c.lineSec l=s)(hx:k.Lines[l]? =some x)(ho:k.Own[s]? =some o)
   (hcs:o'=o∨(o≤0∧(o'=0∨o'= -2))) (hAD:y.Done≤y.Ask) (hT:y.Told≤y.Grant) (h2:o'= -2→y.Ask=y.Done) (hy:Ls.fits y=true) :
   Inv c { k with Own:=k.Own.set s o',Lines:=k.Lines.set l y,Dirty:=d } :=by
 have hlo:=(List.getElem?_eq_some_iff.1 ho).1
 have hll:=(List.getElem?_eq_some_iff.1 hx).1
 have hos:a_z k (s:Int) =o:=d_1 rfl ho
 have hown:∀t,a_z { k with Own:=k.Own.set s o',Lines:=k.Lines.set l y,Dirty:=d } t=if t=(s:Int) then o' else a_z k t:=fun t=>a_bs (s:=(s:Int)) (by rw[Int.toNat_natCast]) (by omega) (by omega)
 have hln:∀t:Int,lnG (k.Lines.set l y) t=if t=(l:Int) then y else lnG k.Lines t:=fun t=>by
   have:=a_l5 (w:=k.Lines) (l:=(l:Int)) (t:=t) (x:=y) (by omega) (by omega)
   rw[Int.toNat_natCast] at this;exact this
 have hoI:=h.fit.own o (List.mem_of_getElem? ho)
 have hf:FitIs c { k with Own:=k.Own.set s o',Lines:=k.Lines.set l y,Dirty:=d } :=
   ⟨h.fit.chk,by rw[List.length_set];exact h.fit.lOwn,h.fit.lPts,h.fit.lRes,h.fit.lRts,h.fit.lXs,by rw[List.length_set];exact h.fit.lLn,fun z hz=>by
     rcases List.mem_or_eq_of_mem_set hz with hz | rfl
     · exact h.fit.own z hz
     · omega,h.fit.rts,h.fit.pts,h.fit.xs,fun z hz=>by
     rcases List.mem_or_eq_of_mem_set hz with hz | rfl
     · exact h.fit.lns z hz
     · exact hy,h.fit.res⟩
 refine h.mild hf (fun t ht=>?_) (fun _ _ _=>Nat.le_refl _) (fun q z hz st hst hoq=>?_) (fun _ hq=> .inl hq) (fun _ hq=>⟨hq,fun _ _=>rfl⟩) (fun _ hq=>hq) (fun _ _ _ _ hc=>hc) (fun line hline=>?_)
 · rw[hown] at ht ⊢
   split at ht
   · rename_i e
     rw[if_pos e,e,hos]
     rcases hcs with g | g
     · exact g
     · omega
   · rename_i e;rw[if_neg e]
 · rw[hown]
   split
   · rename_i e
     rw[e,hos] at hoq ⊢
     rcases hcs with g | g
     · exact g
     · omega
   · rfl
 · show (lnG (k.Lines.set l y) line).Done≤(lnG (k.Lines.set l y) line).Ask∧(lnG (k.Lines.set l y) line).Told≤(lnG (k.Lines.set l y) line).Grant∧(a_z _ (c.lineSec line) = -2→(lnG (k.Lines.set l y) line).Ask=(lnG (k.Lines.set l y) line).Done)
   rw[hln,hown]
   by_cases e:(line:Int) =l
   · rw[if_pos e]
     have e':line=l:=by omega
     subst e'
     rw[if_pos hls]
     exact ⟨hAD,hT,h2⟩
   · rw[if_neg e]
     obtain ⟨h1,h3,h4⟩:=h.lns line hline
     refine ⟨h1,h3,fun g=>?_⟩
     split at g
     · rename_i e2
       exact absurd (a_nx e2 hls) e
     · exact h4 g
theorem l_m {α:Type}{l:List α}{i:Nat}{x:α}(h:l[i]? =some x) :l.set i x=l:=by
 apply List.ext_getElem?
 intro j
 rw[List.getElem?_set]
 split
 · rename_i e;subst e
   split
   · exact h.symm
   · rename_i hn;rw[List.getElem?_eq_none (by omega)]
 · rfl
theorem Inv.lineStep (h:Inv c k)(hn:tm 0 now=true){occ:List Lk}{was:Bool}{l s:Nat}{o:Int}{x:Ls}(hls:c.lineSec l=s)(hx:k.Lines[l]? =some x)(ho:k.Own[s]? =some o) :Inv c (lineStep c occ now was k l s):=by
 have hll:=(List.getElem?_eq_some_iff.1 hx).1
 have hos:a_z k (s:Int) =o:=d_1 rfl ho
 have hfx:=h.fit.lns x (List.mem_of_getElem? hx)
 have htm:=hn
 simp only[tm,decide_eq_true_eq] at htm
 have hw:w64 (now+1) =now+1:=a_w (by omega) (by omega)
 have hl:=h.lns l (by omega)
 rw[s_0,hx,Option.getD_some,hls,hos] at hl
 obtain ⟨hl1,hl2,hl3⟩:=hl
 simp only[Ls.fits,Bool.and_eq_true,tm,decide_eq_true_eq] at hfx
 have base : ∃ (o0 : Int) (y : Ls) (d : Bool), (if o = -2 then e_r occ now k l s else if o = 0 ∧ a_b0 c k x s = true then { k with Own := k.Own.set s (-2), Dirty := true, Lines := k.Lines.set l { x with Grant := x.PAsk, Since := 0 } } else k) = { k with Own := k.Own.set s o0, Lines := k.Lines.set l y, Dirty := d } ∧
     (o0=o∨(o≤0∧(o0=0∨o0= -2)))∧y.Done≤y.Ask∧y.Told≤y.Grant∧x.Grant≤y.Grant∧(o0= -2→y.Ask=y.Done)∧Ls.fits y=true:=by
   have fx:∀n:Int,0≤n→n≤4294967296→Ls.fits { x with Since:=n } =true:=fun n h1 h2=>by
     simp only[Ls.fits,Bool.and_eq_true,tm,decide_eq_true_eq];omega
   split
   · rename_i ho2
     unfold e_r
     simp only[hx,Option.getD_some]
     split
     · exact ⟨o,{ x with Since:=0 },k.Dirty,by rw[l_m ho], .inl rfl,hl1,hl2,Int.le_refl _,hl3,fx 0 (by omega) (by omega)⟩
     split
     · exact ⟨o,{ x with Since:=w64 (now+1) },k.Dirty,by rw[l_m ho], .inl rfl,hl1,hl2,Int.le_refl _,hl3,fx _ (by omega) (by omega)⟩
     split
     · exact ⟨0,{ x with Since:=0 },true,rfl, .inr ⟨by omega, .inl rfl⟩,hl1,hl2,Int.le_refl _,fun e=>by omega,fx 0 (by omega) (by omega)⟩
     · exact ⟨o,x,k.Dirty,by rw[l_m ho,l_m hx], .inl rfl,hl1,hl2,Int.le_refl _,hl3,by simp only[Ls.fits,Bool.and_eq_true,tm,decide_eq_true_eq];omega⟩
   · split
     · rename_i hm
       obtain ⟨hm0,hm⟩:=hm
       simp only[a_b0,Bool.and_eq_true,decide_eq_true_eq] at hm
       obtain ⟨_,hm1,hm2⟩:=hm
       have hg:x.Grant < x.PAsk:=by split at hm1 <;> omega
       exact ⟨-2,{ x with Grant:=x.PAsk,Since:=0 },true,rfl, .inr ⟨by omega, .inr rfl⟩,hl1,by show x.Told≤x.PAsk;omega,by show x.Grant≤x.PAsk;omega,fun _=>hm2,by simp only[Ls.fits,Bool.and_eq_true,tm,decide_eq_true_eq];omega⟩
     · exact ⟨o,x,k.Dirty,by rw[l_m ho,l_m hx], .inl rfl,hl1,hl2,Int.le_refl _,hl3,by simp only[Ls.fits,Bool.and_eq_true,tm,decide_eq_true_eq];omega⟩
 obtain ⟨o0,y,d,he,h1,h2,h3,h4,h5,h6⟩:=base
 unfold Go.Fw.lineStep
 simp only[hx,ho,Option.getD_some]
 rw[he]
 cases was with
 | true=>exact h.oneLine hls hx ho h1 h2 h3 h5 h6
 | false=>
   simp only[Bool.false_eq_true,if_false]
   have e1:(k.Lines.set l y)[l]? =some y:=by rw[List.getElem?_set,if_pos rfl,if_pos hll]
   rw[e1,Option.getD_some,List.set_set]
   exact h.oneLine (y:= { y with Told:=x.Grant }) hls hx ho h1 h2 h4 h5 (by
     simp only[Ls.fits,Bool.and_eq_true,tm,decide_eq_true_eq] at h6 ⊢;omega)
theorem Inv.stepRun {occ:List Lk}{was:Bool}(hn:tm 0 now=true) :∀(ls:List Nat) {k:Co},(∀l ∈ ls,l≤3)→Inv c k→Inv c (stepRun c occ now was ls k)
 | [],_,_,h=>h
 | l::ls,k,hls,h=>by
   unfold Go.Fw.stepRun
   refine Inv.stepRun hn ls (fun l hl=>hls l (by simp[hl])) ?_
   split
   · rename_i h0
     obtain ⟨s,hs⟩:=Int.eq_ofNat_of_zero_le h0
     have h3:=hls l (by simp)
     obtain ⟨x,hx⟩:=a_g (l:=k.Lines) (j:=l) (by have:=h.fit.lLn;omega)
     obtain ⟨z,hz,_⟩:=i_f hs
     obtain ⟨o,ho⟩:=a_g (l:=k.Own) (j:=s) (by have:=(List.getElem?_eq_some_iff.1 hz).1;have:=h.fit.lOwn;omega)
     rw[hs,Int.toNat_natCast]
     exact h.lineStep hn hs hx ho
   · exact h
theorem Inv.stepC (h:Inv c k) :Inv c (k.stepC c v now).1:=by
 unfold Co.stepC
 split
 · exact h
 split
 · exact h
 · rename_i hn
   exact h.stepRun (by simp only[tm,decide_eq_true_eq];omega) _ (by simp)
theorem Inv.hearC (h:Inv c k)(line a d g:Int) :Inv c (k.hearC c line a d g).1:=by
 unfold Co.hearC
 split
 · exact h
 split
 · exact h
 split
 · exact h
 rename_i h1 h2 h3
 have h0:0≤c.lineSec line:=by omega
 obtain ⟨s,hs⟩:=Int.eq_ofNat_of_zero_le h0
 have hl1:1≤line:=by
   refine Classical.byContradiction fun g=>?_
   unfold Cf.lineSec at h0
   rw[if_pos (by omega)] at h0;omega
 obtain ⟨z,hz,hzl⟩:=i_f hs
 have hl3:line≤3:=by
   have:=k_f (a_y h.fit.chk).1 hz
   omega
 obtain ⟨l,rfl⟩:=Int.eq_ofNat_of_zero_le (show 0≤line by omega)
 obtain ⟨x,hx⟩:=a_g (l:=k.Lines) (j:=l) (by have:=h.fit.lLn;omega)
 obtain ⟨o,ho⟩:=a_g (l:=k.Own) (j:=s) (by have:=(List.getElem?_eq_some_iff.1 hz).1;have:=h.fit.lOwn;omega)
 have hos:a_z k (s:Int) =o:=d_1 rfl ho
 have hl:=h.lns l (by omega)
 rw[s_0,hx,Option.getD_some,hs,hos] at hl
 have hfx:=h.fit.lns x (List.mem_of_getElem? hx)
 simp only[Ls.fits,Bool.and_eq_true,tm,decide_eq_true_eq] at hfx
 rw[Int.toNat_natCast,hx,Option.getD_some]
 have:=h.oneLine (o':=o) (y:= { x with PAsk:=a,PDone:=d,PGrant:=g }) (d:=k.Dirty) hs hx ho (.inl rfl) hl.1 hl.2.1 hl.2.2 (by simp only[Ls.fits,Bool.and_eq_true,tm,decide_eq_true_eq];omega)
 rw[l_m ho] at this
 exact this
theorem Inv.dirty (h:Inv c k)(b:Bool) :Inv c { k with Dirty:=b } :=⟨h.fit.dirty b,h.own,h.idle,h.pts,h.gat,h.lns⟩
theorem Inv.resets (h:Inv c k){w:List Int}(hf:FitIs c { k with Resets:=w }) :Inv c { k with Resets:=w } :=⟨hf,h.own,h.idle,h.pts,h.gat,h.lns⟩
theorem Inv.resetC (h:Inv c k)(s:Int) :Inv c (k.resetC c now s).1:=by
 unfold Co.resetC Co.done
 split
 · rename_i hg
   obtain ⟨h1,h2,_⟩:=s_3 hg
   exact h.resets (fits_iff.1 (a_rn h1 h2))
 · exact h
theorem Inv.throwC (h:Inv c k)(s pos:Int) :Inv c (k.throwC c now s pos).1:=by
 unfold Co.throwC Co.done
 split
 · rename_i hg
   obtain ⟨h1,h2,h3⟩:=s_3 hg
   have hf:=fits_iff.1 (a_q6 h1 h2 h3)
   have hz:=(a_fj h3).1
   have hos:a_z k s=0:=by unfold a_z;rw[hz];rfl
   have hg0:=a_l hz
   refine h.mild hf (fun _ _=>rfl) (fun _ _ _=>Nat.le_refl _) (fun _ _ _ _ _ _=>rfl) (fun _ hq=> .inl hq) (fun _ hq=>⟨hq,fun t ht=>?_⟩) (fun _ hq=>hq) (fun _ _ _ _ hc=>hc) h.lns
   have hne:t≠s:=fun e=>by
     rw[e] at ht
     have:0 < a_z k s:=ht
     omega
   show d_c (k.Points.set s.toNat _) t=d_c k.Points t
   unfold d_c
   rw[f_o hg0.1 hne]
 · exact h
theorem Inv.leadC (h:Inv c k){r to:Int}{fr:List Int}(ht:(to=4∧(fr=[1,2,3]∨fr=[5]))∨(to=1∧fr=[3])) :Inv c (k.leadC c r to now fr).1:=by
 unfold Co.leadC Co.done
 split
 · rename_i hg
   obtain ⟨h1,h2,h3⟩:=s_3 hg
   exact h.lead h2 h3 ht
 · exact h
theorem a_xr (hok:c.check=0)(hn:tm 0 now=true) :Inv c (b_o c now):=by
 have hf:=fits_iff.1 (a_fm hok hn)
 have hst:∀r:Int,c_s (b_o c now) r=0:=fun r=>by
   unfold c_s
   cases hg:a_k (b_o c now).Routes r with
   | none=>rfl
   | some y=>
     have:=(List.mem_replicate.1 (d_3 hg)).2
     rw[this];rfl
 have hown:∀s:Int,a_z (b_o c now) s≤0:=fun s=>by
   unfold a_z
   cases hg:a_k (b_o c now).Own s with
   | none=>exact Int.le_refl _
   | some y=>
     have:=(List.mem_replicate.1 (d_3 hg)).2
     rw[this];decide
 have hln:∀l:Nat,lnG (b_o c now).Lines l=zLs:=fun l=>by
   rw[s_0]
   show ((List.replicate 4 zLs)[l]?).getD zLs=zLs
   rw[List.getElem?_replicate];split <;> rfl
 refine ⟨hf,fun r x hx s hs=>?_,fun s r hs=>by have:=hown s;omega,fun r x hx hr=>?_,fun r x hx hr=>absurd (hst r) hr,fun l _=>?_⟩
 · unfold b_6 at hs
   rw[hst,if_neg (by decide),if_neg (by decide),List.drop_length] at hs
   cases hs
 · rw[hst] at hr;exact absurd hr (by decide)
 · rw[hln];exact ⟨Int.le_refl _,Int.le_refl _,fun _=>rfl⟩
theorem Inv.back (h:Inv c k)(hn:tm 0 now=true) :Inv c (k.backK c now):=by
 have hf:=fits_iff.1 (a_uh h.fit hn)
 have hst:∀r:Int,c_s (k.backK c now) r=if c_s k r=0 then 0 else 5:=fun r=>by
   unfold c_s
   show ((a_k (k.Routes.map (fun r=>f_s ⟨r.State,0,r.Next,0⟩)) r).map Rs.State).getD 0=_
   rw[a_gt]
   cases a_k k.Routes r with
   | none=>rfl
   | some y=>
     simp only[Option.map_some,Option.getD_some,f_s]
     split <;> rfl
 have hnx:∀r:Int,c_s k r≠0→s_f (k.backK c now) r=s_f k r:=fun r=>by
   unfold c_s s_f
   show _→((a_k (k.Routes.map (fun r=>f_s ⟨r.State,0,r.Next,0⟩)) r).map Rs.Next).getD 0=_
   rw[a_gt]
   cases a_k k.Routes r with
   | none=>intro _;rfl
   | some y=>
     simp only[Option.map_some,Option.getD_some,f_s]
     intro h0
     rw[if_neg h0]
 refine h.mild hf (fun _ _=>rfl) (fun q x hx=>?_) (fun _ _ _ _ _ _=>rfl) (fun q hq=> .inl (by rw[hst,if_neg hq];decide)) (fun q hq=>?_) (fun q hq e=>?_) (fun i x hi _ _=>?_) (fun l hl=>?_)
 · unfold b_6
   rw[hst]
   by_cases h0:c_s k q=0
   · rw[if_pos h0,h0,if_neg (by decide),if_neg (by decide)]
     rw[if_neg (by decide),if_neg (by decide)]
     exact Nat.le_refl _
   · rw[if_neg h0,if_neg (show ¬d_y 5=true by decide),if_pos (show inL [4,5] 5=true by decide),hnx q h0]
     split
     · omega
     split
     · exact Nat.le_refl _
     · rename_i h1 h2
       exfalso
       have hq1:c_s k q≠1∧c_s k q≠2∧c_s k q≠3:=by
         refine ⟨fun e=>h1 ((f_8 _).2 (.inl e)),fun e=>h1 ((f_8 _).2 (.inr (.inl e))),fun e=>h1 ((f_8 _).2 (.inr (.inr e)))⟩
       have hq2:c_s k q≠4∧c_s k q≠5:=⟨fun e=>h2 ((a_pr _).2 (.inl e)),fun e=>h2 ((a_pr _).2 (.inr e))⟩
       have hlt:=(List.getElem?_eq_some_iff.1 hx).1
       obtain ⟨y,hy⟩:=a_g (l:=k.Routes) (j:=q) (by have:=h.fit.lRts;omega)
       have hfit:=h.fit.rts q y x hy hx
       have e:=(k_v (k:=k) (i:=(q:Int)) rfl hy).1
       simp only[Rs.fits,Bool.and_eq_true,decide_eq_true_eq] at hfit
       omega
 · rw[hst] at hq
   split at hq
   · exact absurd hq (by decide)
   · exact absurd hq (by decide)
 · rw[hst,if_pos e] at hq;exact hq rfl
 · obtain ⟨i',s,e3,hs,_⟩:=f_y _ _ _ _ hi
   rw[Nat.zero_add] at e3
   subst e3
   show d_c (b_o c now).Xs (i':Int) =1
   have hlt:=(List.getElem?_eq_some_iff.1 hs).1
   rw[k_e (x:=⟨1,now⟩) rfl]
   show (List.replicate c.Xs.length (⟨1,now⟩ :Mv))[i']? =_
   rw[List.getElem?_replicate,if_pos hlt]
 · have hl4 : l < 4 := by
     obtain ⟨s,hs⟩:=Int.eq_ofNat_of_zero_le hl
     obtain ⟨z,hz,hzl⟩:=i_f hs
     have:=k_f (a_y h.fit.chk).1 hz
     omega
   have h0:=h.lns l hl
   have e:lnG (k.backK c now).Lines l=if l=0 then zLs else ln3 (lnG k.Lines l).Ask (lnG k.Lines l).Done (lnG k.Lines l).Grant:=by
     rw[s_0,s_0]
     show (((⟨0,0,0,0,0,0,0,0⟩ :Ls) :: ((k.Lines.drop 1).take 3).map (fun x=>ln3 x.Ask x.Done x.Grant))[l]?).getD zLs=_
     cases l with
     | zero=>rfl
     | succ l=>
       rw[List.getElem?_cons_succ,List.getElem?_map,List.getElem?_take,if_pos (by omega),List.getElem?_drop,Nat.add_comm 1 l]
       obtain ⟨x,hx⟩:=a_g (l:=k.Lines) (j:=l+1) (by have:=h.fit.lLn;omega)
       rw[hx];rfl
   rw[e]
   split
   · exact ⟨Int.le_refl _,Int.le_refl _,fun _=>rfl⟩
   · exact ⟨h0.1,Int.le_refl _,h0.2.2⟩
end
section
variable {c:Cf} {k:Co} {v:Vw} {now:Int}
theorem a_t9 {secs:List Sec}{js:List Jt}(h:b_q secs js=true){i j:Nat}{s t:Sec}(hs:secs[i]? =some s)(ht:secs[j]? =some t)(he:s.Line=t.Line)(h0:s.Line≠0) :i=j:=by
 unfold b_q at h
 rw[Bool.and_eq_true] at h
 obtain ⟨_,h⟩:=h
 split at h
 · cases h
 · rename_i tk _
   have hh:=(s_r tk secs 0 []).1 h
   rcases Nat.lt_trichotomy i j with g | g | g
   · obtain ⟨_,_,_,h4⟩:=hh j t ht
     exact absurd he ((h4 (by rw[←he];exact h0)).2.2.2 i s g hs)
   · exact g
   · obtain ⟨_,_,_,h4⟩:=hh i s hs
     exact absurd he.symm ((h4 h0).2.2.2 j t g ht)
theorem a_ko:∀(l:List St),0 < b_b c l→∃s ∈ l,((a_k c.Secs s.Sec).getD ⟨0,0,0⟩).Line=b_b c l
 | [],h=>by simp[b_b] at h
 | s::l,h=>by
   unfold b_b at h ⊢
   simp only at h ⊢
   split at h
   · rename_i h1
     rw[if_pos h1]
     exact ⟨s,by simp,rfl⟩
   · rename_i h1
     rw[if_neg h1]
     obtain ⟨s',hs,he⟩:=a_ko l h
     exact ⟨s',by simp[hs],he⟩
theorem a_vi (hf:FitIs c k){r:Int}{y:Rt}(hy:a_k c.Rts r=some y)(t:Int) :a_z (k.lockC c now r) t=if t ∈ c.lockL r then r+1 else a_z k t:=by
 have hr:=a_7 hf.chk (d_3 hy)
 have hll:c.lockL r=Cf.lockR y:=by unfold Cf.lockL;rw[hy]
 have hsec:∀s ∈ c.lockL r,∃z,a_k c.Secs s=some z:=fun s hs=>a_a4 hr (by rw[←hll];exact hs)
 by_cases ht:t ∈ c.lockL r
 · rw[if_pos ht]
   unfold a_z
   rw[a_u5 hf now hy ht];rfl
 · rw[if_neg ht]
   unfold a_z
   congr 1
   unfold a_k
   by_cases h0:t < 0
   · rw[if_pos h0,if_pos h0]
   · rw[if_neg h0,if_neg h0]
     show ((c.lockL r).foldl (fun w s=>w.set s.toNat (r+1)) k.Own)[t.toNat]? =k.Own[t.toNat]?
     by_cases hl:t.toNat < k.Own.length
     · rw[a_ey (c.lockL r) k.Own (fun x hx=>by obtain ⟨z,hz⟩:=hsec x hx;exact (a_l hz).1) hl,if_neg]
       rw[Int.toNat_of_nonneg (by omega)];exact ht
     · rw[List.getElem?_eq_none (by rw[z_k];omega),List.getElem?_eq_none (by omega)]
theorem a_qo {r:Int}(hb:k.blocked c r (c.lockL r) =false){s:Int}(hs:s ∈ c.lockL r) :a_z k s=0∨k.inh c r s=true:=by
 unfold Co.blocked at hb
 rw[List.any_eq_false] at hb
 have:=hb s hs
 simp only[Bool.and_eq_true,decide_eq_true_eq,Bool.not_eq_true',not_and,Bool.not_eq_false] at this
 by_cases h0:a_z k s=0
 · exact .inl h0
 · exact .inr (this h0)
theorem a_ue (hf:FitIs c k){r:Int}(hb:k.blocked c r (c.lockL r) =false){q:Nat}{x:Rt}(hx:c.Rts[q]? =some x){s:St}(hs:s ∈ x.Path)(ho:a_z k s.Sec=(q:Int) +1) :s.Sec ∉ c.lockL r:=by
 intro hin
 rcases a_qo hb hin with h0 | h1
 · omega
 · unfold Co.inh at h1
   have e:(a_k k.Own s.Sec).getD 0 - 1=(q:Int):=by have:(a_k k.Own s.Sec).getD 0=(q:Int) +1:=ho;omega
   simp only[e,Bool.and_eq_true,decide_eq_true_eq] at h1
   obtain ⟨_,_,h3⟩:=h1
   have hrt:c.rt (q:Int) =x:=b_j (by rw[d_s];exact hx)
   rw[hrt] at h3
   have hov:=(a_7 hf.chk (List.mem_of_getElem? hx)).ov (of_decide_eq_true h3)
   have:=hov.2.1
   unfold c_e at this
   rw[List.any_eq_false] at this
   exact this s hs (by simp)
theorem Inv.lock (h:Inv c k)(hn:tm 0 now=true){r:Int}(he:k.reqE c r=0) :Inv c (k.lockC c now r):=by
 have hf:=fits_iff.1 (a_to (fits_iff.2 h.fit) hn he)
 obtain ⟨⟨x0,hx0,hs0⟩,_,hb,_⟩:=a_oj he
 obtain ⟨y,hy,hm⟩:=a_uz h.fit hx0
 have hok:=a_7 h.fit.chk hm
 have hgy:=a_l hy
 have hgx:=a_l hx0
 have hrl:=(List.getElem?_eq_some_iff.1 hgx.2.2).1
 have hrt:c.rt r=y:=b_j hy
 have hown:=fun t=>a_vi (now:=now) h.fit hy t
 have hst:∀t:Int,c_s (k.lockC c now r) t=if t=r then 1 else c_s k t:=fun t=>by
   rw[h_o,h_o]
   show (rsG (k.Routes.set r.toNat ⟨1,0,0,0⟩) t).State=_
   rw[i_0 hgx.1 (by omega)]
   split <;> rfl
 have hfr:∀(q:Nat) (n:Nat),b_6 (k.lockC c now r) q n=if (q:Int) =r then 0 else b_6 k q n:=fun q n=>by
   rw[e_e,e_e]
   show frm (rsG (k.Routes.set r.toNat ⟨1,0,0,0⟩) q) n=_
   rw[i_0 hgx.1 (by omega)]
   split
   · unfold frm;rw[if_pos (show d_y (⟨1,0,0,0⟩ :Rs).State=true by decide)]
   · rfl
 have is_r:∀(q:Nat) (x:Rt),c.Rts[q]? =some x→(q:Int) =r→x=y:=fun q x hx e=>by
   have:a_k c.Rts r=some x:=by rw[←e,d_s];exact hx
   rw[hy] at this;injection this with this;exact this.symm
 have hneeds:∀n ∈ c.needs y,n.Sec ∈ c.lockL r:=fun n hn=>by
   have hll:c.lockL r=Cf.lockR y:=by unfold Cf.lockL;rw[hy]
   rw[hll,mem_lockR]
   unfold Cf.needs at hn
   rcases List.mem_append.1 hn with hn | hn
   · have:=(t_a c y.Path).subset (List.mem_map.2 ⟨n,hn,rfl⟩)
     exact .inr (.inl this)
   · exact .inr (.inr (List.mem_map.2 ⟨n,hn,rfl⟩))
 refine ⟨hf,fun q x hx s hs=>?_,fun s q hs=>?_,fun q x hx hr n hn' ho=>?_,fun q x hx hr i hi ho=>?_,fun l hl=>?_⟩
 · rw[hown]
   rw[hfr] at hs
   by_cases e:(q:Int) =r
   · have ex:=is_r q x hx e
     subst ex
     rw[if_pos e,List.drop_zero] at hs
     rw[if_pos (a_fg hy hs),e]
   · rw[if_neg e] at hs
     have ho:=h.own q x hx s hs
     rw[if_neg (a_ue h.fit hb hx (List.mem_of_mem_drop hs) ho)]
     exact ho
 · rw[hst]
   by_cases e:(q:Int) =r
   · rw[if_pos e];decide
   · rw[if_neg e]
     rw[hown] at hs
     split at hs
     · omega
     · exact h.idle s q hs
 · show d_c (j_3 now (c.Needs r) k.Points) n.Sec=n.Pos
   have eN:c.Needs r=c.needs y:=by rw[Cf.Needs,hrt]
   rw[eN]
   have hrange:∀m ∈ c.needs y,0≤m.Sec∧m.Sec < k.Points.length:=fun m hm=>by
     obtain ⟨⟨z,hz⟩,_⟩:=k_h hok hm
     have:=a_l hz
     have:=h.fit.lPts
     omega
   by_cases e:(q:Int) =r
   · have ex:=is_r q x hx e
     subst ex
     exact a_o5 (a_qq hok) hrange n hn'
   · rw[hst,if_neg e] at hr
     rw[hown] at ho
     have hnin:n.Sec ∉ c.lockL r:=fun hin=>by rw[if_pos hin] at ho;omega
     rw[if_neg hnin] at ho
     have:=h.pts q x hx hr n hn' ho
     unfold d_c
     rw[x_f (fun m hm=>(hrange m hm).1) (fun hin=>by
       obtain ⟨m,hm,he⟩:=List.mem_map.1 hin
       exact hnin (by rw[←he];exact hneeds m hm))]
     exact this
 · show d_c (xsC now (c.Cross r) k.Xs) i=1
   have eC:c.Cross r=a_9 y.Path c.Xs 0:=by rw[Cf.Cross,hrt]
   have hrange:∀(z:Rt) (j:Int),j ∈ a_9 z.Path c.Xs 0→0≤j∧j < k.Xs.length:=fun z j hj=>by
     obtain ⟨i',xx,e3,hxx,_⟩:=f_y _ _ _ _ hj
     have hil:=(List.getElem?_eq_some_iff.1 hxx).1
     have:=h.fit.lXs
     omega
   rw[eC]
   by_cases e:(q:Int) =r
   · have ex:=is_r q x hx e
     subst ex
     exact a_s0 (hrange x) i hi
   · rw[hst,if_neg e] at hr
     rw[hown] at ho
     have hnin:xAt c i ∉ c.lockL r:=fun hin=>by rw[if_pos hin] at ho;omega
     rw[if_neg hnin] at ho
     exact a_gi (fun j hj=>(hrange y j hj).1) (hrange x i hi).1 (h.gat q x hx hr i hi ho)
 · obtain ⟨h1,h2,h3⟩:=h.lns l hl
   have hln:=x_9 h.fit.chk (c.rt r).Path
   show (lnG (k_p (b_b c (c.rt r).Path) k.Lines) l).Done≤(lnG (k_p (b_b c (c.rt r).Path) k.Lines) l).Ask∧(lnG (k_p (b_b c (c.rt r).Path) k.Lines) l).Told≤(lnG (k_p (b_b c (c.rt r).Path) k.Lines) l).Grant∧(_→(lnG (k_p (b_b c (c.rt r).Path) k.Lines) l).Ask=(lnG (k_p (b_b c (c.rt r).Path) k.Lines) l).Done)
   unfold k_p
   by_cases hp:b_b c (c.rt r).Path > 0
   · rw[if_pos hp,a_l5 hln.1 (by have:=h.fit.lLn;omega)]
     by_cases e:(l:Int) =b_b c (c.rt r).Path
     · rw[if_pos e]
       have e1:(a_k k.Lines (b_b c (c.rt r).Path)).getD zLs=lnG k.Lines l:=by rw[←e];rfl
       rw[e1]
       refine ⟨by show (lnG k.Lines l).Done≤(lnG k.Lines l).Ask+1;omega,h2,fun g=>?_⟩
       exfalso
       obtain ⟨s,hs,hsl⟩:=a_ko _ hp
       rw[hrt] at hs hsl
       have hin:=a_fg hy hs
       obtain ⟨i,hi⟩:=Int.eq_ofNat_of_zero_le hl
       obtain ⟨z,hz,hzl⟩:=i_f hi
       cases hg:a_k c.Secs s.Sec with
       | none=>rw[hg] at hsl;have:(0:Int) =b_b c y.Path:=hsl;rw[hrt] at hp;omega
       | some z'=>
         rw[hg] at hsl
         have hsl:z'.Line=b_b c y.Path:=hsl
         have hgz:=a_l hg
         have:=a_t9 (a_y h.fit.chk).1 hz hgz.2.2 (by rw[hzl,hsl,e,hrt]) (by rw[hzl];omega)
         have hsec:s.Sec=c.lineSec l:=by omega
         rw[hown,←hsec,if_pos hin] at g
         omega
     · rw[if_neg e]
       refine ⟨h1,h2,fun g=>h3 ?_⟩
       rw[hown] at g
       split at g
       · have:=hgx.1;omega
       · exact g
   · rw[if_neg hp]
     refine ⟨h1,h2,fun g=>h3 ?_⟩
     rw[hown] at g
     split at g
     · have:=hgx.1;omega
     · exact g
theorem Inv.requestC (h:Inv c k)(r:Int) :Inv c (k.requestC c now r).1:=by
 unfold Co.requestC Co.done
 split
 · rename_i hg
   obtain ⟨h1,h2,h3⟩:=s_3 hg
   exact h.lock h2 h3
 · exact h
/-! who loses what -/
def Soft (k n:Co) :Prop:=∀s,a_z n s=a_z k s∨a_z k s=0∨a_z n s=0
end
section
structure Stp where
 Kind:Int
 Now:Int
 N:Int
 Pos:Int
 a:Int
 d:Int
 g:Int
 v:Vw
 rec_:Bool
def Co.rcd (k:Co)(o:Stp) :Co:= { k with Dirty:=k.Dirty && !o.rec_ }
def Co.cycS (c:Cf)(k:Co)(o:Stp) :Co:=if ((k.rcd o).stepC c o.v o.Now).2≠0 then k.rcd o else (((k.rcd o).stepC c o.v o.Now).1.stepK c o.v o.Now).1
def Co.doS (c:Cf)(k:Co)(o:Stp) :Co:=
 if o.Kind=1 then (k.requestC c o.Now o.N).1
 else if o.Kind=2 then (k.cancelC c o.Now o.N).1
 else if o.Kind=3 then (k.restoreC c o.N).1
 else if o.Kind=4 then (k.releaseC c o.Now o.N).1
 else if o.Kind=5 then (k.resetC c o.Now o.N).1
 else if o.Kind=6 then (k.throwC c o.Now o.N o.Pos).1
 else if o.Kind=7 then (k.hearC c o.N o.a o.d o.g).1
 else if o.Kind=8 then k.cycS c o
 else if o.Kind=9 then (if tm 0 o.Now=true then k.backK c o.Now else k)
 else k
variable {c:Cf} {k:Co}
theorem a_o4 {v:Vw}{now:Int}(h:(k.stepC c v now).2=0) :k.fits c=true∧v.fits c=true∧tm 0 now=true:=by
 unfold Co.stepC at h
 split at h
 · cases h
 split at h
 · cases h
 · rename_i h1 h2
   refine ⟨?_,?_,by simp only[tm,decide_eq_true_eq];omega⟩
   · cases hk:k.fits c with
     | true=>rfl
     | false=>exact absurd (.inl hk) h1
   · cases hv:v.fits c with
     | true=>rfl
     | false=>exact absurd (.inr hv) h1
theorem a_va {v:Vw}{now:Int}(h:(k.stepC c v now).2≠0) :(k.stepC c v now).1=k:=by
 unfold Co.stepC at h ⊢
 split
 · rfl
 split
 · rfl
 · rename_i h1 h2
   rw[if_neg h1,if_neg h2] at h
   exact absurd rfl h
theorem a_pk {v:Vw}{now:Int}(hf:FitIs c k)(hv:v.fits c=true)(hn:tm 0 now=true) :(k.stepK c v now).2.2=0∧(k.stepK c v now).1=k.stepY c v now:=by
 unfold Co.stepK
 rw [if_neg (by rintro (e | e); · rw [fits_iff.2 hf] at e; cases e
                · rw[hv] at e;cases e),if_neg (by rw[hn];decide)]
 exact ⟨rfl,rfl⟩
theorem Inv.rcd (h:Inv c k)(o:Stp) :Inv c (k.rcd o):=h.dirty _
theorem Inv.cycS (h:Inv c k)(o:Stp) :Inv c (k.cycS c o):=by
 unfold Co.cycS
 split
 · exact h.rcd o
 · rename_i he
   obtain ⟨_,h2,h3⟩:=a_o4 (Classical.byContradiction he)
   have hC:=(h.rcd o).stepC (v:=o.v) (now:=o.Now)
   rw[(a_pk hC.fit h2 h3).2]
   exact hC.stepY h3
theorem Inv.doS (h:Inv c k)(o:Stp) :Inv c (k.doS c o):=by
 unfold Co.doS
 split
 · exact h.requestC _
 split
 · exact h.leadC (.inl ⟨rfl, .inl rfl⟩)
 split
 · exact h.leadC (.inr ⟨rfl,rfl⟩)
 split
 · exact h.leadC (.inl ⟨rfl, .inr rfl⟩)
 split
 · exact h.resetC _
 split
 · exact h.throwC _ _
 split
 · exact h.hearC _ _ _ _
 split
 · exact h.cycS o
 split
 · split
   · rename_i hn;exact h.back hn
   · exact h
 · exact h
theorem s_9 {e:Int}{y:Co}(h:(k.done e y).2≠0) :(k.done e y).1=k:=by
 unfold Co.done at h ⊢
 rw[if_neg h]
theorem a_xv {line a d g:Int}(h:(k.hearC c line a d g).2≠0) :(k.hearC c line a d g).1=k:=by
 unfold Co.hearC at h ⊢
 split
 · rfl
 split
 · rfl
 split
 · rfl
 · rename_i h1 h2 h3
   rw[if_neg h1,if_neg h2,if_neg h3] at h
   exact absurd rfl h
theorem a_ua {now:Int}{l:List UInt8}(hn:tm 0 now=false) :c.loadC now l=(zCo,3):=by
 unfold Cf.loadC
 rw[if_neg (by rintro ⟨_,_,_,e⟩;rw[hn] at e;cases e)]
end
end Go.Fw
namespace Go.Proofs.YtdmfnhbmhkgemaaGreat
open Go.Fw Go.Proofs Go.RowKit
open Go.Proofs.Tryz (prog)
section
variable {σ σ0:Store}
def a_x1 (row:List D)(o:Stp) :Prop:=∃v0 v1 v2 v3,row=[iD o.Kind,iD o.Now,iD o.N,iD o.Pos,iD o.a,iD o.d,iD o.g,v0,v1,v2,v3, .bool o.rec_]∧VwAt v0 v1 v2 v3 o.v
theorem a_yp {row:List D}{n:Nat}(h:tyD prog n o_z row) :∃o:Stp,a_x1 row o:=by
 obtain ⟨_,_,rfl,⟨a,rfl,_⟩,_,_,rfl,⟨b,rfl,_⟩,_,_,rfl,⟨e,rfl,_⟩,_,_,rfl,⟨f,rfl,_⟩,_,_,rfl,⟨x,rfl,_⟩,_,_,rfl,⟨y,rfl,_⟩,_,_,rfl,⟨z,rfl,_⟩,d0,_,rfl,h0,d1,_,rfl,h1,d2,_,rfl,h2,d3,_,rfl,h3,_,_,rfl,⟨rc,rfl⟩,rfl⟩:=
   r_s n 5 _ _ [.int .i64, .int .i64, .int .i64, .int .i64, .int .i64, .int .i64, .int .i64, .sl e_k, .sl e_k, .sl e_k, .sl e_k, .bool] h (by kernel_rfl)
 obtain ⟨v,hv,_⟩:=a_xf h0 h1 h2 h3
 exact ⟨⟨a,b,e,f,x,y,z,v,rc⟩,d0,d1,d2,d3,rfl,hv⟩
def a_yi (σ:Store)(n:Co)(r:RV)(s:Store) :Prop:=s=σ∧∃d0 d1 d2 d3 d4 d5,r= .tup [coA d0 d1 d2 d3 d4 d5 n.Dirty,bA true]∧CoFz d0 d1 d2 d3 d4 d5 n
theorem CoFz.fitI {d0 d1 d2 d3 d4 d5:D}{k:Co}{c:Cf}(h:CoFz d0 d1 d2 d3 d4 d5 k)(hf:FitIs c k) :CoFit d0 d1 d2 d3 d4 d5 k:=by
 have:=q_4 (fits_iff.2 hf)
 exact ⟨h.n0,h.n1,h.n2,h.n3,h.n4,h.n5,by omega,by omega,by omega,by omega,by omega,by omega⟩
theorem CoFz.rcd {d0 d1 d2 d3 d4 d5:D}{k:Co}(h:CoFz d0 d1 d2 d3 d4 d5 k)(b:Bool) :CoFz d0 d1 d2 d3 d4 d5 { k with Dirty:=b } :=
 ⟨fun s=>⟨(h.at_ s).own,(h.at_ s).routes,(h.at_ s).points,(h.at_ s).xs,(h.at_ s).lines,(h.at_ s).resets⟩,h.n0,h.n1,h.n2,h.n3,h.n4,h.n5⟩
theorem a_mc {c0 c1 c2 c3 c4:D}{c:Cf}(h:∀s,CfAt s c0 c1 c2 c3 c4 c)(now:Int)(h1:c.Secs.length≤2 ^ 20)(h2:c.Xs.length≤2 ^ 20)(h3:c.Rts.length≤2 ^ 20) :
   DCalls prog h_i [cfA c0 c1 c2 c3 c4 c,iA now] σ fun r s=>s=σ∧∃d0 d1 d2 d3 d4 d5,r= .a (coA d0 d1 d2 d3 d4 d5 true)∧CoFz d0 d1 d2 d3 d4 d5 (b_o c now):=by
 refine (p_b h now h1 h2 h3).ret ?_
 rintro r s ⟨d0,d1,d2,d3,d4,d5,rfl,hco⟩
 obtain ⟨e0,e1,e2,e3,e4,e5,hfz,hz⟩:=a_qu hco
 exact ⟨.a (coA e0 e1 e2 e3 e4 e5 true),σ, .pure hco.own.ext hfz,rfl,_,_,_,_,_,_,rfl,hz⟩
theorem a_o6 {c0 c1 c2 c3 c4 k0 k1 k2 k3 k4 k5 v0 v1 v2 v3:D}{c:Cf}(hc:∀s,CfAt s c0 c1 c2 c3 c4 c)(hz:u_4 c4){k:Co}(hk:CoFz k0 k1 k2 k3 k4 k5 k)(hi:Inv c k)(o:Stp)(hv:VwAt v0 v1 v2 v3 o.v) :
   DCalls prog w_s [cfA c0 c1 c2 c3 c4 c,coA k0 k1 k2 k3 k4 k5 k.Dirty, .agg [iD o.Kind,iD o.Now,iD o.N,iD o.Pos,iD o.a,iD o.d,iD o.g,v0,v1,v2,v3, .bool o.rec_]] σ (a_yi σ (k.doS c o)):=by
 have hkf:=hk.fitI hi.fit
 have hsm:=a_y hi.fit.chk
 refine a_rk _ _ _ _ _ _ _ _ _ k0 k1 k2 k3 k4 k5 k.Dirty o.Kind o.Now o.N o.Pos o.a o.d o.g v0 v1 v2 v3 o.rec_ σ _ ?_
 intro R hR
 have fin : ∀ (p : Co × Int) (q : Co) (e0 e1 e2 e3 e4 e5 d0 d1 d2 d3 d4 d5 f0 f1 f2 f3 f4 f5 : D) (fb : Bool), CoFz e0 e1 e2 e3 e4 e5 q → CoFz d0 d1 d2 d3 d4 d5 p.1 → (p.2 ≠ 0 → p.1 = q) → p.1 = k.doS c o →
     R e0 e1 e2 e3 e4 e5 q.Dirty f0 f1 f2 f3 f4 f5 fb d0 d1 d2 d3 d4 d5 p.1.Dirty p.2 σ:=fun p q e0 e1 e2 e3 e4 e5 d0 d1 d2 d3 d4 d5 f0 f1 f2 f3 f4 f5 fb hq hd hno hdo=>
   hR _ _ _ _ _ _ _ _ _ _ _ _ _ _ _ _ _ _ _ _ _ _ σ (bce (fun _=>⟨rfl,d0,d1,d2,d3,d4,d5,by rw[hdo],by rw[←hdo];exact hd⟩) (fun e=>(v_b (hd.at_ σ) (hq.at_ σ)).use ⟨_,rfl,rfl,d0,d1,d2,d3,d4,d5,by rw[decide_eq_true (hno e),hdo],by rw[←hdo];exact hd⟩))
 have call : ∀ {f : FuncId} {xs : List A} {p : Co × Int}, DCalls prog f xs σ (CoPost σ p) → (p.2 ≠ 0 → p.1 = k) → p.1 = k.doS c o →
     DCalls prog f xs σ fun r s=>∃d d1 d2 d3 d4 d5:D,∃b:Bool,∃n:Int,r= .tup [.agg [d,d1,d2,d3,d4,d5, .bool b], .one (.int .i64 n)]∧R k0 k1 k2 k3 k4 k5 k.Dirty .nils .nils .nils .nils .nils .nils false d d1 d2 d3 d4 d5 b n s:=fun {f xs p} h hno hdo=>by
   refine (a_g7 h).mono ?_
   rintro r s ⟨rfl,d0,d1,d2,d3,d4,d5,rfl,hd⟩
   exact ⟨d0,d1,d2,d3,d4,d5,_,_,rfl,fin p k _ _ _ _ _ _ _ _ _ _ _ _ _ _ _ _ _ _ _ hk hd hno hdo⟩
 have hat:=hk.at_ σ
 unfold Co.doS at fin call
 refine bce (fun e=>?_) (fun n1=>?_)
 · rw[if_pos e] at call
   exact call (z_1 hc hat hkf hz o.Now o.N) s_9 rfl
 rw[if_neg n1] at fin call
 refine bce (fun e=>?_) (fun n2=>?_)
 · rw[if_pos e] at call
   exact call (a_cx hc hat hkf o.Now o.N) s_9 rfl
 rw[if_neg n2] at fin call
 refine bce (fun e=>?_) (fun n3=>?_)
 · rw[if_pos e] at call
   exact call (a_bi hc hat hkf o.N) s_9 rfl
 rw[if_neg n3] at fin call
 refine bce (fun e=>?_) (fun n4=>?_)
 · rw[if_pos e] at call
   exact call (a_ai hc hat hkf o.Now o.N) s_9 rfl
 rw[if_neg n4] at fin call
 refine bce (fun e=>?_) (fun n5=>?_)
 · rw[if_pos e] at call
   exact call (a_gc hc hat hkf o.Now o.N) s_9 rfl
 rw[if_neg n5] at fin call
 refine bce (fun e=>?_) (fun n6=>?_)
 · rw[if_pos e] at call
   exact call (a_fr hc hat hkf o.Now o.N o.Pos) s_9 rfl
 rw[if_neg n6] at fin call
 refine bce (fun e=>?_) (fun n7=>?_)
 · rw[if_pos e] at call
   exact call (a_i3 hc hat hkf o.N o.a o.d o.g) a_xv rfl
 rw[if_neg n7] at fin call
 have hdo:k.doS c o=if o.Kind=8 then k.cycS c o else if o.Kind=9 then (if tm 0 o.Now=true then k.backK c o.Now else k) else k:=by
   unfold Co.doS
   rw[if_neg n1,if_neg n2,if_neg n3,if_neg n4,if_neg n5,if_neg n6,if_neg n7]
 refine bce (fun e8=>?_) (fun n8=>?_)
 · rw[if_pos e8] at fin hdo
   rw[hdo]
   intro R1 hR1
   have hq:=hk.rcd (k.Dirty && !o.rec_)
   have hqi:=hi.rcd o
   have body:R1 k0 k1 k2 k3 k4 k5 (k.Dirty && !o.rec_) σ:=by
     refine hR1 _ _ _ _ _ _ _ σ ((a_g7 (a_il (k:=k.rcd o) hc (hq.at_ σ) (hq.fitI hqi.fit) hv o.Now)).mono ?_)
     rintro r s ⟨rfl,d0,d1,d2,d3,d4,d5,rfl,hd⟩
     refine ⟨d0,d1,d2,d3,d4,d5,_,_,rfl,bcn (fun e=>?_) (fun e=>?_)⟩
     · have hs:=a_va e
       refine (v_b (hd.at_ s) (k':=k.rcd o) (hq.at_ s)).use ⟨_,rfl,rfl,k0,k1,k2,k3,k4,k5,?_,?_⟩
       · unfold Co.cycS
         rw[if_pos e,decide_eq_true hs];rfl
       · unfold Co.cycS
         rw[if_pos e];exact hq
     · obtain ⟨_,hv2,hn2⟩:=a_o4 e
       have hC:=hqi.stepC (v:=o.v) (now:=o.Now)
       refine (a_ji hc hz hv (hd.at_ s) (hd.fitI hC.fit) o.Now).mono ?_
       rintro r s ⟨rfl,g0,g1,g2,g3,g4,g5,g6,rfl,hg,_⟩
       have hK:=a_pk hC.fit hv2 hn2
       refine ⟨g0,g1,g2,g3,g4,g5,_,g6,_,rfl,fin ((((k.rcd o).stepC c o.v o.Now).1.stepK c o.v o.Now).1,(((k.rcd o).stepC c o.v o.Now).1.stepK c o.v o.Now).2.2) (k.rcd o) _ _ _ _ _ _ _ _ _ _ _ _ _ _ _ _ _ _ _ hq hg (fun g=>absurd hK.1 g) ?_⟩
       unfold Co.cycS
       rw[if_neg (fun g=>g e)]
   cases hdk:k.Dirty with
   | true=>
     rw[hdk,Bool.true_and] at body
     exact ⟨by trivial,body⟩
   | false=>
     rw[hdk,Bool.false_and] at body
     exact ⟨by trivial,body⟩
 rw[if_neg n8] at fin hdo
 refine bce (fun e9=>?_) (fun n9=>?_)
 · rw[if_pos e9] at hdo
   rw[hdo]
   have hfs:=q_4 (fits_iff.2 hi.fit)
   refine (a_jp hat (by omega) (by omega) (fun w hw=>by have:=hi.fit.own w hw;omega)).use ⟨_,_,rfl,?_⟩
   rw[a_ts hi.fit]
   have hbl:k.saveB.length≤2 ^ 60:=by
     unfold Co.saveB
     rw[List.length_append,List.length_append,n_w y_k,n_w a_ld,n_w a_sq,List.length_take]
     omega
   refine bcn (fun e=>absurd rfl e) (fun _=>(a_g7 (a_ir hc o.Now (by omega) (by omega) (by omega) hbl)).mono ?_)
   rintro r s ⟨rfl,d0,d1,d2,d3,d4,d5,rfl,hd⟩
   cases htm:tm 0 o.Now with
   | true=>
     rw[a_tm hi.fit htm] at hd ⊢
     exact ⟨d0,d1,d2,d3,d4,d5,_,_,rfl,bcn (fun e=>absurd rfl e) (fun _=>⟨rfl,d0,d1,d2,d3,d4,d5,by rw[if_pos rfl],by rw[if_pos rfl];exact hd⟩)⟩
   | false=>
     rw[a_ua htm] at hd ⊢
     exact ⟨d0,d1,d2,d3,d4,d5,_,_,rfl,bcn (fun _=>(c_f o.Now).use ⟨_,rfl,rfl,k0,k1,k2,k3,k4,k5,by rw[htm,if_neg (by decide)];rfl,by rw[if_neg (by decide)];exact hk⟩) (fun e=>by cases e)⟩
 · rw[if_neg n9] at fin
   exact fin (k,0) k _ _ _ _ _ _ _ _ _ _ _ _ _ _ _ _ _ _ _ hk hk (fun e=>absurd rfl e) rfl
theorem law22_WatchClean_ok {xs:List A}(h:TyAs prog [t_Config,t_sl_law22_Step] xs) :a_w3 l_b xs:=by
 obtain ⟨a0,xs,rfl,h0,hr0⟩:=a_o3 h
 obtain ⟨a1,xs,rfl,h1,hr1⟩:=a_o3 hr0
 obtain rfl:=a_xi hr1
 obtain ⟨cs,_,rfl,p0⟩:=a_xk h0 (by kernel_rfl)
 obtain ⟨c0,c1,c2,c3,c4,c,rfl,hc,hci,hz⟩:=a_sg p0
 obtain ⟨script,rfl,p1⟩:=a_wb (c:= .sl o_z) h1 (by kernel_rfl) (by kernel_rfl)
 obtain ⟨rows,sc,hsc,hlen,hrel,_,hscl⟩:=a_v4 (bytes:=160) a_x1 (fun row n h=>a_yp h) (by kernel_rfl) (by omega) p1
 clear h h0 h1 hr0 hr1 p0 p1
 refine w_h _ _ _ _ _ _ _ _ _ script noS _ (law22_lives_ok.use ⟨true,rfl,a_p (fun e=>by cases e) (fun _=>(s_p hc).use ⟨_,rfl,bcn (fun _=>rfl) (fun hok=>?_)⟩)⟩)
 have hsm:=a_y hok
 refine (a_mc hc 0 (by omega) (by omega) (by omega)).mono ?_
 rintro r s0 ⟨rfl,d0,d1,d2,d3,d4,d5,rfl,hk0⟩
 have hsz:=(hsc noS).size
 refine ⟨_,_,_,_,_,_,_,rfl,(hsc noS).lenK ⟨fun e0 e1 e2 e3 e4 e5 b n s=>∃(j:Nat) (k:Co),n=j∧j≤rows.length∧CoFz e0 e1 e2 e3 e4 e5 k∧Inv c k∧b=k.Dirty,fun _ _ _ _ _ _ _ n _=>rows.length - n.toNat,
   ⟨0,_,rfl,by omega,hk0,a_xr hok (by decide),rfl⟩,?_⟩⟩
 rintro e0 e1 e2 e3 e4 e5 b n s ⟨j,k,rfl,hj,hk,hi,rfl⟩
 refine bcd (fun hlt=>?_) (fun _=>rfl)
 have hlt:j < rows.length:=by omega
 obtain ⟨row,hrow⟩:=a_g (l:=rows) (j:=j) hlt
 obtain ⟨o,ho⟩:=a_g (l:=sc) (j:=j) (by omega)
 obtain ⟨v0,v1,v2,v3,rfl,hv⟩:=hrel j row o hrow ho
 refine (hsc s).load hrow a_ni rfl ⟨o.Kind,o.Now,o.N,o.Pos,o.a,o.d,o.g,v0,v1,v2,v3,o.rec_,rfl,(a_o6 hc hz hk hi o hv).mono ?_⟩
 rintro r s1 ⟨rfl,f0,f1,f2,f3,f4,f5,rfl,hn⟩
 have hI:=hi.doS o
 generalize k.doS c o=m at *
 refine ⟨f0,f1,f2,f3,f4,f5,m.Dirty,true,rfl,a_p (fun e=>by cases e) (fun _=>(a_er hc hn.at_ m.Dirty).mono ?_)⟩
 rintro r s2 ⟨rfl,d,rfl,hd⟩
 rw[hI.judge] at hd
 refine ⟨d,rfl,(hd s2).lenK (bcn (fun e=>absurd rfl e) (fun _=>(r_l hc (hn.at_ s2) rfl).mono ?_))⟩
 rintro r s3 ⟨d',rfl,hd'⟩
 rw[hI.judge] at hd'
 refine ⟨d',rfl,hd'.at_.lenK (bcn (fun e=>absurd rfl e) (fun _=>?_))⟩
 rw[a_m (by omega)]
 exact ⟨⟨j+1,m,rfl,hlt,hn,hI,rfl⟩,c_9 hlt⟩
end
end Go.Proofs.YtdmfnhbmhkgemaaGreat
