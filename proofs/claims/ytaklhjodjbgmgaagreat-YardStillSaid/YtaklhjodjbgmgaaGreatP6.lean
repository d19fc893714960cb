/-
  Proofs that the statement of this claim leans on: part 6.
-/
import Derived.Test.YtaklhjodjbgmgaaGreatP5
set_option linter.unusedVariables false
set_option linter.unusedSimpArgs false
namespace Go.Proofs.YtaklhjodjbgmgaaGreat
open Go.Fw Go.Proofs Go.RowKit
open Go.Proofs.Tryz (prog)
section
variable {σ σ0:Store}
section
variable {s:Store} {id:Nat} {L:RL} {y:Yd} {fr:List (Nat × SO)} {N:Nat}
theorem p_9 {F:Int × Int->Bool}{es es':List Ent}{kind n v:Int}(h:∀k,∃m:Int,(b_e (n_4 k) es).getD (iA 0) =iA m/\(m == 1) =F k)(q:∀k,b_e k es'=if eqA k (.agg [iD kind,iD n]) =true then some (iA v) else b_e k es) :
   ∀k,∃m:Int,(b_e (n_4 k) es').getD (iA 0) =iA m/\(m == 1) =(if k=(kind,n) then v == 1 else F k):=fun k=>by
 rw[q (n_4 k)]
 by_cases e:k=(kind,n)
 · have e1:eqA (n_4 k) (.agg [iD kind,iD n]) =true:=(a_dl k (kind,n)).2 e
   rw[if_pos e1,if_pos e];exact ⟨v,rfl,rfl⟩
 · have e1:¬eqA (n_4 k) (.agg [iD kind,iD n]) =true:=fun g=>e ((a_dl k (kind,n)).1 g)
   rw[if_neg e1,if_neg e];exact h k
theorem RyIn.setFault (h:RyIn s id L y fr)(hw:Ywf y N)(kind n:Int)(on:Bool) :DCalls prog g_3 [.one (pO id),iA kind,iA n,bA on] s fun r s'=>r= .a (iA (y.fault kind n on).2)/\∃L',RyIn s' id L' (y.fault kind n on).1 fr:=by
 have hY:y.fault kind n on=if kind < 1\/kind > 6 then (y,27) else if n < 0\/n>=(e_i y.C kind:Nat) then (y,20) else
   if (kind=2\/kind=3)/\((a_n y.C.Secs n).map Sec.Kind).getD 0≠1 then (y,20) else ({ y with Flt:=fun p=>if p=(kind,n) then on else y.Flt p },0):=by
   unfold Yd.fault e_i
   rfl
 have hc:=h.cfg s
 refine v_3 (pO id) kind n on s _ ?_
 intro R hR
 refine bcd (fun h1=>⟨by rw[hY,if_pos (.inl h1)],L,by rw[hY,if_pos (.inl h1)];exact h⟩) (fun h1=>bcd (fun h2=>⟨by rw[hY,if_pos (.inr h2)],L,by rw[hY,if_pos (.inr h2)];exact h⟩) (fun h2=>hR s ?_))
 rw[if_neg (by omega)] at hY
 refine ⟨trivial,_,_,_,rfl,_,a_d h.row,L.c0,rfl,hc.secs.lenK ?_⟩
 rw[zB]
 intro R1 hR1
 refine bce (fun h4=>?_) (fun h4=>?_)
 · refine ⟨trivial,_,_,_,rfl,_,a_d h.row,L.c2,rfl,hc.sigs.lenK ?_⟩
   rw[zB]
   refine hR1 _ s fun R2 hR2=>bce (fun h5=>by omega) (fun _=>bce (fun h6=>by omega) (fun _=>hR2 _ s fun R3 hR3=>?_))
   have hs:e_i y.C kind=y.C.Sigs.length:=by unfold e_i;rw[if_pos h4]
   rw[hs] at hY
   refine bcd (fun h2=>⟨by rw[hY,if_pos (.inl h2)],L,by rw[hY,if_pos (.inl h2)];exact h⟩) (fun h2=>bcd (fun h3=>⟨by rw[hY,if_pos (.inr h3)],L,by rw[hY,if_pos (.inr h3)];exact h⟩) (fun h3=>?_))
   rw[if_neg (by omega)] at hY
   have go:¬((kind=2\/kind=3)/\((a_n y.C.Secs n).map Sec.Kind).getD 0≠1)->R3 s:=fun hg=>by
     rw[if_neg hg] at hY
     refine hR3 s ⟨trivial,_,_,_,rfl,_,a_d h.row, .omap L.mp,rfl,L.mp,L.clk,L.es,⟨by kernel_rfl,rfl,h.mp,h.keys⟩,fun c' es' q1 q2=>?_⟩
     have hy1:=h.putMp (c':=c') (es':=es') (s':=s.set L.mp (.mp c' es')) (Store.set_same _ _ _) q1 (p_9 h.flt q2) (.of fun i hi=>Store.set_ne _ _ hi)
     refine bc (fun ht=>⟨trivial,_,_,_,rfl,_,a_d hy1.row, .omap L.mp,rfl,L.mp,c',es',⟨by kernel_rfl,rfl,hy1.mp,hy1.keys⟩,fun c2 es2 q3 q4=>?_⟩) (fun hf=>⟨by rw[hY],{ L with clk:=c',es:=es' },?_⟩)
     · refine ⟨by rw[hY],{ L with clk:=c2,es:=es2 },?_⟩
       have hy2:=hy1.putMp (c':=c2) (es':=es2) (s':=(s.set L.mp (.mp c' es')).set L.mp (.mp c2 es2)) (Store.set_same _ _ _) q3 (p_9 hy1.flt q4) (.of fun i hi=>Store.set_ne _ _ hi)
       rw[hY,ht]
       have e:(fun k=>if k=(kind,n) then ((1:Int) == 1) else if k=(kind,n) then ((0:Int) == 1) else y.Flt k) =fun p=>if p=(kind,n) then true else y.Flt p:=by
         funext k;by_cases g:k=(kind,n)
         · rw[if_pos g,if_pos g];rfl
         · rw[if_neg g,if_neg g,if_neg g]
       rw[<-e];exact hy2
     · rw[hY,hf];exact hy1
   refine bce (fun e2=>by omega) (fun e2=>bce (fun e3=>by omega) (fun e3=>go fun hg=>by rcases hg.1 with g | g;exact e2 g;exact e3 g))
 · refine hR1 _ s fun R2 hR2=>bce (fun h5=>?_) (fun h5=>bce (fun h6=>?_) (fun h6=>hR2 _ s fun R3 hR3=>?_))
   · refine ⟨trivial,_,_,_,rfl,_,a_d h.row,L.c3,rfl,hc.xs.lenK ?_⟩
     rw[zB]
     refine hR2 _ s fun R3 hR3=>?_
     have hs:e_i y.C kind=y.C.Xs.length:=by unfold e_i;rw[if_neg h4,if_pos (by omega)]
     rw[hs] at hY
     refine bcd (fun h2=>⟨by rw[hY,if_pos (.inl h2)],L,by rw[hY,if_pos (.inl h2)];exact h⟩) (fun h2=>bcd (fun h3=>⟨by rw[hY,if_pos (.inr h3)],L,by rw[hY,if_pos (.inr h3)];exact h⟩) (fun h3=>?_))
     rw[if_neg (by omega)] at hY
     have go:¬((kind=2\/kind=3)/\((a_n y.C.Secs n).map Sec.Kind).getD 0≠1)->R3 s:=fun hg=>by
       rw[if_neg hg] at hY
       refine hR3 s ⟨trivial,_,_,_,rfl,_,a_d h.row, .omap L.mp,rfl,L.mp,L.clk,L.es,⟨by kernel_rfl,rfl,h.mp,h.keys⟩,fun c' es' q1 q2=>?_⟩
       have hy1:=h.putMp (c':=c') (es':=es') (s':=s.set L.mp (.mp c' es')) (Store.set_same _ _ _) q1 (p_9 h.flt q2) (.of fun i hi=>Store.set_ne _ _ hi)
       refine bc (fun ht=>⟨trivial,_,_,_,rfl,_,a_d hy1.row, .omap L.mp,rfl,L.mp,c',es',⟨by kernel_rfl,rfl,hy1.mp,hy1.keys⟩,fun c2 es2 q3 q4=>?_⟩) (fun hf=>⟨by rw[hY],{ L with clk:=c',es:=es' },?_⟩)
       · refine ⟨by rw[hY],{ L with clk:=c2,es:=es2 },?_⟩
         have hy2:=hy1.putMp (c':=c2) (es':=es2) (s':=(s.set L.mp (.mp c' es')).set L.mp (.mp c2 es2)) (Store.set_same _ _ _) q3 (p_9 hy1.flt q4) (.of fun i hi=>Store.set_ne _ _ hi)
         rw[hY,ht]
         have e:(fun k=>if k=(kind,n) then ((1:Int) == 1) else if k=(kind,n) then ((0:Int) == 1) else y.Flt k) =fun p=>if p=(kind,n) then true else y.Flt p:=by
           funext k;by_cases g:k=(kind,n)
           · rw[if_pos g,if_pos g];rfl
           · rw[if_neg g,if_neg g,if_neg g]
         rw[<-e];exact hy2
       · rw[hY,hf];exact hy1
     refine bce (fun e2=>by omega) (fun e2=>bce (fun e3=>by omega) (fun e3=>go fun hg=>by rcases hg.1 with g | g;exact e2 g;exact e3 g))
   · refine ⟨trivial,_,_,_,rfl,_,a_d h.row,L.c3,rfl,hc.xs.lenK ?_⟩
     rw[zB]
     refine hR2 _ s fun R3 hR3=>?_
     have hs:e_i y.C kind=y.C.Xs.length:=by unfold e_i;rw[if_neg h4,if_pos (by omega)]
     rw[hs] at hY
     refine bcd (fun h2=>⟨by rw[hY,if_pos (.inl h2)],L,by rw[hY,if_pos (.inl h2)];exact h⟩) (fun h2=>bcd (fun h3=>⟨by rw[hY,if_pos (.inr h3)],L,by rw[hY,if_pos (.inr h3)];exact h⟩) (fun h3=>?_))
     rw[if_neg (by omega)] at hY
     have go:¬((kind=2\/kind=3)/\((a_n y.C.Secs n).map Sec.Kind).getD 0≠1)->R3 s:=fun hg=>by
       rw[if_neg hg] at hY
       refine hR3 s ⟨trivial,_,_,_,rfl,_,a_d h.row, .omap L.mp,rfl,L.mp,L.clk,L.es,⟨by kernel_rfl,rfl,h.mp,h.keys⟩,fun c' es' q1 q2=>?_⟩
       have hy1:=h.putMp (c':=c') (es':=es') (s':=s.set L.mp (.mp c' es')) (Store.set_same _ _ _) q1 (p_9 h.flt q2) (.of fun i hi=>Store.set_ne _ _ hi)
       refine bc (fun ht=>⟨trivial,_,_,_,rfl,_,a_d hy1.row, .omap L.mp,rfl,L.mp,c',es',⟨by kernel_rfl,rfl,hy1.mp,hy1.keys⟩,fun c2 es2 q3 q4=>?_⟩) (fun hf=>⟨by rw[hY],{ L with clk:=c',es:=es' },?_⟩)
       · refine ⟨by rw[hY],{ L with clk:=c2,es:=es2 },?_⟩
         have hy2:=hy1.putMp (c':=c2) (es':=es2) (s':=(s.set L.mp (.mp c' es')).set L.mp (.mp c2 es2)) (Store.set_same _ _ _) q3 (p_9 hy1.flt q4) (.of fun i hi=>Store.set_ne _ _ hi)
         rw[hY,ht]
         have e:(fun k=>if k=(kind,n) then ((1:Int) == 1) else if k=(kind,n) then ((0:Int) == 1) else y.Flt k) =fun p=>if p=(kind,n) then true else y.Flt p:=by
           funext k;by_cases g:k=(kind,n)
           · rw[if_pos g,if_pos g];rfl
           · rw[if_neg g,if_neg g,if_neg g]
         rw[<-e];exact hy2
       · rw[hY,hf];exact hy1
     refine bce (fun e2=>by omega) (fun e2=>bce (fun e3=>by omega) (fun e3=>go fun hg=>by rcases hg.1 with g | g;exact e2 g;exact e3 g))
   · have hs:e_i y.C kind=y.C.Secs.length:=by unfold e_i;rw[if_neg h4,if_neg (by omega)]
     rw[hs] at hY
     refine bcd (fun h2=>⟨by rw[hY,if_pos (.inl h2)],L,by rw[hY,if_pos (.inl h2)];exact h⟩) (fun h2=>bcd (fun h3=>⟨by rw[hY,if_pos (.inr h3)],L,by rw[hY,if_pos (.inr h3)];exact h⟩) (fun h3=>?_))
     rw[if_neg (by omega)] at hY
     have go:¬((kind=2\/kind=3)/\((a_n y.C.Secs n).map Sec.Kind).getD 0≠1)->R3 s:=fun hg=>by
       rw[if_neg hg] at hY
       refine hR3 s ⟨trivial,_,_,_,rfl,_,a_d h.row, .omap L.mp,rfl,L.mp,L.clk,L.es,⟨by kernel_rfl,rfl,h.mp,h.keys⟩,fun c' es' q1 q2=>?_⟩
       have hy1:=h.putMp (c':=c') (es':=es') (s':=s.set L.mp (.mp c' es')) (Store.set_same _ _ _) q1 (p_9 h.flt q2) (.of fun i hi=>Store.set_ne _ _ hi)
       refine bc (fun ht=>⟨trivial,_,_,_,rfl,_,a_d hy1.row, .omap L.mp,rfl,L.mp,c',es',⟨by kernel_rfl,rfl,hy1.mp,hy1.keys⟩,fun c2 es2 q3 q4=>?_⟩) (fun hf=>⟨by rw[hY],{ L with clk:=c',es:=es' },?_⟩)
       · refine ⟨by rw[hY],{ L with clk:=c2,es:=es2 },?_⟩
         have hy2:=hy1.putMp (c':=c2) (es':=es2) (s':=(s.set L.mp (.mp c' es')).set L.mp (.mp c2 es2)) (Store.set_same _ _ _) q3 (p_9 hy1.flt q4) (.of fun i hi=>Store.set_ne _ _ hi)
         rw[hY,ht]
         have e:(fun k=>if k=(kind,n) then ((1:Int) == 1) else if k=(kind,n) then ((0:Int) == 1) else y.Flt k) =fun p=>if p=(kind,n) then true else y.Flt p:=by
           funext k;by_cases g:k=(kind,n)
           · rw[if_pos g,if_pos g];rfl
           · rw[if_neg g,if_neg g,if_neg g]
         rw[<-e];exact hy2
       · rw[hY,hf];exact hy1
     obtain ⟨j,rfl⟩:=zI (show 0<=n by omega)
     obtain ⟨x,hx⟩:=a_c (l:=y.C.Secs) (j:=j) (by omega)
     refine bce (fun e2=>⟨trivial,_,_,_,rfl,_,a_d h.row,L.c0,rfl,hc.secs.load (a_g hx) a_x rfl ⟨x.Kind,rfl,bcn (fun hne=>?_) (fun he=>go fun hg=>hg.2 (by rw[a_1,hx];exact he))⟩⟩) (fun e2=>bce (fun e3=>⟨trivial,_,_,_,rfl,_,a_d h.row,L.c0,rfl,hc.secs.load (a_g hx) a_x rfl ⟨x.Kind,rfl,bcn (fun hne=>?_) (fun he=>go fun hg=>hg.2 (by rw[a_1,hx];exact he))⟩⟩) (fun e3=>go fun hg=>by rcases hg.1 with g | g;exact e2 g;exact e3 g))
     · rw[hY,if_pos ⟨.inl e2,by rw[a_1,hx];exact hne⟩];exact ⟨rfl,L,h⟩
     · rw[hY,if_pos ⟨.inr e3,by rw[a_1,hx];exact hne⟩];exact ⟨rfl,L,h⟩
end
end
end Go.Proofs.YtaklhjodjbgmgaaGreat
namespace Go.Proofs.YtaklhjodjbgmgaaGreat
open Go.Fw Go.Proofs Go.RowKit
section
variable {σ σ0:Store}
section
variable {s:Store} {id:Nat} {L:RL} {y:Yd} {fr:List (Nat × SO)} {N:Nat}
theorem RyIn.trd (h:RyIn s id L y fr){x:Nat × List (List D)}(h1:L.tr=some x) :s x.1= .live a_m ((L.tk.zip y.Trs).map a_z ++ x.2):=
 h.lists (x:=(x.1,_)) (zD _ (zD _ (zD _ (zD _ (zD _ (zD _ (by rw[h1];exact List.mem_singleton.2 rfl)))))))
theorem RyIn.putTr (h:RyIn s id L y fr){k:Nat}{z x x':Nat × List (List D)}{t t':Tr}(hz:L.tr=some z)(hx:L.tk[k]? =some x)(ht:y.Trs[k]? =some t){s':Store}
   (h1:s' z.1= .live a_m ((((L.tk.zip y.Trs).map a_z).set k (a_z (x',t'))) ++ z.2)) (h2:s' x'.1= .live a_e (t'.Secs.map Go.Fw.encI ++ x'.2)) (hi:x'.1=x.1\/s x'.1= .free)
   (ho:∀j,j≠z.1->j≠x.1->s j≠ .free->s' j=s j) :RyIn s' id { L with tk:=L.tk.set k x' } { y with Trs:=y.Trs.set k t' } fr:=by
 have hzip:=c_d hx ht
 have hk:=(zA.1 hx).1
 have h0:Heap s (((c_l id L y ++ (lsE a_h L.pt (y.Pts.map Th.enc) ++ (lsE a_h L.gt (y.Gts.map Th.enc) ++ (lsE a_p L.rc (L.rs.map fun x=> [pO x.i]) ++ (lsE a_e L.ap (y.Lps.map fun x=>Go.Fw.encI x.Asp) ++ (lsE a_e L.st (y.Psts.map fun x=>Go.Fw.encI x.Stamp) ++ lsE a_e L.la (y.Lps.map fun x=>Go.Fw.encI x.Last))))))) ++ (lsE a_m L.tr ((L.tk.zip y.Trs).map a_z) ++ ((L.rs.zip y.Psts).map rrE ++ (L.rs.map fun x=>lsE a_e x.nm (x.ns.map Go.Fw.encI)).flatten))) ++ (L.tk.zip y.Trs).map tkE ++ fr):=by
   have:=h.heap;unfold c_9 e_1 at this;simpa only[zK] using this
 have hX:((L.tk.zip y.Trs).map tkE)[k]? =some (tkE (x,t)):=by rw[zL,hzip];rfl
 have hzs:s z.1= .live a_m ((L.tk.zip y.Trs).map a_z ++ z.2):=h.trd hz
 have hzx:x'.1≠z.1:=by
   intro e
   rcases hi with hi | hi
   · have:=h.tk hx ht
     rw[<-hi,e,hzs] at this
     injection this with e1 _
     exact absurd e1 (by decide)
   · rw[e,hzs] at hi;cases hi
 have hm:Heap (fun j=>if j=z.1 then s z.1 else s' j) (((c_l id L y ++ (lsE a_h L.pt (y.Pts.map Th.enc) ++ (lsE a_h L.gt (y.Gts.map Th.enc) ++ (lsE a_p L.rc (L.rs.map fun x=> [pO x.i]) ++ (lsE a_e L.ap (y.Lps.map fun x=>Go.Fw.encI x.Asp) ++ (lsE a_e L.st (y.Psts.map fun x=>Go.Fw.encI x.Stamp) ++ lsE a_e L.la (y.Lps.map fun x=>Go.Fw.encI x.Last))))))) ++ (lsE a_m L.tr ((L.tk.zip y.Trs).map a_z) ++ ((L.rs.zip y.Psts).map rrE ++ (L.rs.map fun x=>lsE a_e x.nm (x.ns.map Go.Fw.encI)).flatten))) ++ ((L.tk.zip y.Trs).map tkE).set k (tkE (x',t')) ++ fr):=by
   refine Heap.repl h0 hX hi ?_ (by intro e;cases e) fun j hj hf=>?_
   · show (if x'.1=z.1 then s z.1 else s' x'.1) =_
     rw[if_neg hzx];exact h2
   · show (if j=z.1 then s z.1 else s' j) =s j
     by_cases e:j=z.1
     · rw[if_pos e,e]
     · rw[if_neg e];exact ho j e hj hf
 have hm2:Heap (fun j=>if j=z.1 then s z.1 else s' j) ((c_l id L y ++ (lsE a_h L.pt (y.Pts.map Th.enc) ++ (lsE a_h L.gt (y.Gts.map Th.enc) ++ (lsE a_p L.rc (L.rs.map fun x=> [pO x.i]) ++ (lsE a_e L.ap (y.Lps.map fun x=>Go.Fw.encI x.Asp) ++ (lsE a_e L.st (y.Psts.map fun x=>Go.Fw.encI x.Stamp) ++ lsE a_e L.la (y.Lps.map fun x=>Go.Fw.encI x.Last))))))) ++ (lsE a_m L.tr ((L.tk.zip y.Trs).map a_z) ++ (((L.rs.zip y.Psts).map rrE ++ (L.rs.map fun x=>lsE a_e x.nm (x.ns.map Go.Fw.encI)).flatten) ++ (((L.tk.zip y.Trs).map tkE).set k (tkE (x',t')) ++ fr)))):=by
   simpa only[zK] using hm
 have hfin:=z_7 (s':=s') hm2 hz h1 fun j hj _=>by
   show s' j=if j=z.1 then s z.1 else s' j
   rw[if_neg hj]
 have eb:c_l id { L with tk:=L.tk.set k x' } { y with Trs:=y.Trs.set k t' } =c_l id L y:=by
   unfold c_l f_f
   simp only[List.length_set]
 refine ⟨?_,h.cfg,h.keys,h.flt,h.rsl,by simpa using h.tkl,h.ptn,h.gtn,h.rcn,h.apn,h.stn,h.lan,fun e=>(by have e:L.tr=none:=e;rw[hz] at e;cases e),h.nmn,h.num⟩
 unfold c_9 e_1
 rw[eb]
 simp only[zip2,b_6]
 simpa only[zK] using hfin
end
end
end Go.Proofs.YtaklhjodjbgmgaaGreat
namespace Go.Proofs.YtaklhjodjbgmgaaGreat
open Go.Fw Go.Proofs Go.RowKit
open Go.Proofs.Tryz (prog)
section
variable {σ σ0:Store}
section
variable {s:Store} {id:Nat} {L:RL} {y:Yd} {fr:List (Nat × SO)} {N:Nat}
theorem RyIn.hdr (h:RyIn s id L y fr){k:Nat}{tr:Tr}{x:Nat × List (List D)}(hx:L.tk[k]? =some x)(ht:y.Trs[k]? =some tr)(J:List (List D)) :
   ((L.tk.zip y.Trs).map a_z ++ J)[k]? =some [.osl x.1 0 tr.Secs.length,iD tr.Out]/\k < y.Trs.length/\k < ((L.tk.zip y.Trs).map a_z).length:=by
 have h1:=(zA.1 ht).1
 have h2:k < ((L.tk.zip y.Trs).map a_z).length:=by simp[h.tkl];exact h1
 refine ⟨?_,h1,h2⟩
 rw[zJ h2,zL,c_d hx ht];rfl
theorem RyIn.tkAt (h:RyIn s id L y fr){k:Nat}{x:Nat × List (List D)}{t:Tr}(h1:L.tk[k]? =some x)(h2:y.Trs[k]? =some t)(hl:t.Secs.length < 2 ^ 60) :At prog s a_e (.osl x.1 0 t.Secs.length) (t.Secs.map Go.Fw.encI):=
 o_p (h.tk h1 h2) (by simp) (by simpa using hl)
theorem RyIn.have1 (h:RyIn s id L y fr){k:Nat}{tr:Tr}(ht:y.Trs[k]? =some tr) :∃x z,L.tk[k]? =some x/\L.tr=some z/\((L.tk.zip y.Trs).map a_z)[k]? =some [.osl x.1 0 tr.Secs.length,iD tr.Out]:=by
 obtain ⟨x,hx⟩:=a_c (l:=L.tk) (j:=k) (by rw[h.tkl];exact (zA.1 ht).1)
 cases hz:L.tr with
 | none=>rw[h.trn hz] at ht;cases ht
 | some z=>exact ⟨x,z,hx,rfl,by rw[zL,c_d hx ht];rfl⟩
theorem RyIn.turn (h:RyIn s id L y fr)(hw:Ywf y N)(hN:N<=2 ^ 43)(t:Int) :DCalls prog h_4 [.one (pO id),iA t] s fun r s'=>r= .a (iA (y.turn t).2)/\∃L',RyIn s' id L' (y.turn t).1 fr:=by
 have hY:y.turn t=match a_n y.Trs t with
   | none=>(y,30)
   | some t'=>
     if t'.Secs.length≠1\/t'.Out < 0 then (y,29) else
     if y.way t'.hd t'.Out < 0\/y.C.stands t'.hd (y.way t'.hd t'.Out) =false then (y,29) else
     ({ y with Trs:=y.Trs.set t.toNat ⟨t'.Secs,y.way t'.hd t'.Out⟩ },0):=rfl
 have hT:=h.trAt hw
 have hl:((L.tk.zip y.Trs).map a_z).length=y.Trs.length:=by simp[h.tkl]
 refine y_b (pO id) t s _ ?_
 intro R hR
 refine bcd (fun h1=>⟨by rw[hY,a_5 h1],L,by rw[hY,a_5 h1];exact h⟩) (fun h1=>⟨trivial,_,_,_,rfl,_,a_d h.row,_,rfl,hT.lenK ?_⟩)
 rw[hl]
 refine bcd (fun h2=>⟨by rw[hY,b_u h2],L,by rw[hY,b_u h2];exact h⟩) (fun h2=>hR s ?_)
 obtain ⟨k,rfl⟩:=zI (show 0<=t by omega)
 obtain ⟨tr,htr⟩:=a_c (l:=y.Trs) (j:=k) (by omega)
 obtain ⟨x,z,hx,hz,hrw⟩:=h.have1 htr
 rw[a_1,htr,zF] at hY
 obtain ⟨hne,hlen,hsec⟩:=hw.tr tr (zC htr)
 have hA:=h.tkAt hx htr (by omega)
 have hY : y.turn k =
     if tr.Secs.length≠1\/tr.Out < 0 then (y,29) else
     if y.way tr.hd tr.Out < 0\/y.C.stands tr.hd (y.way tr.hd tr.Out) =false then (y,29) else
     ({ y with Trs:=y.Trs.set k ⟨tr.Secs,y.way tr.hd tr.Out⟩ },0):=hY
 refine ⟨trivial,_,_,_,rfl,_,a_d h.row,_,rfl,hT.load hrw b_4 rfl ⟨.osl x.1 0 tr.Secs.length,tr.Out,rfl,fun R1 hR1=>hA.lenK ?_⟩⟩
 rw[zB]
 refine bcn (fun h3=>?_) (fun h3=>bcd (fun h4=>?_) (fun h4=>⟨rfl,hR1 s ?_⟩))
 · rw[hY,if_pos (.inl (by omega))];exact ⟨rfl,L,h⟩
 · rw[hY,if_pos (.inr h4)];exact ⟨rfl,L,h⟩
 rw[if_neg (by omega)] at hY
 obtain ⟨a,ha⟩:=a_c (l:=tr.Secs) (j:=0) (by omega)
 have hhd:tr.hd=a:=by unfold Tr.hd;rw[List.head?_eq_getElem?,ha];rfl
 obtain ⟨sec,hsa⟩:=hsec a (zC ha)
 rw[hhd] at hY
 refine hA.load (j:=0) (a_g ha) c_int rfl ⟨a,rfl,(h.way hw hsa tr.Out).use ⟨_,rfl,bcd (fun h5=>?_) (fun h5=>?_)⟩⟩
 · rw[hY,if_pos (.inl h5)];exact ⟨rfl,L,h⟩
 refine ⟨trivial,_,_,_,rfl,_,a_d h.row,L.c0,L.c1,L.c2,L.c3,L.c4,_,_,_,_,rfl,hA.load (j:=0) (a_g ha) c_int rfl ⟨a,rfl,(t_8 (h.cfg s) a (y.way a tr.Out)).use ⟨_,rfl,a_0 (fun h6=>?_) (fun h6=>?_)⟩⟩⟩
 · rw[hY,if_pos (.inr h6)];exact ⟨rfl,L,h⟩
 have hrow:=(h.hdr hx htr z.2)
 refine ⟨trivial,_,_,_,rfl,_,a_d h.row,_,rfl,hT.idxK b_4 rfl (by rw[hl];exact hrow.2.1) ?_⟩
 rw[zF]
 have hd:lsD L.tr y.Trs.length= .osl z.1 0 y.Trs.length:=by rw[hz];rfl
 rw[hd]
 refine b_m (h.trd hz) hrow.2.1 hrow.1 (by simp) fun s1 h1' o1=>?_
 rw[hY,if_neg (by rintro (g | g);exact h5 g;rw[h6] at g;cases g)]
 rw[x_t hrow.2.2] at h1'
 refine ⟨rfl,{ L with tk:=L.tk.set k x },h.putTr (x':=x) (t':=⟨tr.Secs,y.way a tr.Out⟩) hz hx htr ?_ ?_ (.inl rfl) fun j hj _ _=>o1 j hj⟩
 · rw[h1'];rfl
 · have hxz : x.1 ≠ z.1 := fun e => by
     have a:=h.tk hx htr
     rw[e,h.trd hz] at a
     injection a with a _
     exact absurd a (by decide)
   rw[o1 _ hxz,h.tk hx htr]
end
end
section
variable {σ σ0:Store}
theorem z_r {c0 c1 c2 c3 c4:D}{c:Cf}(h:CfAt σ c0 c1 c2 c3 c4 c)(line:Int) :Pure prog j_1 [cfA c0 c1 c2 c3 c4 c,iA line] σ (.a (iA (c.lineSec line))):=by
 have hl:=h.secs.size
 rw[zB] at hl
 refine a_c0 _ _ _ _ _ _ _ _ _ line σ _ (h.secs.lenK ⟨fun n s=>s=σ/\Rng c.Secs (fun r=>(if line < 1 then (-1:Int) else d_h (fun s:Sec=>s.Line == line) r n.toNat) =c.lineSec line) n,fun n _=>c.Secs.length - n.toNat,⟨rfl, .start rfl⟩,?_⟩)
 rintro n τ ⟨rfl,hr⟩
 refine bcd (fun hlt=>?_) (fun hge=>?_)
 · obtain ⟨j,x,rfl,hx,hj,hF,nx⟩:=hr.step (by simp) hl hlt
   refine h.secs.load (a_g hx) a_x rfl ⟨x.Kind,x.OC,x.Line,rfl,?_⟩
   rw[d_h] at hF
   have hw:w64 ((j:Int) +1) =((j+1:Nat) :Int):=a_i (by omega)
   have go:(x.Line == line) =false\/line < 1->(τ=τ/\Rng c.Secs (fun r=>(if line < 1 then (-1:Int) else d_h (fun s:Sec=>s.Line == line) r (w64 ((j:Int) +1)).toNat) =c.lineSec line) (w64 ((j:Int) +1)))/\c.Secs.length - (w64 ((j:Int) +1)).toNat < c.Secs.length - (j:Int).toNat:=by
     intro hor
     refine i_r rfl (nx (fun r=>(if line < 1 then (-1:Int) else d_h (fun s:Sec=>s.Line == line) r (w64 ((j:Int) +1)).toNat) =c.lineSec line) ?_)
     rw[<-hF,hw]
     split
     · rfl
     · rcases hor with hor | hor
       · rw[if_neg (by rw[hor];simp)];rfl
       · omega
   refine bc (fun h1=>bcd (fun h2=>⟨?_,rfl⟩) (fun h2=>go (.inr (by omega)))) (fun h1=>go (.inl h1))
   rw[if_neg (by omega),if_pos h1] at hF
   rw[<-hF];rfl
 · have hF:=hr.done (by simp) hge
   refine ⟨?_,rfl⟩
   rw[<-hF,d_h]
   split <;> rfl
section
variable {s:Store} {id:Nat} {L:RL} {y:Yd} {fr:List (Nat × SO)} {N:Nat}
theorem a_dh (t:TypeId)(o:Option (Nat × List (List D)))(rows:List (List D)) :lsE t o rows=c_q t o rows:=by cases o <;> rfl
theorem a_dp (o:Option (Nat × List (List D)))(n:Nat) :lsD o n=b_r o n:=by cases o <;> rfl
def m_5 (L:RL)(y:Yd)(fr:List (Nat × SO)) :List (Nat × SO):=
 (L.mp, .mp L.clk L.es) :: (lsE a_h L.pt (y.Pts.map Th.enc) ++ (lsE a_h L.gt (y.Gts.map Th.enc) ++ (lsE a_p L.rc (L.rs.map fun x=> [pO x.i]) ++ (lsE a_e L.ap (y.Lps.map fun x=>Go.Fw.encI x.Asp) ++
   (lsE a_e L.st (y.Psts.map fun x=>Go.Fw.encI x.Stamp) ++ (lsE a_e L.la (y.Lps.map fun x=>Go.Fw.encI x.Last) ++ ((L.rs.zip y.Psts).map rrE ++ ((L.rs.map fun x=>lsE a_e x.nm (x.ns.map Go.Fw.encI)).flatten ++ fr))))))))
theorem m_d (id:Nat)(L:RL)(y:Yd)(fr:List (Nat × SO)) :
   (c_9 id L y fr).Perm (c_q a_m L.tr ((L.tk.zip y.Trs).map a_z) ++ ((id, .live a_w [f_f L y]) :: ((L.tk.zip y.Trs).map tkE ++ m_5 L y fr))):=by
 refine b_q fun a=>?_
 unfold c_9 c_l e_1 m_5
 rw[<-a_dh]
 simp only[List.count_append,List.count_cons,List.count_nil]
 omega
theorem RyIn.enter (h:RyIn s id L y fr)(hw:Ywf y N)(line:Int) :DCalls prog g_9 [.one (pO id),iA line] s fun r s'=>r= .a (iA (y.enter line).2)/\∃L',RyIn s' id L' (y.enter line).1 fr:=by
 have h4:=hw.trs
 have hY:y.enter line=if line < 1\/d_h (fun x=>x.Line == line) y.C.Secs 0 < 0 then (y,20) else
   if y.Trs.length>=4 then (y,5) else
   if y.C.sigAt (d_h (fun x=>x.Line == line) y.C.Secs 0) 0 < 0 then (y,29) else ({ y with Trs:=y.Trs ++ [⟨[d_h (fun x=>x.Line == line) y.C.Secs 0],0⟩] },0):=rfl
 have hls:y.C.lineSec line=if line < 1 then -1 else d_h (fun x:Sec=>x.Line == line) y.C.Secs 0:=rfl
 refine w_z (pO id) line s _ ⟨trivial,_,_,_,rfl,_,a_d h.row,L.c0,L.c1,L.c2,L.c3,L.c4,_,_,_,_,rfl,(z_r (h.cfg s) line).use ⟨_,rfl,?_⟩⟩
 rw[hls]
 generalize hn:d_h (fun x:Sec=>x.Line == line) y.C.Secs 0=n at hY ⊢
 refine bcd (fun g=>?_) (fun g=>?_)
 · have g' : line < 1 \/ n < 0 := by
     by_cases g0:line < 1
     · exact .inl g0
     · rw[if_neg g0] at g;exact .inr g
   rw[hY,if_pos g'];exact ⟨rfl,L,h⟩
 have g0:¬line < 1:=fun g0=>by rw[if_pos g0] at g;omega
 rw[if_neg g0] at g ⊢
 rw[if_neg (by omega)] at hY
 have hrl:((L.tk.zip y.Trs).map a_z).length=y.Trs.length:=by simp[h.tkl]
 refine ⟨trivial,_,_,_,rfl,_,a_d h.row,_,rfl,(h.trAt hw).lenK ?_⟩
 rw[hrl]
 refine bcd (fun g3=>?_) (fun g3=>⟨trivial,_,_,_,rfl,_,a_d h.row,L.c0,L.c1,L.c2,L.c3,L.c4,_,_,_,_,rfl,(j_t (h.cfg s) n 0).use ⟨_,rfl,bcd (fun g4=>?_) (fun g4=>?_)⟩⟩)
 · rw[hY,if_pos (by omega)];exact ⟨rfl,L,h⟩
 · rw[hY,if_neg (by omega),if_pos g4];exact ⟨rfl,L,h⟩
 rw[if_neg (by omega),if_neg g4] at hY
 refine ⟨trivial,_,_,_,rfl,_,a_d h.row,_,rfl,a_f fun id1 s2 hid1 _ he2 hs2=>a_f fun tmp s3 htmp _ he3 hs3=>?_⟩
 have hs2:s2 id1= .live a_e ([n].map Go.Fw.encI ++ []):=hs2
 have H:=(h.heap.new hid1 he2 hs2 (by intro e;cases e)).ext he3
 have H':Heap s3 (c_q a_m L.tr ((L.tk.zip y.Trs).map a_z) ++ ((id, .live a_w [f_f L y]) :: (((L.tk.zip y.Trs).map tkE ++ [(id1, .live a_e ([n].map Go.Fw.encI ++ []))]) ++ m_5 L y fr))):=by
   refine H.perm (((m_d id L y fr).cons _).trans (b_q fun a=>?_))
   simp only[List.count_append,List.count_cons,List.count_nil]
   omega
 rw[a_dp]
 refine f_r (el:=a_m) (bytes:=32) (r:= [.osl id1 0 1,iD 0]) H' (fun e=>by rw[h.trn e];simp) hrl.symm (by rw[hrl];omega) (At.fresh hs3 (by simp) rfl) (by rw[hrl];omega) ?_
 intro s4 z H4
 have H4':Heap s4 ((id, .live a_w [f_f L y]) :: (c_q a_m (some z) ((L.tk.zip y.Trs).map a_z ++ [[.osl id1 0 1,iD 0]]) ++ (((L.tk.zip y.Trs).map tkE ++ [(id1, .live a_e ([n].map Go.Fw.encI ++ []))]) ++ m_5 L y fr))):=by
   refine H4.perm (b_q fun a=>?_)
   simp only[List.count_append,List.count_cons,List.count_nil]
   omega
 refine ⟨trivial,_,_,_,rfl,H4'.row (by simp[f_f]) fun s5 H5 _=>?_⟩
 rw[hY]
 refine ⟨rfl,{ L with tr:=some z,tk:=L.tk ++ [(id1,[])] },?_,h.cfg,h.keys,h.flt,h.rsl,by simp[h.tkl],h.ptn,h.gtn,h.rcn,h.apn,h.stn,h.lan,fun e=>(by cases e),h.nmn,h.num⟩
 have hzip:(L.tk ++ [(id1,([]:List (List D)))]).zip (y.Trs ++ [(⟨[n],0⟩ :Tr)]) =L.tk.zip y.Trs ++ [((id1,[]),(⟨[n],0⟩ :Tr))]:=by rw[List.zip_append h.tkl];rfl
 refine Heap.perm ?_ (m_d id { L with tr:=some z,tk:=L.tk ++ [(id1,[])] } { y with Trs:=y.Trs ++ [⟨[n],0⟩] } fr).symm
 have er:f_f { L with tr:=some z,tk:=L.tk ++ [(id1,[])] } { y with Trs:=y.Trs ++ [⟨[n],0⟩] } =patch (f_f L y) (0+11) [b_r (some z) (y.Trs.length+1)]:=by
   unfold f_f
   simp only[zP,List.length_singleton]
   rfl
 rw[er]
 have ez:m_5 { L with tr:=some z,tk:=L.tk ++ [(id1,[])] } { y with Trs:=y.Trs ++ [⟨[n],0⟩] } fr=m_5 L y fr:=rfl
 rw[ez]
 simp only[hzip,List.map_append]
 refine H5.perm (b_q fun a=>?_)
 simp only[List.count_append,List.count_cons,List.count_nil]
 have e1:List.map tkE [((id1,([]:List (List D))),(⟨[n],0⟩ :Tr))]=[(id1, .live a_e ([n].map Go.Fw.encI ++ []))]:=rfl
 have e2:List.map a_z [((id1,([]:List (List D))),(⟨[n],0⟩ :Tr))]=[[.osl id1 0 1,iD 0]]:=rfl
 rw[e1,e2]
 simp only[List.count_append,List.count_cons,List.count_nil]
 omega
end
end
section
variable {σ σ0:Store}
theorem a_it {s1:Store}{t:TypeId}{id bytes n:Nat}{rs ns:List (List D)}{x:D}{K:D->Store->Prop}(h0:s1 id= .live t rs)(hn:n=rs.length)(hx:At prog s1 t x ns)(hb:bytes * (rs.length+ns.length)<=140737488355328)
   (hK:∀q s2,s2 q= .live t (rs ++ ns)->(q=id\/s1 q= .free)->(∀j,j≠id->s1 j≠ .free->s2 j=s1 j)->K (.osl q 0 (rs.length+ns.length)) s2) :a_j prog s1 t bytes (.osl id 0 n) x K:=by
 subst hn
 refine ⟨rs,ns,⟨t,rs,h0,rfl,by omega,by simp⟩,hx.rows,hb,(fun e=>e.elim),?_⟩
 rintro d s2 (⟨rfl,rfl,rfl⟩ | ⟨_,id',hid',rfl,rfl⟩ | ⟨_,id',i0,len,t',rows,e,hl,rfl,rfl⟩)
 · exact hK id s2 (by rw[h0,zS]) (.inl rfl) fun _ _ _=>rfl
 · exact hK id' _ (Store.set_same _ _ _) (.inr hid') fun j _ hj=>Store.set_ne _ _ fun e=>hj (by rw[e];exact hid')
 · injection e with e1 e2 e3
   subst e1 e2 e3
   rw[h0] at hl
   injection hl with q1 q2
   subst q1 q2
   refine hK id _ ?_ (.inl rfl) fun j hj _=>Store.set_ne _ _ hj
   rw[Store.set_same,Nat.zero_add,zT,List.drop_of_length_le (by omega),zS]
section
variable {s:Store} {id:Nat} {L:RL} {y:Yd} {fr:List (Nat × SO)} {N:Nat}
theorem RyIn.setTr (h:RyIn s id L y fr){k:Nat}{tr t':Tr}{x z:Nat × List (List D)}(hx:L.tk[k]? =some x)(hz:L.tr=some z)(htr:y.Trs[k]? =some tr){q:Nat}{s2:Store}(hq:s2 q= .live a_e (t'.Secs.map Go.Fw.encI))(hqf:s q= .free)(he:Ext s s2)
   {n:Nat} (hn:n=y.Trs.length) {m:Nat} (hm:m=t'.Secs.length) {K:Store->Prop} (hK:∀s' L',RyIn s' id L' { y with Trs:=y.Trs.set k t' } fr->K s') :a_k [.osl q 0 m,iD t'.Out] s2 (.osl z.1 0 n) k 0 K:=by
 subst hn hm
 have hrow:=h.hdr hx htr z.2
 have h2:=h.ext he
 have hqz:q≠z.1:=fun e=>by
   have:=h.trd hz
   rw[<-e,hqf] at this;cases this
 refine b_m (h2.trd hz) hrow.2.1 hrow.1 (by simp) fun s3 h3 o3=>?_
 rw[x_t hrow.2.2] at h3
 refine hK s3 { L with tk:=L.tk.set k (q,[]) } (h.putTr (x':=(q,[])) (t':=t') hz hx htr ?_ ?_ (.inr hqf) fun j hj _ hf=>?_)
 · rw[h3];rfl
 · rw[o3 _ hqz,hq,zS]
 · rw[o3 _ hj,he j hf]
theorem RyIn.tail (h:RyIn s id L y fr)(hw:Ywf y N)(hN:N<=2 ^ 43)(t:Int) :DCalls prog h_w [.one (pO id),iA t] s fun r s'=>r= .a (iA (y.tail t).2)/\∃L',RyIn s' id L' (y.tail t).1 fr:=by
 have hY:y.tail t=match a_n y.Trs t with
   | none=>(y,30)
   | some t'=>if t'.Secs.length=1 then (y,29) else ({ y with Trs:=y.Trs.set t.toNat ⟨t'.Secs.take (t'.Secs.length - 1),t'.Out⟩ },0):=rfl
 have hT:=h.trAt hw
 have hl:((L.tk.zip y.Trs).map a_z).length=y.Trs.length:=by simp[h.tkl]
 refine x_r (pO id) t s _ ?_
 intro R hR
 refine bcd (fun h1=>⟨by rw[hY,a_5 h1],L,by rw[hY,a_5 h1];exact h⟩) (fun h1=>⟨trivial,_,_,_,rfl,_,a_d h.row,_,rfl,hT.lenK ?_⟩)
 rw[hl]
 refine bcd (fun h2=>⟨by rw[hY,b_u h2],L,by rw[hY,b_u h2];exact h⟩) (fun h2=>hR s ?_)
 obtain ⟨k,rfl⟩:=zI (show 0<=t by omega)
 obtain ⟨tr,htr⟩:=a_c (l:=y.Trs) (j:=k) (by omega)
 obtain ⟨x,z,hx,hz,hrw⟩:=h.have1 htr
 rw[a_1,htr,zF] at hY
 obtain ⟨hne,hlen,hsec⟩:=hw.tr tr (zC htr)
 have hA:=h.tkAt hx htr (by omega)
 have hl0:0 < tr.Secs.length:=List.length_pos_iff.2 hne
 have hY:y.tail k=if tr.Secs.length=1 then (y,29) else ({ y with Trs:=y.Trs.set k ⟨tr.Secs.take (tr.Secs.length - 1),tr.Out⟩ },0):=hY
 refine ⟨trivial,_,_,_,rfl,_,a_d h.row,_,rfl,hT.load hrw b_4 rfl ⟨.osl x.1 0 tr.Secs.length,tr.Out,rfl,hA.lenK ?_⟩⟩
 rw[zB]
 refine bce (fun h3=>?_) (fun h3=>?_)
 · rw[hY,if_pos (by omega)];exact ⟨rfl,L,h⟩
 rw[if_neg (by omega)] at hY
 rw[hY]
 have ew:w64 ((tr.Secs.length:Int) - 1) =((tr.Secs.length - 1:Nat) :Int):=by rw[a_r (by omega) (by omega)];omega
 have hd:lsD L.tr y.Trs.length= .osl z.1 0 y.Trs.length:=by rw[hz];rfl
 have hsub:=hA.sub (lo:=0) (hi:=tr.Secs.length - 1) (by omega) (by rw[zB];omega)
 have es:((tr.Secs.map Go.Fw.encI).drop 0).take (tr.Secs.length - 1 - 0) =(tr.Secs.take (tr.Secs.length - 1)).map Go.Fw.encI:=by rw[List.map_take];simp
 rw[es] at hsub
 have hq2 : ∀ {K : D -> Store -> Prop}, (∀ q s2, s2 q = .live a_e ((tr.Secs.take (tr.Secs.length - 1)).map Go.Fw.encI) -> s q = .free -> Ext s s2 -> K (.osl q 0 (tr.Secs.take (tr.Secs.length - 1)).length) s2) ->
     Fw.newObj s (.live a_e []) fun vid s1=>a_j prog s1 a_e 8 (.osl vid 0 0) (h_u (.osl x.1 0 tr.Secs.length) 0 (tr.Secs.length - 1)) K:=fun {K} hK=>by
   refine a_f fun vid s1 hvid _ he1 hs1=>?_
   refine a_it (rs:= []) hs1 rfl (hsub.ext he1) (by simp;omega) fun q s2 h1 h2 h3=>?_
   have hf:s q= .free:=by
     rcases h2 with rfl | h2
     · exact hvid
     · exact Classical.byContradiction fun hne=>by rw[he1 q hne] at h2;exact hne h2
   have:=hK q s2 (by simpa using h1) hf fun j hj=>by
     have hjv:j≠vid:=fun e=>hj (by rw[e];exact hvid)
     rw[h3 j hjv (by rw[he1 j hj];exact hj),he1 j hj]
   simpa using this
 intro R1 hR1
 have fin:∀s' L',RyIn s' id L' { y with Trs:=y.Trs.set k ⟨tr.Secs.take (tr.Secs.length - 1),tr.Out⟩ } fr->R1 s':=fun s' L' hy=>hR1 s' ⟨rfl,L',hy⟩
 have hidx:∀s2,Ext s s2->At prog s2 a_m (lsD L.tr y.Trs.length) ((L.tk.zip y.Trs).map a_z):=fun s2 he=>hT.ext he
 have hkl:=(zA.1 htr).1
 refine ⟨⟨trivial,_,_,_,rfl,_,a_d h.row,_,rfl,hA.lenK ?_⟩,⟨trivial,_,_,_,rfl,hA.lenK ?_⟩⟩
 · rw[zB,ew]
   refine hA.sliceK (lo:=0) (hi:=tr.Secs.length - 1) c_int rfl rfl (by omega) (by rw[zB];omega) ?_
   rw[zF]
   refine hq2 fun q s2 h1 h2 h3=>(hidx s2 h3).idxK b_4 rfl (by rw[hl];exact hkl) ?_
   rw[hd,zF]
   exact h.setTr (t':=⟨tr.Secs.take (tr.Secs.length - 1),tr.Out⟩) hx hz htr h1 h2 h3 rfl rfl fin
 · rw[zB,ew]
   refine hA.sliceK (lo:=0) (hi:=tr.Secs.length - 1) c_int rfl rfl (by omega) (by rw[zB];omega) ?_
   rw[zF]
   refine hq2 fun q s2 h1 h2 h3=>⟨_,a_d (h.ext h3).row,_,rfl,(hidx s2 h3).idxK b_4 rfl (by rw[hl];exact hkl) ?_⟩
   rw[hd,zF]
   exact h.setTr (t':=⟨tr.Secs.take (tr.Secs.length - 1),tr.Out⟩) hx hz htr h1 h2 h3 rfl rfl fin
theorem RyIn.way_spec (id:Nat)(y:Yd)(hw:Ywf y N){a:Int}{sec:Sec}(ha:a_n y.C.Secs a=some sec)(i:Int) :
   b_7 prog d_m (fun az s=>az=[.one (pO id),iA a,iA i]/\∃L fr,RyIn s id L y fr) (fun az s r s'=>s'=s/\r= .a (iA (y.way a i))):=
 a_f1 (F:=fun az r=>r= .a (iA (y.way a i))) (by
   rintro az s ⟨rfl,L,fr,h⟩
   refine (h.way hw ha i).mono ?_
   rintro r s' ⟨rfl,rfl⟩
   exact ⟨rfl,rfl⟩) (fun az s _=>⟨_,rfl⟩) (by
   rintro az s j so hj hso ⟨rfl,L,fr,h⟩
   exact ⟨rfl,L,fr,h.ext (Ext.new hj so)⟩)
theorem RyIn.move (h:RyIn s id L y fr)(hw:Ywf y N)(hN:N<=2 ^ 42)(t:Int) :DCalls prog i_a [.one (pO id),iA t] s fun r s'=>r= .a (iA (y.move t).2)/\∃L',RyIn s' id L' (y.move t).1 fr:=by
 have hY:y.move t=match a_n y.Trs t with
   | none=>(y,30)
   | some t'=>match nxt y.C.Jts t'.hd t'.Out with
     | none=>(y,29)
     | some (s,e)=>
       if t'.Out < 0 then (y,29) else
       if (match a_n y.Lps (y.C.sigAt t'.hd t'.Out) with
         | some l=>decide (l.Last < 0\/y.Now - l.Last > y.C.Brake)
         | none=>false) =true then (y,29) else
       ({ y with Trs:=y.Trs.set t.toNat ⟨s::t'.Secs,y.way s e⟩ },0):=rfl
 have hT:=h.trAt hw
 have hl:((L.tk.zip y.Trs).map a_z).length=y.Trs.length:=by simp[h.tkl]
 refine y_q (pO id) t s _ ?_
 intro R hR
 refine bcd (fun h1=>⟨by rw[hY,a_5 h1],L,by rw[hY,a_5 h1];exact h⟩) (fun h1=>⟨trivial,_,_,_,rfl,_,a_d h.row,_,rfl,hT.lenK ?_⟩)
 rw[hl]
 refine bcd (fun h2=>⟨by rw[hY,b_u h2],L,by rw[hY,b_u h2];exact h⟩) (fun h2=>hR s ?_)
 clear hR R
 obtain ⟨k,rfl⟩:=zI (show 0<=t by omega)
 obtain ⟨tr,htr⟩:=a_c (l:=y.Trs) (j:=k) (by omega)
 obtain ⟨x,z,hx,hz,hrw⟩:=h.have1 htr
 rw[a_1,htr,zF] at hY
 obtain ⟨hne,hlen,hsec⟩:=hw.tr tr (zC htr)
 have hA:=h.tkAt hx htr (by omega)
 have hl0:0 < tr.Secs.length:=List.length_pos_iff.2 hne
 obtain ⟨a,ha⟩:=a_c (l:=tr.Secs) (j:=0) (by omega)
 have hhd:tr.hd=a:=by unfold Tr.hd;rw[List.head?_eq_getElem?,ha];rfl
 have hY : y.move k = match nxt y.C.Jts tr.hd tr.Out with
     | none=>(y,29)
     | some (s,e)=>
       if tr.Out < 0 then (y,29) else
       if (match a_n y.Lps (y.C.sigAt tr.hd tr.Out) with
         | some l=>decide (l.Last < 0\/y.Now - l.Last > y.C.Brake)
         | none=>false) =true then (y,29) else
       ({ y with Trs:=y.Trs.set k ⟨s::tr.Secs,y.way s e⟩ },0):=hY
 rw[hhd] at hY
 have hY : y.move k = match nxt y.C.Jts a tr.Out with
     | none=>(y,29)
     | some (s,e)=>
       if tr.Out < 0 then (y,29) else
       if (match a_n y.Lps (y.C.sigAt a tr.Out) with
         | some l=>decide (l.Last < 0\/y.Now - l.Last > y.C.Brake)
         | none=>false) =true then (y,29) else
       ({ y with Trs:=y.Trs.set k ⟨s::tr.Secs,y.way s e⟩ },0):=hY
 refine ⟨trivial,_,_,_,rfl,_,a_d h.row,_,rfl,hT.load hrw b_4 rfl ⟨.osl x.1 0 tr.Secs.length,tr.Out,rfl,trivial,_,_,_,rfl,_,a_d h.row,L.c1,rfl,hA.load (j:=0) (a_g ha) c_int rfl ⟨a,rfl,(e_h a tr.Out (h.cfg s).jts).mono ?_⟩⟩⟩
 rintro r s' ⟨rfl,rfl⟩
 cases hn:nxt y.C.Jts a tr.Out with
 | none=>
   rw[hn] at hY
   refine ⟨0,0,false,rfl,fun R hR=>bcd (fun _=>?_) (fun _=>a_0 (fun _=>?_) (fun e=>by cases e))⟩
   · rw[hY];exact ⟨rfl,L,h⟩
   · rw[hY];exact ⟨rfl,L,h⟩
 | some p=>
   obtain ⟨v,o⟩:=p
   rw[hn] at hY
   obtain ⟨sec,hsv⟩:=a_do (h_m hw.chk).1 hn
   refine ⟨v,o,true,rfl,?_⟩
   intro R hR
   refine bcd (fun h1=>?_) (fun h1=>a_0 (fun e=>by cases e) (fun _=>⟨rfl,hR s' ?_⟩))
   · have hY':y.move k=(y,29):=by rw[hY];simp only[if_pos h1]
     rw[hY'];exact ⟨rfl,L,h⟩
   clear hR R
   have hY : y.move k = if (match a_n y.Lps (y.C.sigAt a tr.Out) with
         | some l=>decide (l.Last < 0\/y.Now - l.Last > y.C.Brake)
         | none=>false) =true then (y,29) else
       ({ y with Trs:=y.Trs.set k ⟨v::tr.Secs,y.way v o⟩ },0):=by rw[hY];simp only[if_neg h1]
   refine ⟨trivial,_,_,_,rfl,_,a_d h.row,L.c0,L.c1,L.c2,L.c3,L.c4,_,_,_,_,rfl,hA.load (j:=0) (a_g ha) c_int rfl ⟨a,rfl,(j_t (h.cfg s') a tr.Out).use ⟨_,rfl,?_⟩⟩⟩
   intro R2 hR2
   have hd:lsD L.tr y.Trs.length= .osl z.1 0 y.Trs.length:=by rw[hz];rfl
   have hkl:=(zA.1 htr).1
   have go : (match a_n y.Lps (y.C.sigAt a tr.Out) with
         | some l=>decide (l.Last < 0\/y.Now - l.Last > y.C.Brake)
         | none=>false) =false->R2 s':=fun hf=>by
     refine hR2 s' fun R3 hR3=>?_
     rw[hY,if_neg (by rw[hf];decide)] at hR3
     have fin:∀s2 L',RyIn s2 id L' { y with Trs:=y.Trs.set k ⟨v::tr.Secs,y.way v o⟩ } fr->R3 s2:=fun s2 L' hy=>hR3 s2 ⟨rfl,L',hy⟩
     have hq2 : ∀ {K : D -> Store -> Prop}, (∀ q s2, s2 q = .live a_e ((v :: tr.Secs).map Go.Fw.encI) -> s' q = .free -> Ext s' s2 -> K (.osl q 0 (v :: tr.Secs).length) s2) ->
         Fw.newObj s' (.live a_e [[iD v]]) fun vid s1=>a_j prog s1 a_e 8 (.osl vid 0 1) (.osl x.1 0 tr.Secs.length) K:=fun {K} hK=>by
       refine a_f fun vid s1 hvid _ he1 hs1=>?_
       refine a_it (rs:= [[iD v]]) hs1 rfl (hA.ext he1) (by simp;omega) fun q s2 h1 h2 h3=>?_
       have hf:s' q= .free:=by
         rcases h2 with rfl | h2
         · exact hvid
         · exact Classical.byContradiction fun hne=>by rw[he1 q hne] at h2;exact hne h2
       have:=hK q s2 h1 hf fun j hj=>by
         have hjv:j≠vid:=fun e=>hj (by rw[e];exact hvid)
         rw[h3 j hjv (by rw[he1 j hj];exact hj),he1 j hj]
       have el:(v::tr.Secs).length=([[iD v]]:List (List D)).length+ (tr.Secs.map Go.Fw.encI).length:=by simp;omega
       rw[el] at this
       exact this
     have st:∀q s2,s2 q= .live a_e ((v::tr.Secs).map Go.Fw.encI)->s' q= .free->Ext s' s2->∃len:Nat,Idx prog s2 (lsD L.tr y.Trs.length) 2 len/\(0:Int)<=(k:Nat)/\((k:Nat) :Int) < len/\a_k [.osl q 0 (v::tr.Secs).length,iD (y.way v o)] s2 (lsD L.tr y.Trs.length) (Int.toNat ((k:Nat) :Int)) 0 fun s'=>R3 s':=fun q s2 h1 h2 h3=>by
       refine (hT.ext h3).idxK b_4 rfl (by rw[hl];exact hkl) ?_
       rw[hd,zF]
       exact h.setTr (t':=⟨v::tr.Secs,y.way v o⟩) hx hz htr h1 h2 h3 rfl rfl fin
     refine ⟨⟨trivial,_,_,_,rfl,_,a_d h.row,_,rfl,?_⟩,_,_,RyIn.way_spec id y hw hsv o,trivial,_,_,_,rfl,?_⟩
     · exact hq2 fun q s2 h1 h2 h3=>((h.ext h3).way hw hsv o).use ⟨_,rfl,st q s2 h1 h2 h3⟩
     · refine hq2 fun q s2 h1 h2 h3=>⟨_,a_d (h.ext h3).row,_,rfl,⟨rfl,L,fr,h.ext h3⟩,?_⟩
       rintro r2 s4 ⟨rfl,rfl⟩
       exact ⟨_,rfl,st q s4 h1 h2 h3⟩
   rcases a_bk y.C a tr.Out with hb | ⟨hb1,hb2⟩
   · rw[hb] at go ⊢
     exact bcd (fun e=>absurd e (by decide)) (fun _=>⟨rfl,go (by rw[a_5 (by decide)])⟩)
   · refine bcd (fun _=>?_) (fun e=>absurd hb1 e)
     obtain ⟨q,hq⟩:=zI hb1
     rw[hq] at go hY hb2 ⊢
     obtain ⟨l,hll⟩:=a_c (l:=y.Lps) (j:=q) (by have:=hw.lps;omega)
     rw[a_1,hll] at go hY
     have hlast:=hw.last l (zC hll)
     have hnow:=hw.now
     have hlg:(y.Lps.map fun x=>Go.Fw.encI x.Last)[q]? =some (Go.Fw.encI l.Last):=a_g (f:=fun x:Lp=>Go.Fw.encI x.Last) hll
     refine ⟨trivial,_,_,_,rfl,_,a_d h.row,_,rfl,(h.laAt hw).load hlg c_int rfl ⟨l.Last,rfl,bcd (fun g1=>?_) (fun g1=>?_)⟩⟩
     · rw[hY,if_pos (decide_eq_true (.inl g1))];exact ⟨rfl,L,h⟩
     refine ⟨trivial,_,_,_,rfl,_,a_d h.row,y.Now,rfl,trivial,_,_,_,rfl,_,a_d h.row,_,rfl,(h.laAt hw).load hlg c_int rfl ⟨l.Last,rfl,trivial,_,_,_,rfl,_,a_d h.row,y.C.Brake,rfl,?_⟩⟩
     rw[a_r (by omega) (by omega)]
     refine bcd (fun g2=>?_) (fun g2=>⟨rfl,go (decide_eq_false (by rintro (g | g) <;> contradiction))⟩)
     rw[hY,if_pos (decide_eq_true (.inr g2))];exact ⟨rfl,L,h⟩
end
end
end Go.Proofs.YtaklhjodjbgmgaaGreat
namespace Go.Fw
section
theorem a_a2:∀(l:List UInt8) (x:Int),rdL l x=x * 256 ^ l.length+rd l
 | [],x=>by simp[rdL,rd]
 | c::l,x=>by
   have e:∀x,rdL (c::l) x=rdL l (x * 256+ (c.toNat:Int)):=fun x=>by unfold rdL;rw[List.foldl_cons]
   have h1:=a_a2 l (x * 256+ (c.toNat:Int))
   have h2:=a_a2 l (0 * 256+ (c.toNat:Int))
   rw[e,h1]
   show _=_+rdL (c::l) 0
   rw[e,h2,List.length_cons,Int.pow_succ,Int.add_mul,Int.zero_mul,Int.zero_add]
   have e3:x * 256 * 256 ^ l.length=x * (256 ^ l.length * 256):=by rw[Int.mul_assoc,Int.mul_comm 256]
   rw[e3];omega
theorem a_vn:∀(a b:List UInt8),a.length=b.length->rd a=rd b->a=b
 | [],[],_,_=>rfl
 | [],_::_,h,_=>by cases h
 | _::_,[],h,_=>by cases h
 | c::a,d::b,h,he=>by
   have hl:a.length=b.length:=by simpa using h
   have e:∀(c:UInt8) l,rd (c::l) =(c.toNat:Int) * 256 ^ l.length+rd l:=fun c l=>by
     have:rd (c::l) =rdL l (0 * 256+ (c.toNat:Int)):=by unfold rd rdL;rw[List.foldl_cons]
     rw[this,a_a2,Int.zero_mul,Int.zero_add]
   rw[e,e,<-hl] at he
   have ha:=q_t a 0 (by omega)
   have hb:=q_t b 0 (by omega)
   rw[<-hl] at hb
   have ha0:0<=rd a:=ha.1
   have hb0:0<=rd b:=hb.1
   have ha1:rd a < 256 ^ a.length:=by have:=ha.2;rw[Int.zero_add,Int.one_mul] at this;exact this
   have hb1:rd b < 256 ^ a.length:=by have:=hb.2;rw[Int.zero_add,Int.one_mul] at this;exact this
   have hM:(0:Int) < 256 ^ a.length:=Int.pow_pos (by omega)
   generalize (256:Int) ^ a.length=M at *
   have k1:((c.toNat:Int) * M+rd a) / M=c.toNat:=by rw[Int.add_comm,Int.add_mul_ediv_right _ _ (by omega),Int.ediv_eq_zero_of_lt ha0 ha1,Int.zero_add]
   have k2:((d.toNat:Int) * M+rd b) / M=d.toNat:=by rw[Int.add_comm,Int.add_mul_ediv_right _ _ (by omega),Int.ediv_eq_zero_of_lt hb0 hb1,Int.zero_add]
   rw[he,k2] at k1
   have hcd:c=d:=UInt8.toNat_inj.1 (by omega)
   subst hcd
   rw[a_vn a b hl (by omega)]
theorem a_yy (l:List UInt8) :be l.length (rd l) =l:=by
 have h:=q_t l 0 (by omega)
 have h1:rd l < 256 ^ l.length:=by have:=h.2;rw[Int.zero_add,Int.one_mul] at this;exact this
 exact a_vn _ _ (c_f _ _) (a_fc h.1 h1)
theorem a_pr (b:UInt8) :e_u (b.toNat:Int) 0=b:=by
 refine UInt8.toNat_inj.1 ?_
 have:=a_en (n:=b.toNat) (s:=0)
 have h:=b.toNat_lt
 simp only[Nat.pow_zero,Nat.div_one] at this
 omega
theorem a_p0 (l:List UInt8) :(e_g l).map (fun x=>e_u x 0) =l:=by
 unfold e_g
 rw[List.map_map]
 conv=>rhs;rw[<-List.map_id l]
 exact List.map_congr_left fun b _=>a_pr b
theorem o_f (l:List UInt8) :(e_g l).length=l.length:=by unfold e_g;rw[zB]
theorem a_vs (h:Shp)(t:List UInt8) :(Od.of h t).bytes=2:: (t.drop 1).take (h.Pts.length+h.Sgs.length+h.Xs.length):=by
 unfold Od.bytes Od.of
 simp only[List.map_cons,List.map_append,a_p0]
 have e0:e_u 2 0=2:=by decide
 rw[e0]
 have e:∀(l:List UInt8) (a b c:Nat),l.take a ++ (l.drop a).take b ++ (l.drop (a+b)).take c=l.take (a+b+c):=fun l a b c=>by
   rw[<-List.take_add,<-List.take_add]
 have:=e (t.drop 1) h.Pts.length h.Sgs.length h.Xs.length
 rw[List.drop_drop,List.drop_drop,<-Nat.add_assoc] at this
 rw[this]
theorem a_nf {h:Shp}{t:List UInt8}(hr:(Od.of h t).right h=true) :(Od.of h t).bytes=t↔t.head? =some 2/\t.length=1+h.Pts.length+h.Sgs.length+h.Xs.length:=by
 rw[a_vs]
 unfold Od.right Od.of at hr
 simp only[zO,decide_eq_true_eq] at hr
 obtain ⟨⟨⟨⟨l1,l2,l3⟩,_⟩,_⟩,_⟩:=hr
 rw[o_f,zR,List.length_drop] at l1 l2 l3
 cases t with
 | nil=>simp
 | cons c t=>
   simp only[List.drop_succ_cons,List.drop_zero,List.length_cons,List.head?_cons,Option.some.injEq,List.cons.injEq] at *
   constructor
   · rintro ⟨e1,e2⟩
     refine ⟨e1.symm,?_⟩
     have:=congrArg List.length e2
     rw[zR] at this
     omega
   · rintro ⟨e1,e2⟩
     exact ⟨e1.symm,List.take_of_length_le (by omega)⟩
theorem a_tx (h:Shp)(t:List UInt8) :g_d h t=if (Od.of h t).right h=true then (if (Od.of h t).bytes=t then some (Od.of h t) else none) else none:=by
 unfold g_d
 by_cases hr:(Od.of h t).right h=true
 · rw[if_pos hr]
   by_cases hb:(Od.of h t).bytes=t
   · have:=(a_nf hr).1 hb
     rw[if_pos ⟨this.1,this.2,hr⟩,if_pos hb]
   · rw[if_neg hb,if_neg]
     rintro ⟨a,b,_⟩
     exact hb ((a_nf hr).2 ⟨a,b⟩)
 · rw[if_neg hr,if_neg]
   rintro ⟨_,_,c⟩
   exact hr c
theorem a_rv {t:List UInt8}{k:Nat}(hk:rd (t.take 2) =k)(hl:k+6<=t.length)(h2:2<=t.length) :
   g_f ((t.take (k+2)).drop 2) =t.take (k+6)↔rd ((t.take (k+6)).drop (k+2)) =crc (t.take (k+2)):=by
 have hb:((t.take (k+2)).drop 2).length=k:=by simp;omega
 have h2l:(t.take 2).length=2:=by simp;omega
 have e1:be 2 (k:Int) =t.take 2:=by rw[<-hk];have:=a_yy (t.take 2);rwa [h2l] at this
 have e2:be 2 (k:Int) ++ (t.take (k+2)).drop 2=t.take (k+2):=by
   rw[e1]
   have:t.take 2=(t.take (k+2)).take 2:=by rw[List.take_take,Nat.min_eq_left (by omega)]
   rw[this,List.take_append_drop]
 have e3:t.take (k+6) =t.take (k+2) ++ (t.take (k+6)).drop (k+2):=by
   have:t.take (k+2) =(t.take (k+6)).take (k+2):=by rw[List.take_take,Nat.min_eq_left (by omega)]
   conv=>rhs;rw[this]
   rw[List.take_append_drop]
 have h4:((t.take (k+6)).drop (k+2)).length=4:=by simp;omega
 unfold g_f
 rw[hb,e2,e3]
 have hc:=a_qh (t.take (k+2))
 constructor
 · intro e
   have e:=List.append_cancel_left e
   have e5:t.take (k+2) ++ (t.take (k+6)).drop (k+2) =t.take (k+6):=e3.symm
   rw[e5,<-e,a_fc (by omega) (by omega)]
 · intro e
   have e5:t.take (k+2) ++ (t.take (k+6)).drop (k+2) =t.take (k+6):=e3.symm
   rw[e5] at e
   congr 1
   rw[<-e]
   have:=a_yy ((t.take (k+6)).drop (k+2))
   rwa [h4] at this
end
end Go.Fw
namespace Go.Proofs.YtaklhjodjbgmgaaGreat
open Go.Fw Go.Proofs Go.RowKit
open Go.Proofs.Tryz (prog)
section
variable {σ σ0:Store}
theorem a_dm (a b:List UInt8) :((ofL a).toList ==(ofL b).toList) =decide (a=b):=by
 rw[h_k,h_k,r_n,r_n]
 by_cases h:a=b
 · rw[h,beq_self_eq_true,decide_eq_true rfl]
 · rw[decide_eq_false h];exact beq_eq_false_iff_ne.2 h
theorem a_h7 {t:List UInt8}(ht:t.length<=2 ^ 59) :Pure prog o_0 [.one (.str (ofL t)),iA 0] σ (.tup [.one (.str (ofL (d_k t).1)),iA (d_k t).2.1,iA (d_k t).2.2]):=by
 refine a_ke (ofL t) 0 σ _ ?_
 intro R hR
 refine bcd (fun h=>absurd h (by omega)) (fun _=>bcd (fun h=>?_) (fun _=>hR _ ?_))
 · rw[a_9] at h;omega
 rw[a_9]
 have e0:(ofL t).extract (Int.toNat 0) t.length=ofL t:=by rw[d_7,zT];rfl
 rw[e0]
 simp only[a_9,d_7]
 refine ⟨by omega,by omega,bcd (fun h1=>?_) (fun h1=>?_)⟩
 · have:t.length < 6:=by omega
   have hc:e_j t=(0,1):=by unfold e_j;rw[if_pos this]
   unfold d_k;rw[hc]
   exact ⟨rfl,by trivial⟩
 obtain ⟨c0,hc0⟩:=a_c (l:=t) (j:=0) (by omega)
 obtain ⟨c1,hc1⟩:=a_c (l:=t) (j:=1) (by omega)
 have ht2:t.take 2=[c0,c1]:=by
   rw[show (2:Nat) =0+1+1 from rfl,zQ,zQ,hc1,hc0];rfl
 have hb0:=c0.toNat_lt
 have hb1:=c1.toNat_lt
 have hk:rd (t.take 2) =((c0.toNat * 256+c1.toNat:Nat) :Int):=by rw[ht2];simp[rd,rdL]
 generalize hkk:c0.toNat * 256+c1.toNat=k at hk
 have hw:w64 ((w64 ((w64 (c0.toNat:Int)) * 256)) + (w64 (c1.toNat:Int))) =(k:Int):=by
   rw[a_r (n:=(c0.toNat:Int)) (by omega) (by omega),a_r (n:=(c1.toNat:Int)) (by omega) (by omega),a_r (n:=(c0.toNat:Int) * 256) (by omega) (by omega),a_r (by omega) (by omega)]
   omega
 refine ⟨(c0.toNat:Int),⟨by omega,c0,hc0,rfl⟩,(c1.toNat:Int),⟨by omega,c1,hc1,rfl⟩,?_⟩
 rw[hw]
 have hw6:w64 ((k:Int) +6) =((k+6:Nat) :Int):=by rw[a_r (by omega) (by omega)];omega
 have hw2:w64 ((k:Int) +2) =((k+2:Nat) :Int):=by rw[a_r (by omega) (by omega)];omega
 have hw0:w64 ((w64 (0+ (k:Int))) +6) =((k+6:Nat) :Int):=by rw[a_r (n:=0+ (k:Int)) (by omega) (by omega),a_r (by omega) (by omega)];omega
 rw[hw6,hw2,hw0]
 refine bcd (fun h2=>?_) (fun h2=>bcd (fun h3=>?_) (fun h3=>?_))
 · have hc:e_j t=(0,2):=by unfold e_j;rw[if_neg (by omega),hk,if_pos h2]
   unfold d_k;rw[hc]
   exact ⟨rfl,by trivial⟩
 · have hc:e_j t=(0,1):=by unfold e_j;rw[if_neg (by omega),hk,if_neg h2,if_pos (by omega)]
   unfold d_k;rw[hc]
   exact ⟨rfl,by trivial⟩
 have hc:e_j t=(((k+6:Nat) :Int),0):=by unfold e_j;rw[if_neg (by omega),hk,if_neg h2,if_neg (by omega)];rfl
 have hkl:k+6<=t.length:=by omega
 have hsl:((t.take (k+2)).drop 2).length=k:=by simp;omega
 simp only[zF]
 refine ⟨by omega,by omega,by omega,(t_4 (b:=(t.take (k+2)).drop 2) (by omega)).use ⟨_,0,rfl,by omega,by omega,by omega,?_⟩⟩
 have e1:(List.drop (Int.toNat 0) (List.take (k+6) t)) =t.take (k+6):=rfl
 have ha:=a_rv hk hkl (by omega)
 have hx:k+6 - 4=k+2:=by omega
 unfold d_k
 rw[hc]
 simp only[zF,hx]
 rw[if_neg (by simp)]
 refine a_0 (fun hf=>?_) (fun hf=>?_)
 · have hf:((ofL (g_f ((t.take (k+2)).drop 2))).toList ==(ofL (t.take (k+6))).toList) =false:=hf
   rw[a_dm] at hf
   rw[if_pos (fun e=>by rw[decide_eq_true (ha.2 e)] at hf;cases hf)]
   exact ⟨rfl,by trivial⟩
 · have hf:((ofL (g_f ((t.take (k+2)).drop 2))).toList ==(ofL (t.take (k+6))).toList) =true:=hf
   rw[a_dm] at hf
   rw[if_neg (fun e=>e (ha.1 (zM hf)))]
   exact ⟨rfl,by trivial⟩
theorem a_g0 {t:List UInt8}(ht:t.length<=2 ^ 59) :Pure prog o_6 [.one (.str (ofL t))] σ (.tup [.one (.str (ofL (e_w t).1)),iA (e_w t).2]):=by
 refine a_kq (ofL t) σ _ ((a_h7 ht).use ⟨_,_,_,rfl,?_⟩)
 simp only[a_9]
 by_cases h1:(e_j t).2=0
 rotate_left
 · have hn:d_k t=([],0,(e_j t).2):=by unfold d_k;rw[if_pos h1]
   have ho:e_w t=([],(e_j t).2):=by unfold e_w;rw[if_pos h1]
   rw[hn,ho]
   have h12:(e_j t).2=1\/(e_j t).2=2:=by
     unfold e_j at h1 ⊢
     split
     · exact .inl rfl
     split
     · exact .inr rfl
     split
     · exact .inl rfl
     · rename_i a b c;rw[if_neg a,if_neg b,if_neg c] at h1;exact absurd rfl h1
   refine bce (fun _=>⟨rfl,by trivial⟩) (fun e=>bce (fun _=>⟨rfl,by trivial⟩) (fun e2=>?_))
   rcases h12 with h | h
   · exact absurd h e
   · exact absurd h e2
 have hp:=a_s0 h1
 obtain ⟨c0,hc0⟩:=a_c (l:=t) (j:=0) (by omega)
 obtain ⟨c1,hc1⟩:=a_c (l:=t) (j:=1) (by omega)
 have ht2:t.take 2=[c0,c1]:=by
   rw[show (2:Nat) =0+1+1 from rfl,zQ,zQ,hc1,hc0];rfl
 have hb0:=c0.toNat_lt
 have hb1:=c1.toNat_lt
 have hk:rd (t.take 2) =((c0.toNat * 256+c1.toNat:Nat) :Int):=by rw[ht2];simp[rd,rdL]
 generalize hkk:c0.toNat * 256+c1.toNat=k at hk
 have hc:(e_j t).1=((k+6:Nat) :Int):=by
   unfold e_j at h1 ⊢
   rw[hk] at h1 ⊢
   split
   · rename_i a;rw[if_pos a] at h1;cases h1
   split
   · rename_i a b;rw[if_neg a,if_pos b] at h1;cases h1
   split
   · rename_i a b c;rw[if_neg a,if_neg b,if_pos c] at h1;cases h1
   · rfl
 have hw:w64 ((w64 ((w64 ((w64 (c0.toNat:Int)) * 256)) + (w64 (c1.toNat:Int)))) +6) =((k+6:Nat) :Int):=by
   rw[a_r (n:=(c0.toNat:Int)) (by omega) (by omega),a_r (n:=(c1.toNat:Int)) (by omega) (by omega),a_r (n:=(c0.toNat:Int) * 256) (by omega) (by omega),a_r (n:=(c0.toNat:Int) * 256+_) (by omega) (by omega),a_r (by omega) (by omega)]
   omega
 have ho:e_w t=if (e_j t).1 < t.length then ([],3) else ((d_k t).1,(d_k t).2.2):=by unfold e_w;rw[if_neg (by rw[h1];simp)]
 have hn:d_k t=if rd ((t.take (k+6)).drop (k+2))≠crc (t.take (k+2)) then ([],0,4) else ((t.take (k+2)).drop 2,((k+6:Nat) :Int),0):=by
   unfold d_k
   rw[if_neg (by rw[h1];simp),hc,zF];rfl
 have hn2:(d_k t).2.2=4\/((d_k t).2.2=0/\(d_k t).2.1=((k+6:Nat) :Int)):=by
   rw[hn];split
   · exact .inl rfl
   · exact .inr ⟨rfl,by trivial⟩
 have hn3:(d_k t).2.2=4->(d_k t).1=[]:=by
   rw[hn];split
   · exact fun _=>rfl
   · exact fun e=>by cases e
 refine bce (fun e=>by rcases hn2 with h | h <;> omega) (fun _=>bce (fun e=>by rcases hn2 with h | h <;> omega) (fun _=>⟨(c0.toNat:Int),⟨by omega,c0,hc0,rfl⟩,(c1.toNat:Int),⟨by omega,c1,hc1,rfl⟩,?_⟩))
 rw[hw,ho,hc]
 refine bcd (fun h2=>?_) (fun h2=>?_)
 · rw[if_pos (by omega)];exact ⟨rfl,by trivial⟩
 rw[if_neg (by omega)]
 refine bcn (fun h3=>?_) (fun h3=>bcn (fun h4=>?_) (fun h4=>?_))
 · have h4:(d_k t).2.2=4:=by rcases hn2 with h | h;exact h;exact absurd h.1 h3
   rw[hn3 h4];exact ⟨rfl,by trivial⟩
 · exfalso
   rcases hn2 with h | h
   · omega
   · rw[h.2] at h4;omega
 · rw[h3];exact ⟨rfl,by trivial⟩
def RdR (s:Store)(id:Nat)(r:Rd) :Prop:=s id= .live q_p [[.str (ofL r.l), .bool (decide (r.e≠0))]]
theorem p_5 {s:Store}{id:Nat}{r:Rd}(h:RdR s id r){k:Nat}(hk:k<=4)(hl:r.l.length<=2 ^ 60){kk:Int}(hkk:kk=k) :
   DCalls prog d_w [.one (pO id),iA kk] s fun rr s'=>rr= .a (iA (r.num k).1)/\RdR s' id (r.num k).2/\∀i,i≠id->s' i=s i:=by
 subst hkk
 have bad:(r.short k).e≠0->a_k [.bool true] s (.osl id 0 1) 0 (0+1) fun s'=>(RV.a (iA 0) = .a (iA (r.num k).1)/\RdR s' id (r.num k).2/\∀i,i≠id->s' i=s i):=fun hb=>by
   refine b_h h (by simp) fun s' hs' ho'=>?_
   unfold Rd.num
   rw[if_neg hb]
   refine ⟨rfl,?_,ho'⟩
   unfold RdR
   rw[hs',Rd.short_l,decide_eq_true hb];rfl
 refine v_k (pO id) k s _ ?_
 intro R hR
 refine ⟨trivial,_,_,_,rfl,_,a_d h,_,rfl,bcd (fun he=>⟨trivial,_,_,_,rfl,bad ?_⟩) (fun he=>⟨trivial,_,_,_,rfl,_,a_d h,ofL r.l,rfl,?_⟩)⟩
 · unfold Rd.short
   split <;> first | exact he | (rw[if_neg he];exact he)
 have he:r.e=0:=Classical.not_not.1 he
 rw[a_9]
 refine bcd (fun hlt=>⟨trivial,_,_,_,rfl,bad ?_⟩) (fun hge=>hR s ?_)
 · unfold Rd.short
   rw[if_pos (by omega),if_pos he]
   show (1:Int)≠0
   decide
 have hsh:r.short k=r:=by unfold Rd.short;rw[if_neg (by omega)]
 have hnum:r.num k=(rd (r.l.take k),⟨0,r.l.drop k⟩):=by unfold Rd.num;rw[hsh,if_pos he]
 rw[hnum]
 refine ⟨fun n n1 s'=>s'=s/\∃j:Nat,n1=j/\j<=k/\n=rd (r.l.take j),fun _ n1 _=>k - n1.toNat,⟨rfl,0,rfl,by omega,rfl⟩,?_⟩
 rintro _ _ s' ⟨rfl,j,rfl,hj,rfl⟩
 refine bcd (fun hlt=>?_) (fun hge1=>?_)
 · have hlt:j < k:=by omega
   obtain ⟨c,hc⟩:=a_c (l:=r.l) (j:=j) (by omega)
   refine ⟨trivial,_,_,_,rfl,_,a_d h,ofL r.l,rfl,(c.toNat:Int),⟨by omega,c,by rw[r_n,zF];exact hc,rfl⟩,?_⟩
   have hx:=q_t (r.l.take j) 0 (by omega)
   have hp:=a_r8 (j:=(r.l.take j).length) (by rw[zR];omega)
   have hb:0<=rd (r.l.take j)/\rd (r.l.take j) < 4294967296:=by unfold rd;omega
   have hcn:(c.toNat:Int) < 256:=by have:=c.toNat_lt;omega
   rw[a_i (by omega),a_r (n:=(c.toNat:Int)) (by omega) (by omega),a_r (n:=256 * rd (r.l.take j)) (by omega) (by omega),a_r (by omega) (by omega)]
   refine ⟨⟨rfl,j+1,rfl,hlt,?_⟩,a_v hlt⟩
   rw[zQ,hc,Option.toList_some,rd,rd,a_e9]
   show _=rdL (r.l.take j) 0 * 256+ (c.toNat:Int)
   rw[Int.mul_comm]
 have e:j=k:=by omega
 subst e
 refine ⟨trivial,_,_,_,rfl,_,a_d h,ofL r.l,rfl,by omega,by rw[a_9];omega,trivial,_,_,_,rfl,b_h h (by simp) fun s1 hs1 ho1=>⟨rfl,?_,ho1⟩⟩
 unfold RdR
 rw[hs1,zF,a_9,d_7,zT,he]
 rfl
theorem a_g4 {t:List UInt8}(ht:t.length<=2 ^ 59) :Pure prog k_b [.one (.str (ofL t))] σ (.tup [.agg [iD (a_2 t).p,iD (a_2 t).n,iD (a_2 t).s, .str (ofL (a_2 t).b)],iA (a_2 t).e]):=by
 have key:DCalls prog k_b [.one (.str (ofL t))] σ fun r s=>Ext σ s/\r= .tup [.agg [iD (a_2 t).p,iD (a_2 t).n,iD (a_2 t).s, .str (ofL (a_2 t).b)],iA (a_2 t).e]:=by
   refine a_mf (ofL t) σ _ ((a_g0 ht).use ⟨_,_,rfl,?_⟩)
   have hol:=a_p7 t
   unfold a_2
   rw[a_9]
   refine bcn (fun h1=>?_) (fun h1=>bcd (fun h2=>?_) (fun h2=>bcd (fun h3=>?_) (fun h3=>?_)))
   · rw[if_pos h1];exact ⟨.refl _,rfl⟩
   · rw[if_neg (by rw[h1];simp),if_pos (by omega)];exact ⟨.refl _,rfl⟩
   · rw[if_neg (by rw[h1];simp),if_neg (by omega),if_pos (by omega)];exact ⟨.refl _,rfl⟩
   rw[if_neg (by rw[h1];simp),if_neg (by omega),if_neg (by omega)]
   generalize (e_w t).1=b at *
   refine a_f fun id s0 hid _ he hs0=>?_
   have hr:RdR s0 id ⟨0,b⟩:=hs0
   have ex:∀{s s':Store},Ext σ s->(∀i,i≠id->s' i=s i)->Ext σ s':=fun {s s'} he ho i hi=>by
     have hne:i≠id:=fun e=>hi (by rw[e];exact hid)
     rw[ho i hne];exact he i hi
   refine ⟨by omega,by omega,(p_5 hr (k:=1) (by omega) (by show b.length<=2 ^ 60;omega) rfl).mono ?_⟩
   rintro r s1 ⟨rfl,hr1,ho1⟩
   have n1:(⟨0,b⟩ :Rd).num 1=(rd (b.take 1),⟨0,b.drop 1⟩):=j_b (by omega)
   rw[n1] at hr1 ⊢
   refine ⟨_,rfl,(p_5 hr1 (k:=2) (by omega) (by show (b.drop 1).length<=2 ^ 60;simp;omega) rfl).mono ?_⟩
   rintro r s2 ⟨rfl,hr2,ho2⟩
   have n2:(⟨0,b.drop 1⟩ :Rd).num 2=(rd ((b.drop 1).take 2),⟨0,(b.drop 1).drop 2⟩):=j_b (by simp;omega)
   rw[n2] at hr2 ⊢
   refine ⟨_,rfl,(p_5 hr2 (k:=4) (by omega) (by show ((b.drop 1).drop 2).length<=2 ^ 60;simp;omega) rfl).mono ?_⟩
   rintro r s3 ⟨rfl,hr3,ho3⟩
   have n3:(⟨0,(b.drop 1).drop 2⟩ :Rd).num 4=(rd (((b.drop 1).drop 2).take 4),⟨0,((b.drop 1).drop 2).drop 4⟩):=j_b (by simp;omega)
   rw[n3]
   refine ⟨_,rfl,ex (ex (ex he ho1) ho2) ho3,?_⟩
   rw[d_7,zT,List.drop_drop]
 refine key.ret ?_
 rintro r s ⟨he,rfl⟩
 refine ⟨.tup [.agg [iD (a_2 t).p,iD (a_2 t).n,iD (a_2 t).s, .str (ofL (a_2 t).b)],iA (a_2 t).e],σ, .pure he ⟨rfl,fun i x y h1 h2=>?_⟩,rfl,rfl⟩
 rw[h1] at h2;injection h2 with h2;subst h2
 rcases i with _ | _ | i
 · simp at h1;subst h1;exact .cons (.int _ _) (.cons (.int _ _) (.cons (.int _ _) (.cons (.str _) .nil)))
 · simp at h1;subst h1;exact .int _ _
 · simp at h1
end
section
variable {σ σ0:Store}
theorem m_z {d:D}{l:List Int}(h:At prog σ a_e d (l.map Go.Fw.encI))(n most:Int) :Pure prog g_w [.one d,iA n,iA most] σ (.a (bA (decide ((l.length:Int) =n) && l.all fun x=>decide (0<=x/\x<=most)))):=by
 have hl:=h.size
 rw[zB] at hl
 refine a_hp d n most σ _ (h.lenK ⟨fun m s=>s=σ/\∃j:Nat,m=j/\j<=l.length/\(l.take j).all (fun x=>decide (0<=x/\x<=most)) =true,fun m _=>l.length - m.toNat,⟨rfl,0,rfl,by omega,by simp⟩,?_⟩)
 rintro _ s ⟨rfl,j,rfl,hj,hall⟩
 rw[zB]
 refine bcd (fun hlt=>?_) (fun hge=>h.lenK ?_)
 · have hlt:j < l.length:=by omega
   obtain ⟨x,hx⟩:=a_c (l:=l) (j:=j) hlt
   have bad:¬(0<=x/\x<=most)->(decide ((l.length:Int) =n) && l.all fun x=>decide (0<=x/\x<=most)) =false:=fun hb=>by
     have:(l.all fun x=>decide (0<=x/\x<=most)) =false:=by
       rw[List.all_eq_false]
       exact ⟨x,zC hx,by rw[decide_eq_false hb];simp⟩
     rw[this,Bool.and_false]
   refine h.load (a_g hx) c_int rfl ⟨x,rfl,bcd (fun e=>⟨by rw[bad (by omega)],rfl⟩) (fun e1=>bcd (fun e=>⟨by rw[bad (by omega)],rfl⟩) (fun e2=>?_))⟩
   rw[a_i (by omega)]
   refine ⟨⟨rfl,j+1,rfl,by omega,?_⟩,a_v (by omega)⟩
   rw[zQ,hx,Option.toList_some,List.all_append,hall,List.all_cons,List.all_nil,decide_eq_true (by omega)];rfl
 · have e:j=l.length:=by omega
   subst e
   rw[zT] at hall
   rw[zB,hall,Bool.and_true]
   exact ⟨rfl,rfl⟩
theorem a_v3 (h:Shp)(o:Od) :o.right h=((decide ((o.Pos.length:Int) =(h.Pts.length:Nat)) && o.Pos.all fun x=>decide (0<=x/\x<=2)) && ((decide ((o.Asp.length:Int) =(h.Sgs.length:Nat)) && o.Asp.all fun x=>decide (0<=x/\x<=2)) &&
   (decide ((o.Shut.length:Int) =(h.Xs.length:Nat)) && o.Shut.all fun x=>decide (0<=x/\x<=1)))):=by
 unfold Od.right
 rw[Bool.eq_iff_iff]
 simp only[zO,decide_eq_true_eq]
 constructor
 · rintro ⟨⟨⟨⟨a,b,c⟩,d⟩,e⟩,f⟩;exact ⟨⟨by omega,d⟩,⟨by omega,e⟩,⟨by omega,f⟩⟩
 · rintro ⟨⟨a,d⟩,⟨b,e⟩,⟨c,f⟩⟩;exact ⟨⟨⟨⟨by omega,by omega,by omega⟩,d⟩,e⟩,f⟩
theorem a_fe {h0 h1 h2 h3 d0 d1 d2:D}{h:Shp}{o:Od}(hs:ShFz h0 h1 h2 h3 h)(a0:At prog σ a_e d0 (o.Pos.map Go.Fw.encI))(a1:At prog σ a_e d1 (o.Asp.map Go.Fw.encI))(a2:At prog σ a_e d2 (o.Shut.map Go.Fw.encI))
   (hb:o.Pos.length+o.Asp.length+o.Shut.length<=2 ^ 20) :DCalls prog k_9 [.agg [h0,h1,h2,h3], .agg [d0,d1,d2]] σ fun r s=>Ext σ s/\r=if o.right h=true then .tup [.one (.str (ofL o.bytes)),iA 0] else .tup [.one (.str (ofL [])),iA 32]:=by
 rw[a_v3]
 refine a_f7 h0 h1 h2 h3 d0 d1 d2 σ _ ((hs.pts σ).lenK ?_)
 rw[zB]
 refine (m_z a0 _ _).use ⟨_,rfl,a_0 (fun e=>?_) (fun e1=>(hs.sgs σ).lenK ?_)⟩
 · rw[e,Bool.false_and,if_neg (by simp)];exact ⟨.refl _,rfl⟩
 rw[zB,e1,Bool.true_and]
 refine (m_z a1 _ _).use ⟨_,rfl,a_0 (fun e=>?_) (fun e2=>(hs.xs σ).lenK ?_)⟩
 · rw[e,Bool.false_and,if_neg (by simp)];exact ⟨.refl _,rfl⟩
 rw[zB,e2,Bool.true_and]
 refine (m_z a2 _ _).use ⟨_,rfl,a_0 (fun e=>?_) (fun e3=>a_f fun id s1 hid _ he1 hs1=>?_)⟩
 · rw[e,if_neg (by simp)];exact ⟨.refl _,rfl⟩
 rw[e3,if_pos rfl]
 refine (a_em (ds:= [d0,d1,d2]) (ls:= [o.Pos,o.Asp,o.Shut]) (At.fresh hs1 (by simp) rfl) rfl (fun k d l a b=>?_) (by simp;omega)).mono ?_
 · rcases k with _ | _ | _ | k
   · simp at a b;subst a b;exact a0.ext he1
   · simp at a b;subst a b;exact a1.ext he1
   · simp at a b;subst a b;exact a2.ext he1
   · simp at a
 · rintro r s ⟨he,rfl⟩
   refine ⟨_,rfl,he1.trans he,?_⟩
   have e:bsL [o.Pos,o.Asp,o.Shut]=o.bytes:=by simp[bsL,Od.bytes]
   rw[e]
theorem m_9 {t:List UInt8}(ht:t.length<=2 ^ 40){a n:Nat}(ha:a+n<=2 ^ 40){ai ni:Int}(e1:ai=a)(e2:ni=n) :DCalls prog i_l [.one (.str (ofL t)),iA ai,iA ni] σ fun r s=>∃d,r= .a (.one d)/\Own prog σ s a_e d ((e_g ((t.drop a).take n)).map Go.Fw.encI):=by
 subst e1 e2
 have hw:w64 ((a:Int) +n) =((a+n:Nat) :Int):=by rw[a_r (by omega) (by omega)];omega
 refine a_lc (ofL t) a n σ _ ⟨fun d m s=>∃j:Nat,m=((a+j:Nat) :Int)/\j<=n/\Own prog σ s a_e d ((e_g ((t.drop a).take j)).map Go.Fw.encI),fun _ m _=>a+n - m.toNat,⟨0,rfl,by omega, .nil _ (.refl _)⟩,?_⟩
 rintro d _ s ⟨j,rfl,hj,ho⟩
 rw[hw,a_9]
 refine bcd (fun hlt=>bcd (fun hlt2=>?_) (fun hge=>?_)) (fun hge=>?_)
 · have hlt:j < n:=by omega
   obtain ⟨c,hc⟩:=a_c (l:=t) (j:=a+j) (by omega)
   have hcd:(t.drop a)[j]? =some c:=by rw[List.getElem?_drop];exact hc
   have hb:=c.toNat_lt
   have htk:(t.drop a).take (j+1) =(t.drop a).take j ++ [c]:=by rw[zQ,hcd,Option.toList_some]
   have hbl:((e_g ((t.drop a).take j)).map Go.Fw.encI).length<=2 ^ 40:=by simp[e_g];omega
   refine ⟨(c.toNat:Int),⟨by omega,c,by rw[zF];exact hc,rfl⟩,a_f fun id s2 hid _ he hs2=>?_⟩
   rw[a_r (n:=(c.toNat:Int)) (by omega) (by omega)] at hs2
   refine (ho.ext' he).append (ns:= [[iD (c.toNat:Int)]]) (At.fresh hs2 (by simp) rfl) (by simp only[List.length_cons,List.length_nil];omega) (by simp only[List.length_cons,List.length_nil];omega) fun d4 s5 ho5 _ _=>?_
   rw[a_i (by omega)]
   refine ⟨⟨j+1,rfl,by omega,?_⟩,by show a+n - ((a+j+1:Nat) :Int).toNat < a+n - ((a+j:Nat) :Int).toNat;omega⟩
   rw[htk]
   unfold e_g at ho5 ⊢
   rw[List.map_append,List.map_append]
   exact ho5
 · have e:(t.drop a).take n=(t.drop a).take j:=by rw[List.take_of_length_le (i:=n) (by simp;omega),List.take_of_length_le (i:=j) (by simp;omega)]
   rw[e];exact ⟨d,rfl,ho⟩
 · have e:j=n:=by omega
   rw[<-e];exact ⟨d,rfl,ho⟩
theorem s_n {h0 h1 h2 h3:D}{h:Shp}(hs:ShFz h0 h1 h2 h3 h)(hl:h.Pts.length+h.Sgs.length+h.Xs.length<=2 ^ 20){t:List UInt8}(ht:t.length<=2 ^ 40) :
   DCalls prog f_a [.agg [h0,h1,h2,h3], .one (.str (ofL t))] σ fun r s=>s=σ/\((g_d h t=none/\r= .tup [.agg [.nils, .nils, .nils],iA 3])\/
     ∃o d1 d2 d3,g_d h t=some o/\r= .tup [.agg [d1,d2,d3],iA 0]/\OdFz d1 d2 d3 o):=by
 have key : DCalls prog f_a [.agg [h0, h1, h2, h3], .one (.str (ofL t))] σ fun r s => Ext σ s /\ ((g_d h t = none /\ r = .tup [.agg [.nils, .nils, .nils], iA 3]) \/
     ∃o d1 d2 d3,g_d h t=some o/\r= .tup [.agg [d1,d2,d3],iA 0]/\Own prog σ s a_e d1 (o.Pos.map Go.Fw.encI)/\Own prog σ s a_e d2 (o.Asp.map Go.Fw.encI)/\Own prog σ s a_e d3 (o.Shut.map Go.Fw.encI)):=by
   refine u_e h0 h1 h2 h3 (ofL t) σ _ ((hs.pts σ).lenK ((hs.sgs σ).lenK ((hs.xs σ).lenK ?_)))
   rw[zB,zB,zB]
   have w1:w64 (1+ (h.Pts.length:Int)) =((1+h.Pts.length:Nat) :Int):=by rw[a_r (by omega) (by omega)];omega
   have w2:w64 (((1+h.Pts.length:Nat) :Int) + (h.Sgs.length:Int)) =((1+h.Pts.length+h.Sgs.length:Nat) :Int):=by rw[a_r (by omega) (by omega)];omega
   rw[w1,w2]
   refine (m_9 (a:=1) (n:=h.Pts.length) ht (by omega) rfl rfl).mono ?_
   rintro r s1 ⟨d1,rfl,o1⟩
   refine ⟨d1,rfl,(m_9 (a:=1+h.Pts.length) (n:=h.Sgs.length) ht (by omega) rfl rfl).mono ?_⟩
   rintro r s2 ⟨d2,rfl,o2⟩
   refine ⟨d2,rfl,(m_9 (a:=1+h.Pts.length+h.Sgs.length) (n:=h.Xs.length) ht (by omega) rfl rfl).mono ?_⟩
   rintro r s3 ⟨d3,rfl,o3⟩
   have a1:Own prog σ s3 a_e d1 ((Od.of h t).Pos.map Go.Fw.encI):=(o1.ext' o2.ext).ext' o3.ext
   have a2:Own prog σ s3 a_e d2 ((Od.of h t).Asp.map Go.Fw.encI):=(o2.ext' o3.ext).from o1.ext
   have a3:Own prog σ s3 a_e d3 ((Od.of h t).Shut.map Go.Fw.encI):=o3.from (o1.ext.trans o2.ext)
   refine ⟨d3,rfl,(a_fe hs a1.at_ a2.at_ a3.at_ ?_).mono ?_⟩
   · show (e_g _).length+ (e_g _).length+ (e_g _).length<=_
     rw[o_f,o_f,o_f,zR,zR,zR];omega
   rintro r s ⟨he,rfl⟩
   have hE:Ext σ s:=a1.ext.trans he
   rw[a_tx]
   by_cases hr:(Od.of h t).right h=true
   · rw[if_pos hr]
     refine ⟨_,0,rfl,bcn (fun e=>absurd rfl e) (fun _=>a_0 (fun hf=>?_) (fun hf=>?_))⟩
     · rw[a_dm] at hf
       rw[if_pos hr,if_neg (of_decide_eq_false hf)]
       exact ⟨hE, .inl ⟨rfl,rfl⟩⟩
     · rw[a_dm] at hf
       rw[if_pos hr,if_pos (zM hf)]
       exact ⟨hE, .inr ⟨_,d1,d2,d3,rfl,rfl,a1.ext' he,a2.ext' he,a3.ext' he⟩⟩
   · rw[if_neg hr,if_neg hr]
     exact ⟨_,32,rfl,bcn (fun _=>⟨hE, .inl ⟨rfl,rfl⟩⟩) (fun e=>absurd e (by decide))⟩
 refine key.ret ?_
 rintro r s ⟨he,⟨hn,rfl⟩ | ⟨o,d1,d2,d3,ho,rfl,o0,o1,o2⟩⟩
 · refine ⟨.tup [.agg [.nils, .nils, .nils],iA 3],σ, .pure he ⟨rfl,fun i x y h1 h2=>?_⟩,rfl, .inl ⟨hn,rfl⟩⟩
   rw[h1] at h2;injection h2 with h2;subst h2
   rcases i with _ | _ | i
   · simp at h1;subst h1;exact .cons .nils (.cons .nils (.cons .nils .nil))
   · simp at h1;subst h1;exact .int _ _
   · simp at h1
 · obtain ⟨b0,f0,g0⟩:=b_s o0.at_ he o0.new (g_c _)
   obtain ⟨b1,f1,g1⟩:=b_s o1.at_ he o1.new (g_c _)
   obtain ⟨b2,f2,g2⟩:=b_s o2.at_ he o2.new (g_c _)
   refine ⟨.tup [.agg [b0,b1,b2],iA 0],σ, .pure he ⟨rfl,fun i x y h1 h2=>?_⟩,rfl, .inr ⟨o,b0,b1,b2,ho,rfl,⟨g0,g1,g2⟩⟩⟩
   rcases i with _ | _ | i
   · simp at h1 h2;subst h1 h2;exact .cons f0 (.cons f1 (.cons f2 .nil))
   · simp at h1 h2;subst h1 h2;exact .int _ _
   · simp at h1
def j_6 (r:Rc)(nm:Option (Nat × List (List D)))(n:Nat) :List D:= [iD r.Peer,iD r.Age,iD r.Last,lsD nm n]
theorem a_h6 {s:Store}{i:Nat}{nm:Option (Nat × List (List D))}{ns:List Int}{r:Rc}{A:List (Nat × SO)}(h:Heap s ((i, .live a_t [j_6 r nm ns.length]) :: (lsE a_e nm (ns.map Go.Fw.encI) ++ A)))(hn:z_u nm ns)(hb:(ns.length:Int)<=r.Last+1)
   {now:Int} (hnow:now<=9223372036854775807) {t:List UInt8} (ht:t.length<=2 ^ 59) :
   DCalls prog f_j [.one (pO i),iA now, .one (.str (ofL t))] s fun rr s'=>rr= .tup [.one (.str (ofL (r.take now t).2.1)),iA (r.take now t).2.2]/\
     ∃nm' ns',Heap s' ((i, .live a_t [j_6 (r.take now t).1 nm' ns'.length]) :: (lsE a_e nm' (ns'.map Go.Fw.encI) ++ A))/\z_u nm' ns'/\(ns'.length:Int)<=(r.take now t).1.Last+1:=by
 have hp:=a_ey t
 have row:s i= .live a_t [j_6 r nm ns.length]:=h.get (List.mem_cons_self)
 refine p_o (pO i) now (ofL t) s _ ((a_g4 ht).use ⟨_,_,_,_,_,rfl,?_⟩)
 have same : ∀ (b : List UInt8) (e : Int), r.take now t = (r, b, e) -> (RV.tup [.one (.str (ofL b)), iA e] = .tup [.one (.str (ofL (r.take now t).2.1)), iA (r.take now t).2.2] /\
     ∃nm' ns',Heap s ((i, .live a_t [j_6 (r.take now t).1 nm' ns'.length]) :: (lsE a_e nm' (ns'.map Go.Fw.encI) ++ A))/\z_u nm' ns'/\(ns'.length:Int)<=(r.take now t).1.Last+1):=fun b e he=>by
   rw[he];exact ⟨rfl,nm,ns,h,hn,hb⟩
 have hR : r.take now t = if (a_2 t).e ≠ 0 then (r, [], (a_2 t).e) else if (a_2 t).p ≠ r.Peer then (r, [], 16) else if (a_2 t).s > now then (r, [], 19) else if now - (a_2 t).s > r.Age then (r, [], 17) else
     if (a_2 t).s<=r.Last then (r,[],18) else ({ r with Last:=(a_2 t).s },(a_2 t).b,0):=rfl
 refine bcn (fun h1=>?_) (fun h1=>?_)
 · exact same [] (a_2 t).e (by rw[hR,if_pos h1])
 rw[if_neg (by rw[h1];simp)] at hR
 refine ⟨trivial,_,_,_,rfl,_,a_d row,r.Peer,rfl,bcn (fun h2=>same [] 16 (by rw[hR,if_pos h2])) (fun h2=>bcd (fun h3=>same [] 19 (by rw[hR,if_neg (by simpa using h2),if_pos h3])) (fun h3=>⟨trivial,_,_,_,rfl,_,a_d row,r.Age,rfl,(a_e4 now (a_2 t).s r.Age (by omega) hnow).use ⟨_,rfl,?_⟩⟩))⟩
 rw[if_neg (by simpa using h2),if_neg h3] at hR
 refine a_0 (fun h4=>?_) (fun h4=>?_)
 · have h4 : now - (a_2 t).s > r.Age := by
     rw[decide_eq_true (by omega),Bool.true_and] at h4
     have:=of_decide_eq_false h4
     omega
   exact same [] 17 (by rw[hR,if_pos h4])
 have h4:¬now - (a_2 t).s > r.Age:=by
   rw[decide_eq_true (by omega),Bool.true_and] at h4
   have:=zM h4
   omega
 rw[if_neg h4] at hR
 refine ⟨trivial,_,_,_,rfl,_,a_d row,r.Last,rfl,bcd (fun h5=>same [] 18 (by rw[hR,if_pos h5])) (fun h5=>⟨trivial,_,_,_,rfl,h.row (off:=0+2) (by simp[j_6]) fun s2 H2 _=>?_⟩)⟩
 rw[if_neg h5] at hR
 have e2:patch (j_6 r nm ns.length) (0+2) [iD (a_2 t).s]=j_6 { r with Last:=(a_2 t).s } nm ns.length:=rfl
 rw[e2] at H2
 have row2:s2 i= .live a_t [j_6 { r with Last:=(a_2 t).s } nm ns.length]:=H2.get (List.mem_cons_self)
 refine ⟨trivial,_,_,_,rfl,_,a_d row2,_,rfl,a_f fun id1 s3 hid1 _ he1 hs3=>?_⟩
 have H3:=H2.ext he1
 have H3':Heap s3 (c_q a_e nm (ns.map Go.Fw.encI) ++ ((i, .live a_t [j_6 { r with Last:=(a_2 t).s } nm ns.length]) ::A)):=by
   refine H3.perm (b_q fun a=>?_)
   rw[a_dh]
   simp only[List.count_append,List.count_cons,List.count_nil]
   omega
 show a_j _ _ _ _ (lsD nm ns.length) _ _
 rw[a_dp]
 refine f_r (el:=a_e) (bytes:=8) (r:= [iD (a_2 t).n]) H3' (fun e=>by rw[hn e];rfl) (by simp) (by simp;omega) (At.fresh hs3 (by simp) rfl) (by simp;omega) ?_
 intro s4 z H4
 have H4':Heap s4 ((i, .live a_t [j_6 { r with Last:=(a_2 t).s } nm ns.length]) :: (lsE a_e (some z) ((ns ++ [(a_2 t).n]).map Go.Fw.encI) ++ A)):=by
   refine H4.perm (b_q fun a=>?_)
   rw[a_dh,List.map_append]
   simp only[List.count_append,List.count_cons,List.count_nil]
   have e: [(a_2 t).n].map Go.Fw.encI=[[iD (a_2 t).n]]:=rfl
   rw[e]
   omega
 refine ⟨trivial,_,_,_,rfl,H4'.row (off:=0+3) (by simp[j_6]) fun s5 H5 _=>?_⟩
 rw[hR]
 refine ⟨rfl,some z,ns ++ [(a_2 t).n],?_,fun e=>(by cases e),?_⟩
 · have e5 : patch (j_6 { r with Last := (a_2 t).s } nm ns.length) (0 + 3) [b_r (some z) (ns.length + 1)] = j_6 { r with Last := (a_2 t).s } (some z) (ns ++ [(a_2 t).n]).length := by
     rw[zP];rfl
   rw[e5] at H5;exact H5
 · show (((ns ++ [(a_2 t).n]).length:Nat) :Int)<=(a_2 t).s+1
   rw[zP,List.length_singleton];omega
end
section
variable {σ σ0:Store}
theorem a_nj {α:Type}{l:List α}{k:Nat}{a:α}(h:l[k]? =some a) :l.Perm (a:: (l.take k ++ l.drop (k+1))):=by
 have e:l=l.take k ++ a::l.drop (k+1):=by rw[<-b_k h,List.take_append_drop]
 conv=>lhs;rw[e]
 exact List.perm_middle
theorem a_xe {α:Type}(l:List α)(k:Nat)(a:α) :(l.set k a).take k ++ (l.set k a).drop (k+1) =l.take k ++ l.drop (k+1):=by
 rw[List.take_set_of_le (Nat.le_refl k),List.drop_set_of_lt (Nat.lt_succ_self k)]
open Classical in
theorem a_wv {α:Type}{l m:List α}(h:l.Perm m)(a:α) :l.count a=m.count a:=h.count_eq a
section
variable {s:Store} {id:Nat} {L:RL} {y:Yd} {fr:List (Nat × SO)} {N:Nat}
def nmE (x:RR) :List (Nat × SO):=lsE a_e x.nm (x.ns.map Go.Fw.encI)
def z_5 (id:Nat)(L:RL)(y:Yd)(k:Nat)(fr:List (Nat × SO)) :List (Nat × SO):=
 c_l id L y ++ (e_1 L y ++ (((L.rs.zip y.Psts).take k ++ (L.rs.zip y.Psts).drop (k+1)).map rrE ++ (((L.rs.take k ++ L.rs.drop (k+1)).map nmE).flatten ++ ((L.tk.zip y.Trs).map tkE ++ fr))))
theorem a_s3 {k:Nat}{x:RR}{p:Pst}(hx:L.rs[k]? =some x)(hp:y.Psts[k]? =some p) :(c_9 id L y fr).Perm ((x.i, .live a_t [j_6 p.R x.nm x.ns.length]) :: (nmE x ++ z_5 id L y k fr)):=by
 have h1:=(a_nj (c_d hx hp)).map rrE
 have h2:((L.rs.map nmE).flatten).Perm (nmE x ++ ((L.rs.take k ++ L.rs.drop (k+1)).map nmE).flatten):=by
   have:=((a_nj hx).map nmE).flatten
   rwa [List.map_cons,List.flatten_cons] at this
 have e1:rrE (x,p) =(x.i, .live a_t [j_6 p.R x.nm x.ns.length]):=rfl
 rw[List.map_cons,e1] at h1
 refine b_q fun a=>?_
 have c1:=a_wv h1 a
 have c2:=a_wv h2 a
 have e2:(L.rs.map fun x=>lsE a_e x.nm (x.ns.map Go.Fw.encI)) =L.rs.map nmE:=rfl
 unfold c_9 z_5
 rw[e2]
 simp only[List.count_append,List.count_cons,List.count_nil] at c1 c2 ⊢
 omega
theorem RyIn.putRc (h:RyIn s id L y fr){k:Nat}{x:RR}{p:Pst}(hx:L.rs[k]? =some x)(hp:y.Psts[k]? =some p){r:Rc}{nm:Option (Nat × List (List D))}{ns:List Int}{s':Store}
   (hs:Heap s' ((x.i, .live a_t [j_6 r nm ns.length]) :: (lsE a_e nm (ns.map Go.Fw.encI) ++ z_5 id L y k fr))) (hn:z_u nm ns) (hb:(ns.length:Int)<=r.Last+1) :
   RyIn s' id { L with rs:=L.rs.set k ⟨x.i,nm,ns⟩ } { y with Psts:=y.Psts.set k { p with R:=r } } fr:=by
 have hk:=(zA.1 hx).1
 have hk':=(zA.1 hp).1
 refine ⟨?_,h.cfg,h.keys,h.flt,by simpa using h.rsl,h.tkl,h.ptn,h.gtn,fun e=>?_,h.apn,fun e=>?_,h.lan,h.trn,fun z hz=>?_,fun e he=>?_⟩
 · refine Heap.perm ?_ (a_s3 (k:=k) (x:=⟨x.i,nm,ns⟩) (p:= { p with R:=r }) (List.getElem?_set_self hk) (List.getElem?_set_self hk')).symm
   have e:z_5 id { L with rs:=L.rs.set k ⟨x.i,nm,ns⟩ } { y with Psts:=y.Psts.set k { p with R:=r } } k fr=z_5 id L y k fr:=by
     have e1:(L.rs.set k (⟨x.i,nm,ns⟩ :RR)).map (fun x=> [pO x.i]) =L.rs.map (fun x=> [pO x.i]):=by rw[b_6,f_q (by rw[zL,hx];rfl)]
     have e2:(y.Psts.set k { p with R:=r }).map (fun x=>Go.Fw.encI x.Stamp) =y.Psts.map (fun x=>Go.Fw.encI x.Stamp):=by rw[b_6,f_q (by rw[zL,hp];rfl)]
     unfold z_5 c_l f_f e_1
     simp only[zip2,a_xe,List.length_set,e1,e2]
   rw[e];exact hs
 · have:=h.rcn e
   rw[this] at hx;cases hx
 · have:=h.stn e
   rw[this] at hp;cases hp
 · rcases List.mem_or_eq_of_mem_set hz with hz | rfl
   · exact h.nmn z hz
   · exact hn
 · have he:e ∈ (L.rs.set k (⟨x.i,nm,ns⟩ :RR)).zip (y.Psts.set k { p with R:=r }):=he
   rw[zip2] at he
   rcases List.mem_or_eq_of_mem_set he with he | rfl
   · exact h.num e he
   · exact hb
theorem RyIn.rcAt (h:RyIn s id L y fr)(hl:L.rs.length < 2 ^ 60) :At prog s a_p (lsD L.rc L.rs.length) (L.rs.map fun x=> [pO x.i]):=by
 have:=t_5 (P:=prog) (s:=s) (t:=a_p) (o:=L.rc) (rows:=L.rs.map fun x=> [pO x.i]) (fun x hx=>h.lists (zD _ (zD _ (zE _ hx)))) (fun e=>by rw[h.rcn e];rfl) (by simpa using hl)
 rwa [zB] at this
theorem RyIn.stLive (h:RyIn s id L y fr){z:Nat × List (List D)}(hz:L.st=some z) :s z.1= .live a_e ((y.Psts.map fun x=>Go.Fw.encI x.Stamp) ++ z.2):=
 h.lists (x:=(z.1,_)) (zD _ (zD _ (zD _ (zD _ (zE _ (by rw[hz];exact List.mem_singleton.2 rfl))))))
theorem RyIn.apLive (h:RyIn s id L y fr){z:Nat × List (List D)}(hz:L.ap=some z) :s z.1= .live a_e ((y.Lps.map fun x=>Go.Fw.encI x.Asp) ++ z.2):=
 h.lists (x:=(z.1,_)) (zD _ (zD _ (zD _ (zE _ (by rw[hz];exact List.mem_singleton.2 rfl)))))
theorem a_z2 (h:RyIn s id L y fr)(hl:y.Lps.length < 2 ^ 60) :At prog s a_e (lsD L.ap y.Lps.length) (y.Lps.map fun x=>Go.Fw.encI x.Asp):=by
 have:=t_5 (P:=prog) (s:=s) (t:=a_e) (o:=L.ap) (rows:=y.Lps.map fun x=>Go.Fw.encI x.Asp) (fun x hx=>h.lists (zD _ (zD _ (zD _ (zE _ hx))))) (fun e=>by rw[h.apn e];rfl) (by simpa using hl)
 rwa [zB] at this
theorem a_z8 (h:RyIn s id L y fr)(hl:y.Psts.length < 2 ^ 60) :At prog s a_e (lsD L.st y.Psts.length) (y.Psts.map fun x=>Go.Fw.encI x.Stamp):=by
 have:=t_5 (P:=prog) (s:=s) (t:=a_e) (o:=L.st) (rows:=y.Psts.map fun x=>Go.Fw.encI x.Stamp) (fun x hx=>h.lists (zD _ (zD _ (zD _ (zD _ (zE _ hx)))))) (fun e=>by rw[h.stn e];rfl) (by simpa using hl)
 rwa [zB] at this
theorem a_ef (x:Th)(o:Int) :b_7 prog g_u (fun az _=>az=[.agg x.enc,iA o]) (fun az s r s'=>s'=s/\r= .a (.agg (x.order o).enc)):=
 a_f1 (F:=fun az r=>r= .a (.agg (x.order o).enc)) (by
   rintro az s rfl
   refine (a_gf x o).mono ?_
   rintro r s' ⟨rfl,rfl⟩
   exact ⟨rfl,rfl⟩) (fun az s _=>⟨_,rfl⟩) (by rintro az s j so hj hso rfl;rfl)
theorem RyIn.take (h:RyIn s id L y fr)(hw:Ywf y N)(oc:Int){t:List UInt8}(ht:t.length<=2 ^ 59) :
   DCalls prog i_d [.one (pO id),iA oc, .one (.str (ofL t))] s fun r s'=>r= .a (iA (y.take oc t).2)/\∃L',RyIn s' id L' (y.take oc t).1 fr:=by
 have hcl:=c_m hw.chk
 have hrl:=h.rsl
 have hp4:=hw.psts
 have hYt:y.take oc t=match a_n y.Psts oc with
   | none=>(y,20)
   | some p=>
     if (p.R.take y.Now t).2.2≠0 then (y,(p.R.take y.Now t).2.2) else
     match g_d p.H (p.R.take y.Now t).2.1 with
     | none=>({ y with Psts:=y.Psts.set oc.toNat { p with R:=(p.R.take y.Now t).1 } },3)
     | some o=>({ y with Psts:=y.Psts.set oc.toNat ⟨(p.R.take y.Now t).1,p.H,(p.R.take y.Now t).1.Last⟩,Pts:=f_c p.H.Pts o.Pos y.Pts,Gts:=e_9 p.H.Xs o.Shut y.Gts,Lps:=q_6 p.H.Sgs o.Asp y.Lps },0):=rfl
 refine y_m (pO id) oc (ofL t) s _ ?_
 intro R hR
 refine bcd (fun h0=>⟨?_,L,?_⟩) (fun h0=>bcd (fun h1=>⟨?_,L,?_⟩) (fun h1=>hR s ?_))
 · rw[hYt,a_5 h0]
 · rw[hYt,a_5 h0];exact h
 · rw[hYt,b_u (by omega)]
 · rw[hYt,b_u (by omega)];exact h
 clear hR R
 obtain ⟨k,rfl⟩:=zI (show 0<=oc by omega)
 obtain ⟨x,hx⟩:=a_c (l:=L.rs) (j:=k) (by omega)
 obtain ⟨p,hp⟩:=a_c (l:=y.Psts) (j:=k) (by omega)
 obtain ⟨w1,w2,w3,w4,w5⟩:=hw.pst k p hp
 have hk:=(zA.1 hx).1
 have hk':=(zA.1 hp).1
 rw[a_1,hp] at hYt
 have hYt : y.take (k : Int) t = if (p.R.take y.Now t).2.2 ≠ 0 then (y, (p.R.take y.Now t).2.2) else
     match g_d p.H (p.R.take y.Now t).2.1 with
     | none=>({ y with Psts:=y.Psts.set k { p with R:=(p.R.take y.Now t).1 } },3)
     | some o=>({ y with Psts:=y.Psts.set k ⟨(p.R.take y.Now t).1,p.H,(p.R.take y.Now t).1.Last⟩,Pts:=f_c p.H.Pts o.Pos y.Pts,Gts:=e_9 p.H.Xs o.Shut y.Gts,Lps:=q_6 p.H.Sgs o.Asp y.Lps },0):=hYt
 have hrx:(L.rs.map fun x=> [pO x.i])[k]? =some [pO x.i]:=by rw[zL,hx];rfl
 have H0:=h.heap.perm (a_s3 hx hp)
 refine ⟨trivial,_,_,_,rfl,_,a_d h.row,_,rfl,(h.rcAt (by omega)).load (j:=k) hrx k_7 rfl ⟨pO x.i,rfl,trivial,_,_,_,rfl,_,a_d h.row,y.Now,rfl,(a_h6 H0 (h.nmn x (zC hx)) (h.num (x,p) (zC (c_d hx hp))) hw.now.2 ht).mono ?_⟩⟩
 rintro r s1 ⟨rfl,nm,ns,H1,hn1,hb1⟩
 have hy1:=h.putRc hx hp H1 hn1 hb1
 refine ⟨_,_,rfl,bcn (fun he=>?_) (fun he=>?_)⟩
 · rw[hYt,if_pos he]
   have e1:y.Psts.set k ({ p with R:=p.R } :Pst) =y.Psts:=f_q hp
   rw[a_o7 he,e1] at hy1
   exact ⟨rfl,_,hy1⟩
 rw[hYt,if_neg (by rw[he];simp)]
 clear hYt
 obtain ⟨k1,k2⟩:=a_kb he
 generalize hr':(p.R.take y.Now t).1=r' at *
 generalize hb:(p.R.take y.Now t).2.1=b at *
 have hbl:b.length<=1000:=by rw[k2];exact a_wi t
 obtain ⟨l1,l2,l3⟩:=v_v y.C k
 have l1:p.H.Pts.length<=y.C.Secs.length:=by rw[w1];exact (l1 y.C.Secs 0).2
 have l2:p.H.Xs.length<=y.C.Xs.length:=by rw[w1];exact l2 y.C.Xs 0
 have l3:p.H.Sgs.length<=y.C.Sigs.length:=by rw[w1];exact l3 y.C.Sigs 0
 refine ⟨trivial,_,_,_,rfl,_,a_d hy1.row,L.c0,L.c1,L.c2,L.c3,L.c4,_,_,_,_,rfl,(a_fp h.cfg k (by omega) (by omega) (by omega)).mono ?_⟩
 rintro r s1' ⟨rfl,b0,b1,b2,b3,rfl,hsh⟩
 rw[<-w1] at hsh
 refine ⟨b0,b1,b2,b3,rfl,(s_n hsh (by omega) (by omega)).mono ?_⟩
 rintro r s2 ⟨rfl,⟨hn,rfl⟩ | ⟨o,d1,d2,d3,ho,rfl,hO⟩⟩
 · rw[hn]
   exact ⟨_,_,_,3,rfl,bcn (fun _=>⟨rfl,_,hy1⟩) (fun e=>by cases e)⟩
 rw[ho]
 obtain ⟨m1,m2,m3⟩:=a_iq ho
 obtain ⟨zs,hzs⟩ :∃z,L.st=some z:=by
   cases hz:L.st with
   | none=>rw[h.stn hz] at hp;cases hp
   | some z=>exact ⟨z,rfl⟩
 have hx1:(L.rs.set k (⟨x.i,nm,ns⟩ :RR))[k]? =some ⟨x.i,nm,ns⟩:=List.getElem?_set_self hk
 have hp1:(y.Psts.set k { p with R:=r' })[k]? =some { p with R:=r' } :=List.getElem?_set_self hk'
 have row1:=hy1.rcv hx1 hp1
 have hrx1:((L.rs.set k (⟨x.i,nm,ns⟩ :RR)).map fun x=> [pO x.i])[k]? =some [pO x.i]:=by rw[zL,hx1];rfl
 have hst:=hy1.stLive hzs
 have hstA:=a_z8 hy1 (by show (y.Psts.set k { p with R:=r' }).length < _;rw[List.length_set];omega)
 have hd:lsD L.st (y.Psts.set k { p with R:=r' }).length= .osl zs.1 0 (y.Psts.set k { p with R:=r' }).length:=by rw[hzs];rfl
 refine ⟨d1,d2,d3,0,rfl,bcn (fun e=>absurd rfl e) (fun _=>⟨trivial,_,_,_,rfl,_,a_d hy1.row,_,rfl,trivial,_,_,_,rfl,_,a_d hy1.row,_,rfl,(hy1.rcAt (by show (L.rs.set k _).length < _;rw[List.length_set];omega)).load (j:=k) hrx1 k_7 rfl ⟨pO x.i,rfl,trivial,_,_,_,rfl,_,a_d row1,r'.Last,rfl,hstA.idxK c_int rfl (by rw[zB,List.length_set];exact hk') ?_⟩⟩)⟩
 rw[zF]
 show a_k _ _ (lsD L.st (y.Psts.set k { p with R:=r' }).length) _ _ _
 rw[hd]
 refine b_m (row:=Go.Fw.encI p.Stamp) hst (by rw[List.length_set];exact hk') (by rw[zJ (by simpa using hk')];rw[zL,hp1];rfl) (by simp[Go.Fw.encI]) fun s3 h3 o3=>?_
 have hy3:=hy1.putSt (l:=y.Psts.set k ⟨r',p.H,r'.Last⟩) (by simp) (by
   show (((L.rs.set k (⟨x.i,nm,ns⟩ :RR)).zip (y.Psts.set k ⟨r',p.H,r'.Last⟩)).map rrE) =(((L.rs.set k (⟨x.i,nm,ns⟩ :RR)).zip (y.Psts.set k { p with R:=r' })).map rrE)
   rw[zip2,zip2,b_6,b_6];rfl) hzs (by
   rw[h3,List.set_append_left _ _ (by simpa using hk')]
   congr 2
   have e:∀(q:Pst),(y.Psts.set k q).map (fun x=>Go.Fw.encI x.Stamp) =(y.Psts.map fun x=>Go.Fw.encI x.Stamp).set k (Go.Fw.encI q.Stamp):=fun q=>b_6 _ _ _ _
   rw[e,e,List.set_set];rfl) (.of o3)
 have hy3:RyIn s3 id { L with rs:=L.rs.set k ⟨x.i,nm,ns⟩ } { y with Psts:=y.Psts.set k ⟨r',p.H,r'.Last⟩ } fr:=hy3
 clear row1 h3 o3 hy1 hp1 H1 H0 hstA hst hrx1 hrx hd hx1
 generalize hL':({ L with rs:=L.rs.set k ⟨x.i,nm,ns⟩ } :RL) =L' at hy3
 generalize hy':({ y with Psts:=y.Psts.set k ⟨r',p.H,r'.Last⟩ } :Yd) =y' at hy3
 have e1:y'.Pts=y.Pts:=by rw[<-hy']
 have e2:y'.Gts=y.Gts:=by rw[<-hy']
 have e3:y'.Lps=y.Lps:=by rw[<-hy']
 have hPts:∀i ∈ p.H.Pts,0<=i/\i < y.Pts.length:=fun i hi=>by
   rw[w1] at hi
   have:=y_r _ _ _ i hi
   have:=hw.pts
   omega
 have hXs:∀i ∈ p.H.Xs,0<=i/\i < y.Gts.length:=fun i hi=>by
   rw[w1] at hi
   have:=a_dj _ _ _ _ i hi
   have:=hw.gts
   omega
 have hSgs:∀i ∈ p.H.Sgs,0<=i/\i < y.Lps.length:=fun i hi=>by
   rw[w1] at hi
   have:=a_fs _ _ _ _ i hi
   have:=hw.lps
   omega
 have hpl:=hw.pts
 have hgl:=hw.gts
 have hll:=hw.lps
 refine (hsh.pts s3).lenK ⟨fun n s'=>∃(j:Nat) (P:List Th),n=j/\j<=p.H.Pts.length/\P.length=y.Pts.length/\RyIn s' id L' { y' with Pts:=P } fr/\f_c (p.H.Pts.drop j) (o.Pos.drop j) P=f_c p.H.Pts o.Pos y.Pts,fun n _=>p.H.Pts.length - n.toNat,⟨0,y.Pts,rfl,by omega,rfl,by rw[<-e1];exact hy3,rfl⟩,?_⟩
 rw[zB]
 rintro _ s4 ⟨j,P,rfl,hj,hPl,hy4,hE⟩
 refine bcd (fun hlt=>?_) (fun hge=>?_)
 · have hlt:j < p.H.Pts.length:=by omega
   obtain ⟨i,hi⟩:=a_c (l:=p.H.Pts) (j:=j) hlt
   obtain ⟨v,hv⟩:=a_c (l:=o.Pos) (j:=j) (by omega)
   obtain ⟨i0,i1⟩:=hPts i (zC hi)
   obtain ⟨q,rfl⟩:=zI i0
   obtain ⟨x,hx⟩:=a_c (l:=P) (j:=q) (by omega)
   have hdec:=a_v hlt
   rw[b_k hi,b_k hv,r_h] at hE
   refine (hsh.pts s4).load (a_g hi) c_int rfl ⟨(q:Int),rfl,(hO.pos s4).load (a_g hv) c_int rfl ⟨v,rfl,?_⟩⟩
   rw[a_i (by omega)]
   refine bcn (fun hne=>?_) (fun he0=>⟨by first | exact rfl | trivial,⟨j+1,P,rfl,hlt,hPl,hy4,by rw[if_neg (by rw[he0];simp)] at hE;exact hE⟩,hdec⟩)
   have hA:At prog s4 a_h (lsD L'.pt P.length) (P.map Th.enc):=a_ut hy4 (by show P.length < _;omega)
   obtain ⟨z,hz⟩ :∃z,L'.pt=some z:=by
     cases hz:L'.pt with
     | none=>have:=hy4.ptn hz;have e:P=[]:=this;rw[e] at hx;cases hx
     | some z=>exact ⟨z,rfl⟩
   have hql:=(zA.1 hx).1
   refine ⟨_,_,a_ef x v,trivial,_,_,_,rfl,_,a_d hy4.row,_,rfl,trivial,_,_,_,rfl,_,a_d hy4.row,_,rfl,hA.load (a_g hx) c_g rfl ⟨x.At,x.To,x.Left,rfl,(hO.pos s4).load (a_g hv) c_int rfl ⟨v,rfl,rfl,?_⟩⟩⟩
   rintro r s5 ⟨rfl,rfl⟩
   refine ⟨_,_,_,rfl,hA.idxK c_g rfl (by simpa using hql) ?_⟩
   rw[zF]
   have hd:lsD L'.pt P.length= .osl z.1 0 P.length:=by rw[hz];rfl
   show a_k _ _ (lsD L'.pt P.length) _ _ _
   rw[hd]
   refine b_m (hy4.ptLive hz) hql (by rw[zJ (by simpa using hql)];exact a_g hx) (by simp[Th.enc]) fun s6 h6 o6=>?_
   refine ⟨by first | exact rfl | trivial,⟨j+1,P.set q (x.order v),rfl,hlt,by simpa using hPl,hy4.putP (l:=P.set q (x.order v)) (by simp) hz (by rw[h6,List.set_append_left _ _ (by simpa using hql),b_6];rfl) (.of o6),?_⟩,hdec⟩
   rw[if_pos hne,zF,i_t hx] at hE
   exact hE
 have e:j=p.H.Pts.length:=by omega
 subst e
 rw[List.drop_length,v_d] at hE
 subst hE
 clear hge hj hy3
 generalize hPe:f_c p.H.Pts o.Pos y.Pts=P' at hy4
 refine (hsh.xs s4).lenK ⟨fun n s'=>∃(j:Nat) (P:List Th),n=j/\j<=p.H.Xs.length/\P.length=y.Gts.length/\RyIn s' id L' { y' with Pts:=P',Gts:=P } fr/\e_9 (p.H.Xs.drop j) (o.Shut.drop j) P=e_9 p.H.Xs o.Shut y.Gts,fun n _=>p.H.Xs.length - n.toNat,⟨0,y.Gts,rfl,by omega,rfl,by rw[<-e2];exact hy4,rfl⟩,?_⟩
 clear hy4 s4
 rw[zB]
 rintro _ s4 ⟨j,P,rfl,hj,hGl,hy4,hE⟩
 refine bcd (fun hlt=>?_) (fun hge=>?_)
 · have hlt:j < p.H.Xs.length:=by omega
   obtain ⟨i,hi⟩:=a_c (l:=p.H.Xs) (j:=j) hlt
   obtain ⟨v,hv⟩:=a_c (l:=o.Shut) (j:=j) (by omega)
   obtain ⟨i0,i1⟩:=hXs i (zC hi)
   obtain ⟨q,rfl⟩:=zI i0
   obtain ⟨x,hx⟩:=a_c (l:=P) (j:=q) (by omega)
   have hdec:=a_v hlt
   rw[b_k hi,b_k hv,r_r,zF,i_t hx] at hE
   have hA:At prog s4 a_h (lsD L'.gt P.length) (P.map Th.enc):=a_wc hy4 (by show P.length < _;omega)
   obtain ⟨z,hz⟩ :∃z,L'.gt=some z:=by
     cases hz:L'.gt with
     | none=>have:=hy4.gtn hz;have e:P=[]:=this;rw[e] at hx;cases hx
     | some z=>exact ⟨z,rfl⟩
   have hql:=(zA.1 hx).1
   refine (hsh.xs s4).load (a_g hi) c_int rfl ⟨(q:Int),rfl,_,_,a_ef x v,trivial,_,_,_,rfl,_,a_d hy4.row,_,rfl,trivial,_,_,_,rfl,_,a_d hy4.row,_,rfl,hA.load (a_g hx) c_g rfl ⟨x.At,x.To,x.Left,rfl,(hO.shut s4).load (a_g hv) c_int rfl ⟨v,rfl,rfl,?_⟩⟩⟩
   rintro r s5 ⟨rfl,rfl⟩
   refine ⟨_,_,_,rfl,hA.idxK c_g rfl (by simpa using hql) ?_⟩
   rw[zF]
   have hd:lsD L'.gt P.length= .osl z.1 0 P.length:=by rw[hz];rfl
   show a_k _ _ (lsD L'.gt P.length) _ _ _
   rw[hd]
   refine b_m (hy4.gtLive hz) hql (by rw[zJ (by simpa using hql)];exact a_g hx) (by simp[Th.enc]) fun s6 h6 o6=>?_
   rw[a_i (by omega)]
   exact ⟨by first | exact rfl | trivial,⟨j+1,P.set q (x.order v),rfl,hlt,by simpa using hGl,hy4.putG (l:=P.set q (x.order v)) (by simp) hz (by rw[h6,List.set_append_left _ _ (by simpa using hql),b_6];rfl) (.of o6),hE⟩,hdec⟩
 have e:j=p.H.Xs.length:=by omega
 subst e
 rw[List.drop_length,v_1] at hE
 subst hE
 clear hge hj
 generalize hGe:e_9 p.H.Xs o.Shut y.Gts=G' at hy4
 refine (hsh.sgs s4).lenK ⟨fun n s'=>∃(j:Nat) (P:List Lp),n=j/\j<=p.H.Sgs.length/\P.length=y.Lps.length/\RyIn s' id L' { y' with Pts:=P',Gts:=G',Lps:=P } fr/\q_6 (p.H.Sgs.drop j) (o.Asp.drop j) P=q_6 p.H.Sgs o.Asp y.Lps,fun n _=>p.H.Sgs.length - n.toNat,⟨0,y.Lps,rfl,by omega,rfl,by rw[<-e3];exact hy4,rfl⟩,?_⟩
 clear hy4 s4
 rw[zB]
 rintro _ s4 ⟨j,P,rfl,hj,hLl,hy4,hE⟩
 refine bcd (fun hlt=>?_) (fun hge=>?_)
 · have hlt:j < p.H.Sgs.length:=by omega
   obtain ⟨i,hi⟩:=a_c (l:=p.H.Sgs) (j:=j) hlt
   obtain ⟨v,hv⟩:=a_c (l:=o.Asp) (j:=j) (by omega)
   obtain ⟨i0,i1⟩:=hSgs i (zC hi)
   obtain ⟨q,rfl⟩:=zI i0
   obtain ⟨x,hx⟩:=a_c (l:=P) (j:=q) (by omega)
   have hdec:=a_v hlt
   rw[b_k hi,b_k hv,a_a9,zF,i_t hx] at hE
   have hA:At prog s4 a_e (lsD L'.ap P.length) (P.map fun x=>Go.Fw.encI x.Asp):=a_z2 hy4 (by show P.length < _;omega)
   obtain ⟨z,hz⟩ :∃z,L'.ap=some z:=by
     cases hz:L'.ap with
     | none=>have:=hy4.apn hz;have e:P=[]:=this;rw[e] at hx;cases hx
     | some z=>exact ⟨z,rfl⟩
   have hql:=(zA.1 hx).1
   refine (hsh.sgs s4).load (a_g hi) c_int rfl ⟨(q:Int),rfl,trivial,_,_,_,rfl,_,a_d hy4.row,_,rfl,(hO.asp s4).load (a_g hv) c_int rfl ⟨v,rfl,hA.idxK c_int rfl (by simpa using hql) ?_⟩⟩
   rw[zF]
   have hd:lsD L'.ap P.length= .osl z.1 0 P.length:=by rw[hz];rfl
   show a_k _ _ (lsD L'.ap P.length) _ _ _
   rw[hd]
   refine b_m (row:=Go.Fw.encI x.Asp) (hy4.apLive hz) hql (by rw[zJ (by simpa using hql)];exact a_g (f:=fun x:Lp=>Go.Fw.encI x.Asp) hx) (by simp[Go.Fw.encI]) fun s5 h5 o5=>?_
   rw[a_i (by omega)]
   refine ⟨by first | exact rfl | trivial,⟨j+1,P.set q { x with Asp:=v },rfl,hlt,by simpa using hLl,hy4.putAp (l:=P.set q { x with Asp:=v }) (by simp) ?_ hz ?_ (.of o5),hE⟩,hdec⟩
   · show (P.set q { x with Asp:=v }).map (fun x=>Go.Fw.encI x.Last) =P.map fun x=>Go.Fw.encI x.Last
     rw[b_6,f_q (by rw[zL,hx];rfl)]
   · rw[h5,List.set_append_left _ _ (by simpa using hql),b_6];rfl
 have e:j=p.H.Sgs.length:=by omega
 subst e
 rw[List.drop_length,a_gs] at hE
 subst hE
 refine ⟨rfl,L',?_⟩
 rw[<-hy'] at hy4
 subst hPe hGe
 exact hy4
end
end
section
variable {σ σ0:Store}
theorem set_set (s:Store)(i:Nat)(a b:SO) :(s.set i a).set i b=s.set i b:=by
 funext j
 by_cases e:j=i
 · subst e;rw[Store.set_same,Store.set_same]
 · rw[Store.set_ne _ _ e,Store.set_ne _ _ e,Store.set_ne _ _ e]
theorem a_c7 {s:Store}{z:Nat}{rows J:List (List D)}{k:Nat}(h:s z= .live a_m (rows ++ J))(hk:k < rows.length)(hsz:rows.length<=2 ^ 20) :
   DCalls prog f_m [.one (.osl z 0 rows.length),iA (k:Nat),iA ((k+1:Nat) :Int)] s fun r s'=>r= .a (.one (.osl z 0 (rows.length - 1)))/\∃J',s'=s.set z (.live a_m (rows.take k ++ rows.drop (k+1) ++ J')):=by
 have hA:At prog s a_m (.osl z 0 rows.length) rows:=o_p h rfl (by omega)
 have hx:=hA.sub (lo:=0) (hi:=k) (by omega) (by omega)
 have hy:=hA.sub (lo:=k+1) (hi:=rows.length) (by omega) (by omega)
 have ex:(rows.drop 0).take (k - 0) =rows.take k:=by simp
 have ey:(rows.drop (k+1)).take (rows.length - (k+1)) =rows.drop (k+1):=List.take_of_length_le (by simp)
 rw[ex] at hx
 rw[ey] at hy
 have lx:(rows.take k).length=k:=by simp;omega
 have ly:(rows.drop (k+1)).length=rows.length - (k+1):=by simp
 have fin : ∀ (s1 : Store) (R : List (List D)), s1 = s.set z (.live a_m (rows.take k ++ rows.drop (k + 1) ++ R)) -> 1 <= R.length -> rows.length <= (rows.take k ++ rows.drop (k + 1) ++ R).length ->
     ∀d,d= .osl z 0 (rows.length - 1)->∃len:Nat,Len d len/\∃n:Nat,Wide prog s1 d 2 n/\(0:Int)<=len/\(len:Int)<=(rows.length:Nat)/\((rows.length:Nat) :Int)<=n/\
       ∃rd,Fw.Rows prog s1 a_m (h_u d (Int.toNat (len:Int)) (Int.toNat ((rows.length:Nat) :Int))) rd/\((rd=[]/\(RV.a (.one d) = .a (.one (.osl z 0 (rows.length - 1)))/\∃J',s1=s.set z (.live a_m (rows.take k ++ rows.drop (k+1) ++ J'))))\/
         ∃id i0 len6 t rows',(h_u d (Int.toNat (len:Int)) (Int.toNat ((rows.length:Nat) :Int))) = .osl id i0 len6/\s1 id= .live t rows'/\
           (RV.a (.one d) = .a (.one (.osl z 0 (rows.length - 1)))/\∃J',s1.set id (.live t (rows'.take i0 ++ List.replicate len6 [.nils,iD 0] ++ rows'.drop (i0+len6))) =s.set z (.live a_m (rows.take k ++ rows.drop (k+1) ++ J')))):=by
   rintro s1 R rfl hR hlen d rfl
   have hs1:=Store.set_same s z (.live a_m (rows.take k ++ rows.drop (k+1) ++ R))
   have hl:(rows.take k ++ rows.drop (k+1)).length=rows.length - 1:=by rw[zP,lx,ly];omega
   refine ⟨rows.length - 1,rfl,rows.length,⟨z,0,_,_,_,rfl,hs1,b_4,by decide,by omega⟩,by omega,by omega,by omega,?_⟩
   rw[zF,zF]
   refine ⟨_,⟨_,_,hs1,rfl,by simp only[zP,List.length_drop,zR];omega,rfl⟩, .inr ⟨z,_,_,_,_,rfl,hs1,rfl,?_⟩⟩
   rw[set_set]
   have e0:0+ (rows.length - 1) =(rows.take k ++ rows.drop (k+1)).length:=by rw[hl];omega
   rw[e0,List.take_left' rfl]
   exact ⟨_,by rw[zK]⟩
 refine p_n _ _ _ s _ (hA.lenK (hA.lenK ⟨by omega,by omega,by omega,by omega,bce (fun e=>by omega) (fun _=>hA.lenK (hA.sliceK (lo:=0) (hi:=k) b_4 rfl rfl (by omega) (by omega) (hA.sliceFromK (lo:=k+1) b_4 rfl (by omega) ?_)))⟩))
 rw[zF,zF]
 refine ⟨_,_,hx.rows,hy.rows,by rw[lx,ly];omega,(by intro e;cases e),?_⟩
 rintro d s1 (⟨hn,rfl,rfl⟩ | ⟨⟨hne,hroom⟩,_⟩ | ⟨hne,id,i0,len,t,rows',e1,e2,rfl,rfl⟩)
 · have hkk : rows.length = k + 1 := by
     have:=congrArg List.length hn
     rw[ly] at this
     simp at this;omega
   refine fin _ (rows.drop k ++ J) ?_ (by simp only[zP,List.length_drop];omega) (by simp only[zP,List.length_drop,zR];omega) _ (by rw[hkk];rfl)
   rw[hn,zS,<-zK,List.take_append_drop]
   funext j
   by_cases e:j=z
   · subst e;rw[Store.set_same,h]
   · rw[Store.set_ne _ _ e]
 · refine absurd ⟨z,0,k,a_m,rows ++ J,by unfold h_u;rfl,h,by rw[b_4];decide,?_⟩ hroom
   rw[ly,zP];omega
 · have e1:D.osl z (0+0) (k - 0) = .osl id i0 len:=e1
   injection e1 with a1 a2 a3
   subst a1 a2 a3
   rw[h] at e2
   injection e2 with b1 b2
   subst b1 b2
   have hlt:k+ (rows.length - (k+1)) =rows.length - 1:=by omega
   refine fin _ ((rows ++ J).drop (0+0+ (k - 0) + (rows.drop (k+1)).length)) ?_ (by rw[List.length_drop,zP,ly];omega) ?_ _ ?_
   · have e3 : (rows ++ J).take (0 + 0 + (k - 0)) = rows.take k := by
       have:0+0+ (k - 0) =k:=by omega
       rw[this,List.take_append_of_le_length (by omega)]
     rw[e3]
   · simp only[zP,List.length_drop,zR];omega
   · congr 1
     rw[ly];omega
section
variable {s:Store} {id:Nat} {L:YL} {y:Yd} {fr:List (Nat × SO)} {N:Nat}
theorem a_sq {α β:Type}(l:List α)(m:List β)(k:Nat)(h:l.length=m.length) :(l.take k ++ l.drop (k+1)).zip (m.take k ++ m.drop (k+1)) =(l.zip m).take k ++ (l.zip m).drop (k+1):=by
 rw[List.zip_append (by simp[h])]
 simp only[List.zip_eq_zipWith,List.take_zipWith,List.drop_zipWith]
theorem a_sj {α β:Type}(f:α->β)(l:List α)(k:Nat) :(l.take k ++ l.drop (k+1)).map f=(l.map f).take k ++ (l.map f).drop (k+1):=by
 rw[List.map_append,List.map_take,List.map_drop]
theorem z_c {α:Type}(l:List α)(k:Nat) :(l.take k ++ l.drop (k+1)).Sublist l:=by
 conv=>rhs;rw[<-List.take_append_drop k l]
 refine List.Sublist.append (.refl _) ?_
 rw[<-List.drop_drop]
 exact List.drop_sublist _ _
theorem a_lj {α:Type}{l:List α}{k:Nat}(h:k < l.length) :(l.take k ++ l.drop (k+1)).length=l.length - 1:=by
 simp;omega
theorem YdIn.leave (h:YdIn s id L y fr)(hw:Ywf y N)(hN:N<=2 ^ 43)(t:Int) :DCalls prog h_8 [.one (pO id),iA t] s fun r s'=>r= .a (iA (y.leave t).2)/\∃L',YdIn s' id L' (y.leave t).1 fr:=by
 have hY:y.leave t=match a_n y.Trs t with
   | none=>(y,30)
   | some t'=>
     if t'.Secs.length≠1\/((a_n y.C.Secs t'.hd).map Sec.Line).getD 0=0\/t'.Out≠1 then (y,29) else
     ({ y with Trs:=y.Trs.take t.toNat ++ y.Trs.drop (t.toNat+1) },0):=rfl
 refine y_o (pO id) t s _ (h.trainK hw t (fun hn=>?_) fun k tr x z e htr hx hz=>?_)
 · rw[hY,hn]
   exact ⟨_,rfl,true,rfl,⟨rfl,L,h⟩⟩
 subst e
 rw[a_1,htr,zF] at hY
 obtain ⟨hne,hlen,hsec⟩:=hw.tr tr (zC htr)
 have hr:=h.hrow hw hx htr hz rfl
 have hA:=h.tkAt hx htr (by omega)
 have hY : y.leave k =
     if tr.Secs.length≠1\/((a_n y.C.Secs tr.hd).map Sec.Line).getD 0=0\/tr.Out≠1 then (y,29) else
     ({ y with Trs:=y.Trs.take k ++ y.Trs.drop (k+1) },0):=hY
 refine ⟨_,rfl,false,rfl,trivial,_,_,_,rfl,_,hr,_,rfl,hA.lenK ?_⟩
 rw[zB]
 refine bcn (fun h1=>?_) (fun h1=>?_)
 · rw[hY,if_pos (.inl (by omega))];exact ⟨rfl,L,h⟩
 obtain ⟨a,ha⟩:=a_c (l:=tr.Secs) (j:=0) (by omega)
 have hhd:tr.hd=a:=by unfold Tr.hd;rw[List.head?_eq_getElem?,ha];rfl
 obtain ⟨sec,hsa⟩:=hsec a (zC ha)
 obtain ⟨g0,g1,g2⟩:=b_w hsa
 rw[hhd,hsa] at hY
 refine ⟨trivial,_,_,_,rfl,_,a_d h.row,_,rfl,trivial,_,_,_,rfl,_,hr,_,rfl,hA.load (j:=0) (a_g ha) c_int rfl ⟨a,rfl,(h.cfg s).secs.load (j:=a.toNat) (a_g g2) a_x (by omega) ⟨sec.Line,rfl,bce (fun h2=>?_) (fun h2=>⟨trivial,_,_,_,rfl,_,hr,tr.Out,rfl,bcn (fun h3=>?_) (fun h3=>⟨trivial,_,_,_,rfl,_,a_d h.row,_,rfl,?_⟩)⟩)⟩⟩⟩
 · rw[hY,if_pos (.inr (.inl h2))];exact ⟨rfl,L,h⟩
 · rw[hY,if_pos (.inr (.inr h3))];exact ⟨rfl,L,h⟩
 have hkl:=(zA.1 htr).1
 have h4:=hw.trs
 have hrl:((L.tk.zip y.Trs).map a_z).length=y.Trs.length:=by simp[h.tkl]
 have hT:trE L y=[(z.1, .live a_m ((L.tk.zip y.Trs).map a_z ++ z.2))]:=by unfold trE;rw[hz]
 have hd:trD L y.Trs.length= .osl z.1 0 y.Trs.length:=by unfold trD;rw[hz]
 rw[hd,a_i (by omega),<-hrl]
 refine (a_c7 (h.trd hz) (by rw[hrl];exact hkl) (by rw[hrl];omega)).mono ?_
 rintro r s1 ⟨rfl,J',rfl⟩
 refine ⟨_,rfl,trivial,_,_,_,rfl,?_⟩
 have H0:Heap s ((b_i id L y ++ ((L.ps.zip y.Psts).map g_e ++ (L.ps.zip y.Psts).map l_0)) ++ trE L y ++ ((L.tk.zip y.Trs).map tkE ++ fr)):=by
   have:=h.heap;unfold b_8 at this;simpa only[zK] using this
 have H1:=Heap.put (s':=s.set z.1 (.live a_m (((L.tk.zip y.Trs).map a_z).take k ++ ((L.tk.zip y.Trs).map a_z).drop (k+1) ++ J'))) H0 (k:=0) (i:=z.1) (by rw[hT];rfl) (Store.set_same _ _ _) (by intro e;cases e) fun j hj _=>Store.set_ne _ _ hj
 rw[hT,List.set_cons_zero] at H1
 have H2:=Heap.sub (l':=(b_i id L y ++ ((L.ps.zip y.Psts).map g_e ++ (L.ps.zip y.Psts).map l_0)) ++ [(z.1, .live a_m (((L.tk.zip y.Trs).map a_z).take k ++ ((L.tk.zip y.Trs).map a_z).drop (k+1) ++ J'))] ++ ((((L.tk.zip y.Trs).map tkE).take k ++ ((L.tk.zip y.Trs).map tkE).drop (k+1)) ++ fr)) H1
   (List.Sublist.append (.refl _) (List.Sublist.append (z_c _ _) (.refl _)))
 rw[m_e] at H2
 simp only[zK,List.cons_append,List.nil_append] at H2
 rw[zK]
 refine H2.row (off:=0+14) (by simp[g_q]) fun s5 H5 _=>?_
 rw[hY,if_neg (by rintro (g | g | g);exact g (by omega);exact h2 g;exact g h3)]
 refine ⟨rfl,{ L with trd:=some (z.1,J'),tk:=L.tk.take k ++ L.tk.drop (k+1) },?_,h.cfg,h.keys,h.flt,h.psl,h.sh,by simp[h.tkl],fun e=>(by cases e)⟩
 have hzip:=a_sq L.tk y.Trs k h.tkl
 have e : b_8 id { L with trd := some (z.1, J'), tk := L.tk.take k ++ L.tk.drop (k + 1) } { y with Trs := y.Trs.take k ++ y.Trs.drop (k + 1) } fr =
     (id, .live a_y [patch (g_q L y) (0+14) [.osl z.1 0 (((L.tk.zip y.Trs).map a_z).length - 1)]]) :: (a_fo L y ++ ((L.ps.zip y.Psts).map g_e ++ ((L.ps.zip y.Psts).map l_0 ++ ((z.1, .live a_m (((L.tk.zip y.Trs).map a_z).take k ++ (((L.tk.zip y.Trs).map a_z).drop (k+1) ++ J'))) :: (((L.tk.zip y.Trs).map tkE).take k ++ (((L.tk.zip y.Trs).map tkE).drop (k+1) ++ fr)))))):=by
   unfold b_8
   rw[m_e]
   unfold g_q trE trD
   simp only[hzip,a_sj,a_lj hkl,hrl,zK,List.cons_append,List.nil_append]
   rfl
 rw[e];exact H5
theorem Ywf.leave (hw:Ywf y N)(t:Int) :Ywf (y.leave t).1 N:=by
 unfold Yd.leave
 split
 · exact hw
 · split
   · exact hw
   · refine ⟨hw.chk,hw.pts,hw.gts,hw.lps,hw.psts,hw.pst,?_,fun t ht=>hw.tr t ((z_c _ _).subset ht),hw.now,hw.last,hw.left⟩
     have:=hw.trs
     have:=(z_c y.Trs t.toNat).length_le
     show (y.Trs.take t.toNat ++ y.Trs.drop (t.toNat+1)).length<=4
     omega
end
end
section
variable {σ σ0:Store}
def l_p {α:Type}(l:List α)(k j:Nat) :List α:=(l.take j).take k ++ (l.take j).drop (k+1)
theorem a_fj {α:Type}(l:List α)(k:Nat) :l_p l k 0=[]:=by simp[l_p]
theorem a_rk {α:Type}(l:List α)(k:Nat) :l_p l k l.length=l.take k ++ l.drop (k+1):=by unfold l_p;rw[zT]
theorem a_wu {α:Type}{l:List α}{k j:Nat}{r:α}(h:l[j]? =some r)(hne:j≠k) :l_p l k (j+1) =l_p l k j ++ [r]:=by
 have hl:(l.take j).length=j:=by rw[zR];have:=(zA.1 h).1;omega
 unfold l_p
 rw[zQ,h,Option.toList_some]
 generalize l.take j=m at hl ⊢
 by_cases hlt:j < k
 · rw[List.take_of_length_le (by simp;omega),List.drop_of_length_le (by simp;omega),List.take_of_length_le (i:=k) (l:=m) (by omega),List.drop_of_length_le (l:=m) (by omega),zS,zS]
 · rw[List.take_append_of_le_length (by omega),List.drop_append_of_le_length (by omega),zK]
theorem a_vf {α:Type}{l:List α}{k:Nat}{r:α}(h:l[k]? =some r) :l_p l k (k+1) =l_p l k k:=by
 have hl:(l.take k).length=k:=by rw[zR];have:=(zA.1 h).1;omega
 unfold l_p
 rw[zQ,h,Option.toList_some]
 generalize l.take k=m at hl ⊢
 rw[List.take_append_of_le_length (by omega),List.drop_of_length_le (by simp;omega),List.drop_of_length_le (l:=m) (by omega)]
theorem a_tz {α:Type}(l:List α)(k j:Nat) :(l_p l k j).length<=l.length:=by
 unfold l_p
 have:=(z_c (l.take j) k).length_le
 rw[zR] at this
 omega
section
variable {s:Store} {id:Nat} {L:RL} {y:Yd} {fr:List (Nat × SO)} {N:Nat}
theorem RyIn.sub (h:RyIn s id L y fr){s':Store}(H:Heap s' (c_9 id L y fr)) :RyIn s' id L y fr:=⟨H,h.cfg,h.keys,h.flt,h.rsl,h.tkl,h.ptn,h.gtn,h.rcn,h.apn,h.stn,h.lan,h.trn,h.nmn,h.num⟩
theorem RyIn.leave (h:RyIn s id L y fr)(hw:Ywf y N)(hN:N<=2 ^ 43)(t:Int) :DCalls prog h_g [.one (pO id),iA t] s fun r s'=>r= .a (iA (y.leave t).2)/\∃L',RyIn s' id L' (y.leave t).1 fr:=by
 have hY:y.leave t=match a_n y.Trs t with
   | none=>(y,30)
   | some t'=>
     if t'.Secs.length≠1\/((a_n y.C.Secs t'.hd).map Sec.Line).getD 0=0\/t'.Out≠1 then (y,29) else
     ({ y with Trs:=y.Trs.take t.toNat ++ y.Trs.drop (t.toNat+1) },0):=rfl
 have hT:=h.trAt hw
 have hl:((L.tk.zip y.Trs).map a_z).length=y.Trs.length:=by simp[h.tkl]
 have h4:=hw.trs
 refine v_w (pO id) t s _ ?_
 intro R hR
 refine bcd (fun h1=>⟨by rw[hY,a_5 h1],L,by rw[hY,a_5 h1];exact h⟩) (fun h1=>⟨trivial,_,_,_,rfl,_,a_d h.row,_,rfl,hT.lenK ?_⟩)
 rw[hl]
 refine bcd (fun h2=>⟨by rw[hY,b_u h2],L,by rw[hY,b_u h2];exact h⟩) (fun h2=>hR s ?_)
 clear hR R
 obtain ⟨k,rfl⟩:=zI (show 0<=t by omega)
 obtain ⟨tr,htr⟩:=a_c (l:=y.Trs) (j:=k) (by omega)
 obtain ⟨x,z,hx,hz,hrw⟩:=h.have1 htr
 rw[a_1,htr,zF] at hY
 obtain ⟨hne,hlen,hsec⟩:=hw.tr tr (zC htr)
 have hA:=h.tkAt hx htr (by omega)
 have hY : y.leave k =
     if tr.Secs.length≠1\/((a_n y.C.Secs tr.hd).map Sec.Line).getD 0=0\/tr.Out≠1 then (y,29) else
     ({ y with Trs:=y.Trs.take k ++ y.Trs.drop (k+1) },0):=hY
 refine ⟨trivial,_,_,_,rfl,_,a_d h.row,_,rfl,hT.load hrw b_4 rfl ⟨.osl x.1 0 tr.Secs.length,tr.Out,rfl,fun R1 hR1=>hA.lenK ?_⟩⟩
 rw[zB]
 refine bcn (fun h1=>?_) (fun h1=>?_)
 · rw[hY,if_pos (.inl (by omega))];exact ⟨rfl,L,h⟩
 obtain ⟨a,ha⟩:=a_c (l:=tr.Secs) (j:=0) (by omega)
 have hhd:tr.hd=a:=by unfold Tr.hd;rw[List.head?_eq_getElem?,ha];rfl
 obtain ⟨sec,hsa⟩:=hsec a (zC ha)
 obtain ⟨g0,g1,g2⟩:=b_w hsa
 rw[hhd,hsa] at hY
 refine ⟨trivial,_,_,_,rfl,_,a_d h.row,L.c0,rfl,hA.load (j:=0) (a_g ha) c_int rfl ⟨a,rfl,(h.cfg s).secs.load (j:=a.toNat) (a_g g2) a_x (by omega) ⟨sec.Line,rfl,bce (fun h2=>?_) (fun h2=>bcn (fun h3=>?_) (fun h3=>hR1 s ?_))⟩⟩⟩
 · rw[hY,if_pos (.inr (.inl h2))];exact ⟨rfl,L,h⟩
 · rw[hY,if_pos (.inr (.inr h3))];exact ⟨rfl,L,h⟩
 clear hR1 R1
 have hkl:=(zA.1 htr).1
 rw[hY,if_neg (by rintro (g | g | g);exact g (by omega);exact h2 g;exact g h3)]
 clear hY
 generalize hrows:(L.tk.zip y.Trs).map a_z=rows at hT hl hrw
 refine ⟨trivial,_,_,_,rfl,_,a_d h.row,_,rfl,hT.lenK ?_⟩
 rw[hl]
 refine ⟨fun d n s'=>∃(j:Nat) (o:Option (Nat × List (List D))),n=j/\j<=y.Trs.length/\d=b_r o (l_p rows k j).length/\(o=none->l_p rows k j=[])/\Heap s' (c_q a_m o (l_p rows k j) ++ c_9 id L y fr),fun _ n _=>y.Trs.length - n.toNat,
   ⟨0,none,rfl,by omega,by rw[a_fj];rfl,fun _=>a_fj _ _,h.heap⟩,?_⟩
 rintro d _ s2 ⟨j,o,rfl,hj,rfl,hon,H⟩
 have h2:RyIn s2 id L y fr:=h.sub (H.sub (List.sublist_append_right _ _))
 have hT2:=h2.trAt hw
 rw[hrows] at hT2
 have hcl:=a_tz rows k j
 refine bcd (fun hlt=>?_) (fun hge=>?_)
 · have hlt:j < y.Trs.length:=by omega
   obtain ⟨tj,htj⟩:=a_c (l:=y.Trs) (j:=j) hlt
   obtain ⟨xj,_,hxj,_,hrj⟩:=h.have1 htj
   rw[hrows] at hrj
   have hdec:=a_v hlt
   refine hT2.load hrj b_4 rfl ⟨.osl xj.1 0 tj.Secs.length,tj.Out,rfl,?_⟩
   rw[a_i (by omega)]
   refine bcn (fun hne=>?_) (fun he=>?_)
   · refine a_f fun id1 s3 hid1 _ he1 hs3=>?_
     refine f_r (el:=a_m) (bytes:=32) (r:= [.osl xj.1 0 tj.Secs.length,iD tj.Out]) (H.ext he1) hon rfl (by omega) (At.fresh hs3 (by simp) rfl) (by omega) ?_
     intro s4 z4 H4
     have e:=a_wu (k:=k) hrj (by omega)
     refine ⟨⟨j+1,some z4,rfl,hlt,by rw[e];simp,fun e=>(by cases e),by rw[e];exact H4⟩,hdec⟩
   · have he:j=k:=by omega
     subst he
     rw[<-a_vf hrj] at hon H ⊢
     exact ⟨⟨j+1,o,rfl,hlt,rfl,hon,H⟩,hdec⟩
 have e:j=rows.length:=by omega
 subst e
 rw[a_rk] at hon H ⊢
 have hcut:(rows.take k ++ rows.drop (k+1)).length=(y.Trs.take k ++ y.Trs.drop (k+1)).length:=by rw[a_lj (by omega),a_lj hkl,hl]
 have H1:Heap s2 ((id, .live a_w [f_f L y]) :: (c_q a_m o (rows.take k ++ rows.drop (k+1)) ++ (c_q a_m L.tr rows ++ ((L.tk.zip y.Trs).map tkE ++ m_5 L y fr)))):=by
   refine H.perm (((m_d id L y fr).append_left _).trans (b_q fun a=>?_))
   rw[hrows]
   simp only[List.count_append,List.count_cons,List.count_nil]
   omega
 refine ⟨trivial,_,_,_,rfl,H1.row (off:=0+11) (by simp[f_f]) fun s5 H5 _=>?_⟩
 refine ⟨rfl,{ L with tr:=o,tk:=L.tk.take k ++ L.tk.drop (k+1) },?_,h.cfg,h.keys,h.flt,h.rsl,by simp[h.tkl],h.ptn,h.gtn,h.rcn,h.apn,h.stn,h.lan,fun e=>?_,h.nmn,h.num⟩
 · have hzip:=a_sq L.tk y.Trs k h.tkl
   refine Heap.perm ?_ (m_d id { L with tr:=o,tk:=L.tk.take k ++ L.tk.drop (k+1) } { y with Trs:=y.Trs.take k ++ y.Trs.drop (k+1) } fr).symm
   have er:f_f { L with tr:=o,tk:=L.tk.take k ++ L.tk.drop (k+1) } { y with Trs:=y.Trs.take k ++ y.Trs.drop (k+1) } =patch (f_f L y) (0+11) [b_r o (rows.take k ++ rows.drop (k+1)).length]:=by
     unfold f_f
     rw[hcut,<-a_dp]
     rfl
   have ez:m_5 { L with tr:=o,tk:=L.tk.take k ++ L.tk.drop (k+1) } { y with Trs:=y.Trs.take k ++ y.Trs.drop (k+1) } fr=m_5 L y fr:=rfl
   rw[er,ez]
   simp only[hzip,a_sj,hrows]
   have H6:=H5.sub (l':=(id, .live a_w [patch (f_f L y) (0+11) [b_r o (rows.take k ++ rows.drop (k+1)).length]]) :: (c_q a_m o (rows.take k ++ rows.drop (k+1)) ++ ((((L.tk.zip y.Trs).map tkE).take k ++ ((L.tk.zip y.Trs).map tkE).drop (k+1)) ++ m_5 L y fr)))
     (.cons_cons _ (List.Sublist.append (.refl _) ((List.Sublist.append (z_c _ _) (.refl _)).trans (List.sublist_append_right _ _))))
   refine H6.perm (b_q fun a=>?_)
   simp only[List.count_append,List.count_cons,List.count_nil]
   omega
 · have:=hon e
   have hz:=congrArg List.length this
   rw[hcut] at hz
   exact List.eq_nil_of_length_eq_zero hz
end
end
section
variable {σ:Store}
theorem j_n {d:D}{l:List Int}(n:Int)(h:At prog σ a_e d (l.map Go.Fw.encI)) :Pure prog d_r [.one d,iA n] σ (.a (bA (inL l n))):=by
 have hs:=h.size
 rw[zB] at hs
 refine a_rg d n σ _ (h.lenK ⟨fun m s=>s=σ/\Rng l (fun r=>inL r n=inL l n) m,fun m _=>l.length - m.toNat,⟨rfl, .start rfl⟩,?_⟩)
 rintro m s ⟨rfl,hr⟩
 refine bcd (fun hlt=>?_) (fun hge=>⟨?_,rfl⟩)
 · obtain ⟨j,x,rfl,hx,hj,hF,nx⟩:=hr.step (by simp) hs hlt
   refine h.load (a_g hx) c_int rfl ⟨x,rfl,bce (fun e=>⟨?_,rfl⟩) (fun e=>i_r rfl (nx (fun r=>inL r n=inL l n) ?_))⟩
   · rw[<-hF,inL,e,decide_eq_true (by simp)]
   · rw[<-hF,inL,inL];exact decide_eq_decide.2 (by simp[Ne.symm e])
 · rw[<-hr.done (by simp) hge];rfl
theorem l_5 {d:D}{path:List St}(h:∀s,At prog s f_k d (path.map St.enc))(hb:24 * path.length<=140737488355328) :
   DCalls prog d_o [.one d] σ (f_n σ a_e ((path.map St.Sec).map Go.Fw.encI)):=by
 have hs:=(h σ).size
 rw[zB] at hs
 refine (a_ai d σ _ ?_).ret (Q:=fun r s=>∃r' σ',Ret prog σ s r σ' r'/\f_n σ a_e ((path.map St.Sec).map Go.Fw.encI) r' σ') (fun r s h=>h)
 refine (h σ).lenK ⟨fun d n s=>∃j:Nat,n=j/\j<=path.length/\Own prog σ s a_e d (((path.take j).map St.Sec).map Go.Fw.encI),fun _ n _=>path.length - n.toNat,⟨0,rfl,by omega, .nil _ (.refl _)⟩,?_⟩
 rintro d1 _ s ⟨j,rfl,hj,ho⟩
 rw[zB]
 refine bcd (fun hlt=>?_) (fun hge=>?_)
 · obtain ⟨x,hx⟩:=a_c (l:=path) (j:=j) (by omega)
   refine (h s).load (a_g hx) q_g rfl ⟨x.Sec,x.In,x.Out,rfl,a_f fun id s2 hid _ he hs2=>?_⟩
   have hl:(((path.take j).map St.Sec).map Go.Fw.encI).length=j:=by simp;omega
   refine (ho.ext' he).append (At.fresh hs2 (by simp) rfl) (by simp;omega) (by simp;omega) fun d4 s5 ho5 _ _=>?_
   rw[a_i (by omega)]
   refine ⟨⟨j+1,rfl,by omega,?_⟩,by show path.length - ((j+1:Nat) :Int).toNat < path.length - ((j:Nat) :Int).toNat;omega⟩
   have e:path.take (j+1) =path.take j ++ [x]:=by rw[zQ,hx];rfl
   rw[e,List.map_append,List.map_append];exact ho5
 · have e:j=path.length:=by omega
   rw[e,zT] at ho
   exact g_0 ho (g_c _)
section
variable {c0 c1 c2 c3 c4:D} {c:Cf}
theorem i_8 (h:CfAt σ c0 c1 c2 c3 c4 c)(s:Int) :Pure prog f_7 [cfA c0 c1 c2 c3 c4 c,iA s] σ (.a (iA (a_f4 c s))):=by
 refine a_j5 _ _ _ _ _ _ _ _ _ s σ _ (bcd (fun h1=>⟨by rw[l_z (a_5 h1)],rfl⟩) (fun h1=>h.secs.lenK (bcd (fun h2=>⟨by rw[zB] at h2;rw[l_z (b_u h2)],rfl⟩) (fun h2=>?_))))
 rw[zB] at h2
 obtain ⟨x,hx⟩:=a_c (l:=c.Secs) (j:=s.toNat) (by omega)
 refine h.secs.load (a_g hx) a_x (by omega) ⟨x.Kind,rfl,?_,rfl⟩
 rw[i_4 (y:=x) (by unfold a_n;rw[if_neg h1,hx])]
theorem x_n (h:CfAt σ c0 c1 c2 c3 c4 c)(i:Int) :Pure prog i_w [cfA c0 c1 c2 c3 c4 c,iA i] σ (.a (iA (c.Approach i))):=by
 obtain ⟨rows,hr,hl⟩:=a_xx h
 refine z_9 _ _ _ _ _ _ _ _ _ i σ _ (bcd (fun h1=>⟨by rw[Cf.Approach,a_5 h1];rfl,rfl⟩) (fun h1=>hr.lenK (bcd (fun h2=>⟨by rw[hl] at h2;rw[Cf.Approach,b_u h2];rfl,rfl⟩) (fun h2=>?_))))
 rw[hl] at h2
 obtain ⟨x,hx⟩:=a_c (l:=c.Rts) (j:=i.toNat) (by omega)
 have hg:a_n c.Rts i=some x:=by unfold a_n;rw[if_neg h1,hx]
 have hA:c.Approach i=c.approach x:=by rw[Cf.Approach,hg];rfl
 rw[hA]
 obtain ⟨rows',hr',_,d1,d2,d3,hrow,_⟩:=a_ya h hx
 refine hr'.load hrow s_d (by omega) ⟨_,rfl,bcd (fun h3=>⟨by rw[Cf.approach,a_5 h3];rfl,rfl⟩) (fun h3=>hr'.load hrow s_d (by omega) ⟨_,rfl,h.sigs.lenK (bcd (fun h4=>⟨?_,rfl⟩) (fun h4=>hr'.load hrow s_d (by omega) ⟨_,rfl,?_⟩))⟩)⟩
 · rw[zB] at h4;rw[Cf.approach,b_u h4];rfl
 · rw[zB] at h4
   obtain ⟨y,hy⟩:=a_c (l:=c.Sigs) (j:=x.Entry.toNat) (by omega)
   refine h.sigs.load (a_g hy) d_b (by omega) ⟨y.Sec,rfl,?_,rfl⟩
   rw[Cf.approach,show a_n c.Sigs x.Entry=some y by unfold a_n;rw[if_neg h3,hy]];rfl
theorem a_bu (h:CfAt σ c0 c1 c2 c3 c4 c)(sec e but:Int) :Pure prog o_i [cfA c0 c1 c2 c3 c4 c,iA sec,iA e,iA but] σ (.a (bA (atB sec e but c.Sigs 0))):=by
 have hs:=h.sigs.size
 rw[zB] at hs
 refine a_ra _ _ _ _ _ _ _ _ _ sec e but σ _ (h.sigs.lenK ⟨fun m s=>s=σ/\Rng c.Sigs (fun r=>atB sec e but r m.toNat=atB sec e but c.Sigs 0) m,fun m _=>c.Sigs.length - m.toNat,⟨rfl, .start rfl⟩,?_⟩)
 rintro m s ⟨rfl,hr⟩
 refine bcd (fun hlt=>?_) (fun hge=>⟨?_,rfl⟩)
 · obtain ⟨j,x,rfl,hx,hj,hF,nx⟩:=hr.step (by simp) hs hlt
   rw[atB,zF] at hF
   have hw:(w64 ((j:Int) +1)).toNat=j+1:=by rw[a_i (by omega)];omega
   have go:(decide (x.Sec=sec) && decide (x.End_=e) && decide ((j:Int)≠but)) =false->(s=s/\Rng c.Sigs (fun r=>atB sec e but r (w64 ((j:Int) +1)).toNat=atB sec e but c.Sigs 0) (w64 ((j:Int) +1)))/\c.Sigs.length - (w64 ((j:Int) +1)).toNat < c.Sigs.length - (j:Int).toNat:=by
     intro hn
     rw[hn,Bool.false_or] at hF
     exact i_r rfl (nx (fun r=>atB sec e but r (w64 ((j:Int) +1)).toNat=atB sec e but c.Sigs 0) (by rw[hw];exact hF))
   refine h.sigs.load (a_g hx) d_b rfl ⟨x.Sec,x.End_,rfl,bce (fun h1=>bce (fun h2=>bcn (fun h3=>⟨?_,rfl⟩) (fun h3=>go (by simp[h3]))) (fun h2=>go (by simp[h2]))) (fun h1=>go (by simp[h1]))⟩
   rw[<-hF,decide_eq_true h1,decide_eq_true h2,decide_eq_true h3];rfl
 · rw[<-hr.done (by simp) hge];rfl
theorem a_ay (h:CfAt σ c0 c1 c2 c3 c4 c) :Pure prog j_u [cfA c0 c1 c2 c3 c4 c] σ (.a (bA c.sigsOk)):=by
 have hs:=h.sigs.size
 rw[zB] at hs
 have no:∀(i:Nat) (x:Sg),c.Sigs[i]? =some x->¬((nxt c.Jts x.Sec x.End_).isSome=true/\atB x.Sec x.End_ i c.Sigs 0=false)->c.sigsOk=false:=fun i x hi hn=>by
   unfold Cf.sigsOk
   cases hb:m_a c.Jts c.Sigs [] with
   | false=>rfl
   | true=>exact absurd ((a_oq c).2 hb i x hi) hn
 refine a_db _ _ _ _ _ _ _ _ _ σ _ (h.sigs.lenK ⟨fun m s=>s=σ/\∃j:Nat,m=j/\j<=c.Sigs.length/\∀(i:Nat) (x:Sg),i < j->c.Sigs[i]? =some x->(nxt c.Jts x.Sec x.End_).isSome=true/\atB x.Sec x.End_ i c.Sigs 0=false,fun m _=>c.Sigs.length - m.toNat,⟨rfl,0,rfl,by omega,fun i x hi=>by omega⟩,?_⟩)
 rintro _ s ⟨rfl,j,rfl,hj,hall⟩
 rw[zB]
 refine bcd (fun hlt=>?_) (fun hge=>h.sigs.lenK ⟨?_,rfl⟩)
 · have hlt:j < c.Sigs.length:=by omega
   obtain ⟨x,hx⟩:=a_c (l:=c.Sigs) (j:=j) (by omega)
   refine h.sigs.load (a_g hx) d_b rfl ⟨x.Sec,x.End_,rfl,(e_h x.Sec x.End_ h.jts).use (j_a _ (a_0 (fun e=>⟨by rw[no j x hx (fun g=>by rw[g.1] at e;cases e)],rfl⟩) (fun e=>(a_bu h x.Sec x.End_ j).use ⟨_,rfl,bc (fun e2=>⟨by rw[no j x hx (fun g=>by rw[g.2] at e2;cases e2)],rfl⟩) (fun e2=>?_)⟩)))⟩
   rw[a_i (by omega)]
   refine ⟨⟨rfl,j+1,rfl,by omega,fun i y hi hy=>?_⟩,a_v hlt⟩
   by_cases hij:i=j
   · subst hij;rw[hx] at hy;cases hy;exact ⟨e,e2⟩
   · exact hall i y (by omega) hy
 · rw[zB]
   have:m_a c.Jts c.Sigs []=true:=(a_oq c).1 fun i x hi=>hall i x (by have:=(zA.1 hi).1;omega) hi
   rw[Cf.sigsOk,this,Bool.true_and]
   congr 3
   exact decide_eq_decide.2 (by omega)
theorem u_n (h:CfAt σ c0 c1 c2 c3 c4 c)(ht:c_s c.Secs c.Jts=true) :Pure prog h_0 [cfA c0 c1 c2 c3 c4 c] σ (.a (bA c.xsOk)):=by
 have hs:=h.xs.size
 rw[zB] at hs
 have key:c.xsOk=true->∀(i:Nat) (x:Int),c.Xs[i]? =some x->(∃s,a_n c.Secs x=some s/\s.Line=0)/\x ∉ c.Xs.take i:=fun hb i x hi=>by
   rw[Cf.xsOk,zO,a_ej] at hb
   obtain ⟨⟨h1,h2,_⟩,_⟩:=hb
   refine ⟨h1 x (zC hi),fun hm=>?_⟩
   obtain ⟨j,hj⟩:=List.mem_iff_getElem?.1 hm
   rw[List.getElem?_take] at hj
   split at hj
   · rename_i hji
     obtain ⟨q1,q2⟩:=zA.1 hi
     obtain ⟨p1,p2⟩:=zA.1 hj
     have:=(List.getElem_inj (h₀:=q1) (h₁:=p1) h2).1 (by rw[q2,p2])
     omega
   · cases hj
 have no:∀(i:Nat) (x:Int),c.Xs[i]? =some x->¬((∃s,a_n c.Secs x=some s/\s.Line=0)/\x ∉ c.Xs.take i)->c.xsOk=false:=fun i x hi hn=>by
   cases hb:c.xsOk with
   | false=>rfl
   | true=>exact absurd (key hb i x hi) hn
 refine y_2 _ _ _ _ _ _ _ _ _ σ _ (h.xs.lenK ⟨fun m s=>s=σ/\∃j:Nat,m=j/\j<=c.Xs.length/\∀(i:Nat) (x:Int),i < j->c.Xs[i]? =some x->(∃s,a_n c.Secs x=some s/\s.Line=0)/\x ∉ c.Xs.take i,fun m _=>c.Xs.length - m.toNat,⟨rfl,0,rfl,by omega,fun i x hi=>by omega⟩,?_⟩)
 rintro _ s ⟨rfl,j,rfl,hj,hall⟩
 rw[zB]
 refine bcd (fun hlt=>?_) (fun hge=>h.xs.lenK ⟨?_,rfl⟩)
 · have hlt:j < c.Xs.length:=by omega
   obtain ⟨x,hx⟩:=a_c (l:=c.Xs) (j:=j) (by omega)
   refine h.xs.load (a_g hx) c_int rfl ⟨x,rfl,(i_8 h x).use ⟨_,rfl,?_⟩⟩
   cases hg:a_n c.Secs x with
   | none=>
     rw[l_z hg]
     exact bcd (fun _=>⟨by rw[no j x hx (fun g=>by obtain ⟨⟨s,q,_⟩,_⟩:=g;rw[hg] at q;cases q)],rfl⟩) (fun e=>absurd (by decide) e)
   | some y=>
     rw[i_4 hg]
     have hgi:=b_w hg
     have hget:c.Secs[x.toNat]? =some y:=hgi.2.2
     refine bcd (fun e=>absurd (a_ye ht hg).1 (by omega)) (fun _=>h.secs.load (a_g hget) a_x (by omega) ⟨y.Line,rfl,bcn (fun e=>⟨by rw[no j x hx (fun g=>by obtain ⟨⟨s,q,q2⟩,_⟩:=g;rw[hg] at q;cases q;exact e q2)],rfl⟩) (fun e=>h.xs.sliceK (lo:=0) (hi:=j) c_int rfl rfl (by omega) (by rw[zB];omega) ?_)⟩)
     have hsub:=h.xs.sub (lo:=0) (hi:=j) (by omega) (by rw[zB];omega)
     rw[List.drop_zero,Nat.sub_zero,<-List.map_take] at hsub
     refine (j_n x hsub).use ⟨_,rfl,bc (fun e2=>⟨by rw[no j x hx (fun g=>g.2 (zM e2))],rfl⟩) (fun e2=>?_)⟩
     rw[a_i (by omega)]
     refine ⟨⟨rfl,j+1,rfl,by omega,fun i y' hi hy=>?_⟩,a_v hlt⟩
     by_cases hij:i=j
     · subst hij;rw[hx] at hy;cases hy;exact ⟨⟨y,hg,e⟩,of_decide_eq_false e2⟩
     · exact hall i y' (by omega) hy
 · rw[zB]
   have:xrun c.Secs c.Xs []=true:=by
     rw[a_ej]
     refine ⟨fun x hx=>?_,?_,fun x _ hx=>by simp at hx⟩
     · obtain ⟨i,hi⟩:=List.mem_iff_getElem?.1 hx
       exact (hall i x (by have:=(zA.1 hi).1;omega) hi).1
     · rw[List.nodup_iff_pairwise_ne,List.pairwise_iff_getElem]
       intro i j' hi hj' hij e
       have:=(hall j' _ (by omega) (zH hj')).2
       apply this
       rw[List.mem_take_iff_getElem]
       exact ⟨i,by omega,e⟩
   rw[Cf.xsOk,this,Bool.true_and]
   congr 3
   exact decide_eq_decide.2 (by omega)
end
end
section
variable {σ:Store}
theorem y_e {a b:D}{la lb:List Int}(ha:At prog σ a_e a (la.map Go.Fw.encI))(hb:At prog σ a_e b (lb.map Go.Fw.encI)) :Pure prog i_5 [.one a, .one b] σ (.a (bA (decide (la=lb)))):=by
 have hs:=ha.size
 rw[zB] at hs
 refine z_y a b σ _ (ha.lenK (hb.lenK ?_))
 rw[zB,zB]
 refine bcn (fun hne=>⟨?_,rfl⟩) (fun he=>ha.lenK ?_)
 · rw[decide_eq_false (fun e=>hne (by rw[e]))]
 have hl:la.length=lb.length:=by omega
 rw[zB]
 refine ⟨fun n s=>s=σ/\EqR la lb n,fun n _=>la.length - n.toNat,⟨rfl, .start _ _⟩,?_⟩
 rintro n s ⟨rfl,hr⟩
 refine bcd (fun hlt=>?_) (fun hge=>⟨?_,rfl⟩)
 · obtain ⟨j,x,y,rfl,hx,hy,hn,hy2⟩:=hr.step hl rfl hs hlt
   refine ha.load (a_g hx) c_int rfl ⟨x,rfl,hb.load (a_g hy) c_int rfl ⟨y,rfl,bcn (fun e=>⟨?_,rfl⟩) (fun e=>i_r rfl (hy2 e))⟩⟩
   rw[decide_eq_false (hn e)]
 · rw[decide_eq_true (hr.done hl rfl hge)]
theorem v_4 {a b:D}{la lb:List Nd}(ha:At prog σ c_e a (la.map Nd.enc))(hb:At prog σ c_e b (lb.map Nd.enc)) :Pure prog h_9 [.one a, .one b] σ (.a (bA (decide (la=lb)))):=by
 have hs:=ha.size
 rw[zB] at hs
 refine z_j a b σ _ (ha.lenK (hb.lenK ?_))
 rw[zB,zB]
 refine bcn (fun hne=>⟨?_,rfl⟩) (fun he=>ha.lenK ?_)
 · rw[decide_eq_false (fun e=>hne (by rw[e]))]
 have hl:la.length=lb.length:=by omega
 rw[zB]
 refine ⟨fun n s=>s=σ/\EqR la lb n,fun n _=>la.length - n.toNat,⟨rfl, .start _ _⟩,?_⟩
 rintro n s ⟨rfl,hr⟩
 refine bcd (fun hlt=>?_) (fun hge=>⟨?_,rfl⟩)
 · obtain ⟨j,x,y,rfl,hx,hy,hn,hy2⟩:=hr.step hl rfl hs hlt
   refine ha.load (a_g hx) a_f6 rfl ⟨x.Sec,x.Pos,rfl,hb.load (a_g hy) a_f6 rfl ⟨y.Sec,y.Pos,rfl,a_0 (fun e=>⟨?_,rfl⟩) (fun e=>i_r rfl (hy2 ?_))⟩⟩
   · rw[decide_eq_false (hn fun g=>by rw[g] at e;simp at e)]
   · simp at e;cases x;cases y;simp at e;simp[e]
 · rw[decide_eq_true (hr.done hl rfl hge)]
section
variable {c0 c1 c2 c3 c4:D} {c:Cf} (h:∀s,CfAt s c0 c1 c2 c3 c4 c)
include h
theorem a_h5 (ht:c_s c.Secs c.Jts=true)(hsg:c.sigsOk=true)(r:Rt){d1 d2 d3:D}(hp:∀s,At prog s f_k d1 (r.Path.map St.enc)) :
   Pure prog o_t [cfA c0 c1 c2 c3 c4 c,rtA d1 d2 d3 r] σ (.a (bA (c.path r))):=by
 have hl:=(hp σ).size
 rw[zB] at hl
 refine .of (a_mj _ _ _ _ _ _ _ _ _ _ _ d1 d2 d3 _ σ _ ?_) (a_f8 _)
 intro R hR
 have no:c.path r=false->(RV.a (bA false) = .a (bA (c.path r))/\Ext σ σ):=fun e=>⟨by rw[e], .refl _⟩
 refine bcd (fun e=>no (by rw[Cf.path,a_5 e])) (fun e0=>(h σ).sigs.lenK ?_)
 rw[zB]
 refine bcd (fun e=>no (by rw[Cf.path,b_u e])) (fun e1=>?_)
 obtain ⟨a,hg⟩:=i_9 e0 e1
 have hpath:c.path r=((decide (r.Exit= -1) || (a_n c.Sigs r.Exit).isSome) && decide (1<=r.Path.length/\r.Path.length<=8) && t_3 c r (a_n c.Sigs r.Exit) r.Path a [a.Sec]):=by rw[Cf.path,hg]
 refine bcd (fun e=>no (by rw[hpath,a_5 (by omega),decide_eq_false (by omega)];rfl)) (fun e2=>(h σ).sigs.lenK ?_)
 rw[zB]
 refine bcd (fun e=>no (by rw[hpath,b_u e,decide_eq_false (by omega)];rfl)) (fun e3=>(hp σ).lenK ?_)
 rw[zB]
 refine bcd (fun e=>no (by rw[hpath,decide_eq_false (p:=1<=r.Path.length/\_) (by omega),Bool.and_false,Bool.false_and])) (fun e4=>(hp σ).lenK ?_)
 rw[zB]
 refine bcd (fun e=>no (by rw[hpath,decide_eq_false (p:=1<=r.Path.length/\_) (by omega),Bool.and_false,Bool.false_and])) (fun e5=>hR σ ?_)
 have hex1:(decide (r.Exit= -1) || (a_n c.Sigs r.Exit).isSome) =true:=by
   by_cases e:r.Exit= -1
   · rw[decide_eq_true e];rfl
   · obtain ⟨x,hx⟩:=i_9 (l:=c.Sigs) (i:=r.Exit) (by omega) e3
     rw[hx];simp
 rw[hex1,decide_eq_true (by omega),Bool.true_and,Bool.true_and] at hpath
 have hgs:=b_w hg
 refine (h σ).sigs.load (a_g hgs.2.2) d_b (by omega) ⟨a.Sec,a.End_,rfl,a_f fun id s1 hid _ he1 hs1=>(hp s1).lenK ?_⟩
 rw[zB]
 refine ⟨fun m e d n s=>∃seen:List Int,Own prog σ s a_e d (seen.reverse.map Go.Fw.encI)/\(seen.length:Int)<=n+1/\Rng r.Path (fun q=>t_3 c r (a_n c.Sigs r.Exit) q ⟨m,e⟩ seen=c.path r) n,fun _ _ _ n _=>r.Path.length - n.toNat,
   ⟨[a.Sec], .at_new hid he1 hs1 (by simp) rfl,by simp, .start hpath.symm⟩,?_⟩
 rintro m e d n s ⟨seen,ho,hsl,hr⟩
 refine bcd (fun hlt=>?_) (fun hge=>?_)
 · obtain ⟨j,x,rfl,hx,hj,hF,nx⟩:=hr.step rfl hl hlt
   intro R1 hR1
   refine (hp s).load (a_g hx) q_g rfl ⟨x.Sec,x.In,x.Out,rfl,(e_h m e (h s).jts).use (j_a _ ?_)⟩
   rw[t_3] at hF
   have hes:=ho.ext
   have bad:a_cd c r (a_n c.Sigs r.Exit) ⟨m,e⟩ x (r.Path.drop (j+1)).isEmpty seen=false->(RV.a (.one (.bool false)) = .a (bA (c.path r))/\Ext σ s):=fun hb=>by
     rw[hb] at hF
     exact ⟨by rw[<-hF];rfl,hes⟩
   have good:a_cd c r (a_n c.Sigs r.Exit) ⟨m,e⟩ x (r.Path.drop (j+1)).isEmpty seen=true->∀s' d',Own prog σ s' a_e d' ((x.Sec::seen).reverse.map Go.Fw.encI)->R1 x.Sec x.Out d' s':=fun hb s' d' ho'=>by
     rw[hb,Bool.true_and] at hF
     have hn:=nx (fun q=>t_3 c r (a_n c.Sigs r.Exit) q ⟨x.Sec,x.Out⟩ (x.Sec::seen) =c.path r) hF
     exact hR1 _ _ _ _ ⟨⟨x.Sec::seen,ho',by rw[a_i (by omega),List.length_cons];omega,hn.1⟩,hn.2⟩
   intro R2 hR2
   rw[a_cd] at bad good
   cases hn:nxt c.Jts m e with
   | none=>
     rw[hn] at bad
     exact a_0 (fun _=>bad rfl) (fun e=>by cases e)
   | some p=>
     obtain ⟨q,i⟩:=p
     rw[hn] at bad good hR2
     obtain ⟨y,hy⟩:=a_do ht hn
     simp only[hy,Option.getD_some] at bad good hR2 ⊢
     refine a_0 (fun e=>by cases e) (fun _=>bcn (fun k=>bad (by simp[k])) (fun k1=>bcn (fun k=>bad (by simp[k])) (fun k2=>(j_n q ho.at_).use ⟨_,rfl,bc (fun k=>bad ?_) (fun k3=>⟨trivial,hR2 s ?_⟩)⟩)))
     · have:q ∈ seen:=by simpa[inL] using k
       simp[this]
     have hq:q ∉ seen:=by simpa[inL] using k3
     refine (i_8 (h s) q).use ⟨_,rfl,(a_ko _ _ _).use (a_sd _ ?_)⟩
     rw[i_4 hy]
     intro R3 hR3
     have main:∀but,decide (a_n c.Sigs but=some ⟨x.Sec,x.Out⟩) =((r.Path.drop (j+1)).isEmpty && decide (a_n c.Sigs r.Exit=some ⟨x.Sec,x.Out⟩))->R3 but s:=fun but hbut=>hR3 but s (by
       intro R4 hR4
       refine a_0 (fun k=>bad (by rw[k];simp)) (fun k4=>(a_bu (h s) x.Sec x.Out but).use ⟨_,rfl,?_⟩)
       rw[a_za hsg,hbut]
       have hfin:(!(r.Shunt && decide (y.Line≠0))) =true->((c.Sigs.any fun z=>decide (⟨x.Sec,x.Out⟩ =z)) && !((r.Path.drop (j+1)).isEmpty && decide (a_n c.Sigs r.Exit=some ⟨x.Sec,x.Out⟩))) =false->R4 s:=fun g1 g2=>hR4 s (a_f fun id1 s2 hid1 _ he2 hs2=>(ho.ext' he2).append (At.fresh hs2 (by simp) rfl) (by simp;omega) (by simp;omega) fun d4 s5 ho5 _ _=>good (by
         rw[k4,g1,decide_eq_true k1,decide_eq_true k2,decide_eq_true hq]
         generalize (c.Sigs.any fun z=>decide (⟨x.Sec,x.Out⟩ =z)) =u at g2
         generalize ((r.Path.drop (j+1)).isEmpty && decide (a_n c.Sigs r.Exit=some ⟨x.Sec,x.Out⟩)) =w at g2
         cases u <;> cases w <;> first | rfl | cases g2) _ _ (by rw[List.reverse_cons,List.map_append,<-k1];exact ho5))
       refine bc (fun k=>bad ?_) (fun k5=>bc (fun k6=>(h s).secs.load (a_g (b_w hy).2.2) a_x (by have:=b_w hy;omega) ⟨y.Line,rfl,bcn (fun k7=>bad (by rw[k6];simp[k7])) (fun k7=>⟨trivial,hfin (by rw[k6];simp[k7]) k5⟩)⟩) (fun k6=>⟨trivial,hfin (by rw[k6];rfl) k5⟩))
       · generalize (c.Sigs.any fun z=>decide (⟨x.Sec,x.Out⟩ =z)) =u at k
         generalize ((r.Path.drop (j+1)).isEmpty && decide (a_n c.Sigs r.Exit=some ⟨x.Sec,x.Out⟩)) =w at k
         cases u <;> cases w <;> first | (simp;done) | cases k)
     refine (hp s).lenK ?_
     rw[zB,a_r (n:=(r.Path.length:Int) - 1) (by omega) (by omega)]
     refine bce (fun q1=>⟨trivial,main _ ?_⟩) (fun q1=>⟨trivial,main _ ?_⟩)
     · rw[e_c (by omega)];simp
     · have hemp : (r.Path.drop (j + 1)).isEmpty = false := by
         cases hd:r.Path.drop (j+1) with
         | nil=>rw[List.drop_eq_nil_iff] at hd;omega
         | cons y l=>rfl
       rw[hemp,a_5 (by omega)];simp
 · have hF:(match (generalizing:=false) a_n c.Sigs r.Exit with | some x=>decide ((⟨m,e⟩ :Sg) =x) | none=> !(nxt c.Jts m e).isSome) =c.path r:=hr.done rfl hge
   refine bcd (fun k1=>?_) (fun k1=>(e_h m e (h s).jts).use (j_a _ ⟨?_,ho.ext⟩))
   · obtain ⟨y,hy⟩:=i_9 (l:=c.Sigs) (i:=r.Exit) (by omega) e3
     rw[hy] at hF
     refine (h s).sigs.load (a_g (b_w hy).2.2) d_b (by omega) ⟨y.Sec,y.End_,rfl,?_,ho.ext⟩
     rw[<-hF]
     congr 3;rw[Bool.eq_iff_iff];cases y;simp;exact ⟨fun ⟨a,b⟩=>⟨a.symm,b.symm⟩,fun ⟨a,b⟩=>⟨a.symm,b.symm⟩⟩
   · rw[a_5 (by omega)] at hF
     rw[<-hF]
theorem a_ff (a:Int){pd:D}{path:List St}(hp:∀s,At prog s f_k pd (path.map St.enc))(hpl:path.length<=2 ^ 20) :
   DCalls prog n_a [cfA c0 c1 c2 c3 c4 c,iA a, .one pd] σ (f_n σ c_e ((c.flank a path).map Nd.enc)):=by
 refine (a_hg _ _ _ _ _ _ _ _ _ a pd σ _ ?_).ret (Q:=fun r s=>∃r' σ',Ret prog σ s r σ' r'/\f_n σ c_e ((c.flank a path).map Nd.enc) r' σ') (fun r s h=>h)
 refine (hp σ).lenK ⟨fun d d1 n s=>∃out:List Nd,Own prog σ s c_e d (out.map Nd.enc)/\Own prog σ s a_e d1 ((out.map Nd.Sec).map Go.Fw.encI)/\Apart d d1/\(out.length:Int)<=4 * n/\Rng path (fun r=>f_g c a path r out=c.flank a path) n,
   fun _ _ n _=>path.length - n.toNat,⟨[], .nil _ (.refl _), .nil _ (.refl _), .nil _,by simp, .start rfl⟩,?_⟩
 rintro d d1 n s ⟨out,ho,ho1,hap,hol,hr⟩
 rw[zB]
 refine bcd (fun hlt=>?_) (fun hge=>?_)
 · obtain ⟨j,x,rfl,hx,hj,hF,nx⟩:=hr.step rfl (by omega) hlt
   refine (hp s).load (a_g hx) q_g rfl ⟨x.Sec,x.In,x.Out,rfl,(i_8 (h s) _).use ⟨_,rfl,?_⟩⟩
   have hF':f_g c a path (path.drop (j+1)) (d_p c a path x (b_v (a_f4 c x.Sec)).toNat 0 out) =c.flank a path:=by
     rw[<-hF,f_g]
     cases hg:a_n c.Secs x.Sec with
     | none=>rw[l_z hg];rfl
     | some y=>rw[i_4 hg]
   generalize a_f4 c x.Sec=k at hF'
   have hne:=a_ek k
   refine ⟨fun d d1 m s'=>∃out':List Nd,Own prog σ s' c_e d (out'.map Nd.enc)/\Own prog σ s' a_e d1 ((out'.map Nd.Sec).map Go.Fw.encI)/\Apart d d1/\0<=m/\m<=b_v k/\(out'.length:Int)<=4 * j+m/\d_p c a path x (b_v k - m).toNat m out'=d_p c a path x (b_v k).toNat 0 out,
     fun _ _ m _=>(b_v k - m).toNat,⟨out,ho,ho1,hap,by omega,hne.1,by omega,by rw[Int.sub_zero]⟩,?_⟩
   rintro d2 d3 m s' ⟨out',ho',ho1',hap',hm0,hm1,hol',hE⟩
   refine (j_e _).use ⟨_,rfl,bcd (fun hlt'=>?_) (fun hge'=>?_)⟩
   · have hw:w64 (m+1) =m+1:=a_r (by omega) (by omega)
     have hk:(b_v k - m).toNat=(b_v k - (m+1)).toNat+1:=by omega
     rw[hk,d_p] at hE
     intro R hR
     have leaf:∀(out2:List Nd) (d4 d5:D) (s2:Store),c_o c a path x out' m=out2->Own prog σ s2 c_e d4 (out2.map Nd.enc)->Own prog σ s2 a_e d5 ((out2.map Nd.Sec).map Go.Fw.encI)->Apart d4 d5->R d4 d5 s2:=by
       intro out2 d4 d5 s2 h1 h2 h3 h4
       have hlen:=(t_6 c a path x out' m).2
       refine hR _ _ _ ⟨rfl,?_⟩
       rw[hw]
       refine ⟨⟨out2,h2,h3,h4,by omega,by omega,by rw[<-h1];omega,by rw[<-h1];exact hE⟩,by show (b_v k - (m+1)).toNat < (b_v k - m).toNat;omega⟩
     intro R1 hR1
     refine bce (fun h1=>⟨by trivial,leaf out' _ _ s' (by rw[c_o,if_pos (.inl h1)]) ho' ho1' hap'⟩) (fun h1=>bce (fun h2=>⟨by trivial,leaf out' _ _ s' (by rw[c_o,if_pos (.inr h2)]) ho' ho1' hap'⟩) (fun h2=>⟨by trivial,hR1 s' ?_⟩))
     have hst:c_o c a path x out' m=match nxt c.Jts x.Sec m with
       | none=>out'
       | some (q,f)=>match a_n c.Secs q with
         | none=>out'
         | some y=>if y.Kind=1/\(1<=f/\f<=2)/\q≠a/\h_7 path q=false/\(out'.any fun n=>n.Sec == q) =false then out' ++ [⟨q,3 - f⟩] else out':=by
       rw[c_o,if_neg (by rintro (e | e);exact h1 e;exact h2 e)] <;> rfl
     refine (e_h x.Sec m (h s').jts).use (j_a _ ?_)
     intro R2 hR2
     cases hn:nxt c.Jts x.Sec m with
     | none=>
       rw[hn] at hst
       exact a_0 (fun _=>⟨by trivial,leaf out' _ _ s' hst ho' ho1' hap'⟩) (fun e=>by cases e)
     | some p=>
       obtain ⟨q,f⟩:=p
       rw[hn] at hst hR2
       simp only[Option.getD_some] at hst hR2 ⊢
       refine a_0 (fun e=>by cases e) (fun _=>(i_8 (h s') q).use ⟨_,rfl,?_⟩)
       refine bcn (fun k1=>⟨by trivial,leaf out' _ _ s' ?_ ho' ho1' hap'⟩) (fun k1=>?_)
       · cases hg:a_n c.Secs q with
         | none=>rw[hg] at hst;exact hst
         | some y=>rw[hg] at hst;rw[i_4 hg] at k1;rw[hst];exact if_neg fun g=>k1 g.1
       obtain ⟨y,hg⟩ :∃y,a_n c.Secs q=some y:=by
         cases hg:a_n c.Secs q with
         | none=>rw[l_z hg] at k1;cases k1
         | some y=>exact ⟨y,rfl⟩
       rw[i_4 hg] at k1
       rw[hg] at hst
       simp only at hst
       have no:¬((1<=f/\f<=2)/\q≠a/\h_7 path q=false/\(out'.any fun n=>n.Sec == q) =false)->c_o c a path x out' m=out':=fun hn=>by rw[hst,if_neg fun g=>hn g.2]
       have main:(1<=f/\f<=2)->DCalls prog d_o [.one pd] s' fun r4 s4=>∃d4,r4= .a (.one d4)/\DCalls prog d_r [.one d4,iA q] s4 fun r5 s5=>∃b1,r5= .a (bA b1)/\a_b b1 (True/\R d2 d3 s5) (a_b (q == a) (True/\R d2 d3 s5) (DCalls prog d_r [.one d3,iA q] s5 fun r6 s6=>∃b2,r6= .a (bA b2)/\a_b b2 (True/\R d2 d3 s6) (True/\R2 s6))):=by
         intro hf
         refine (l_5 hp (by omega)).mono ?_
         rintro r4 s4 ⟨rfl,d4,rfl,hd4⟩
         refine ⟨d4,rfl,(j_n q (hd4 _)).use ⟨_,rfl,?_⟩⟩
         rw[a_jc]
         refine bc (fun k2=>⟨by trivial,leaf out' _ _ _ (no fun g=>by rw[g.2.2.1] at k2;cases k2) ho' ho1' hap'⟩) (fun k2=>bce (fun k3=>⟨by trivial,leaf out' _ _ _ (no fun g=>g.2.1 k3) ho' ho1' hap'⟩) (fun k3=>(j_n q ho1'.at_).use ⟨_,rfl,?_⟩))
         rw[a_y9]
         refine bc (fun k4=>⟨by trivial,leaf out' _ _ _ (no fun g=>by rw[g.2.2.2] at k4;cases k4) ho' ho1' hap'⟩) (fun k4=>⟨by trivial,hR2 _ ?_⟩)
         refine a_f fun id s5 hid _ he5 hs5=>?_
         refine (ho1'.ext' he5).append2 (ho'.ext' he5) hap' (At.fresh hs5 (by simp) rfl) (by simp;omega) (by simp;omega) fun d5 s6 ho6 ho6' hap6=>?_
         refine a_f fun id7 s7 hid7 _ he7 hs7=>?_
         have hw2:w64 (3 - f) =3 - f:=a_r (by omega) (by omega)
         refine (ho6'.ext' he7).append2 (ho6.ext' he7) hap6.symm (At.fresh hs7 (by simp) rfl) (by simp;omega) (by simp;omega) fun d8 s8 ho8 ho8' hap8=>⟨by trivial,leaf (out' ++ [⟨q,3 - f⟩]) _ _ _ (by rw[hst,if_pos ⟨k1,hf,k3,k2,k4⟩]) ?_ ?_ hap8.symm⟩
         · rw[hw2] at ho8;rw[List.map_append];exact ho8
         · rw[List.map_append,List.map_append];exact ho8'
       refine bcn (fun k2=>bcn (fun k3=>⟨by trivial,leaf out' _ _ s' (no fun g=>by omega) ho' ho1' hap'⟩) (fun k3=>main (by omega))) (fun k2=>main (by omega))
   · have hz:(b_v k - m).toNat=0:=by omega
     rw[hz,d_p] at hE
     rw[<-hE] at hF'
     have hn:=nx (fun r=>f_g c a path r out'=c.flank a path) hF'
     exact ⟨⟨out',ho',ho1',hap',by rw[a_i (by omega)];omega,hn.1⟩,hn.2⟩
 · have hF:=hr.done rfl hge
   rw[f_g] at hF
   rw[<-hF]
   exact g_0 ho (a_ws _)
theorem a_bh (r:Rt){d1 d2 d3:D}(hp:∀s,At prog s f_k d1 (r.Path.map St.enc))(hpl:r.Path.length<=2 ^ 20) :
   DCalls prog j_w [cfA c0 c1 c2 c3 c4 c,rtA d1 d2 d3 r] σ (f_n σ a_e ((c.overlap r).map Go.Fw.encI)):=by
 refine (a_da _ _ _ _ _ _ _ _ _ _ _ d1 d2 d3 _ σ _ ?_).ret (Q:=fun r' s=>∃r'' σ',Ret prog σ s r' σ' r''/\f_n σ a_e ((c.overlap r).map Go.Fw.encI) r'' σ') (fun r s h=>h)
 intro R hR
 have nil:c.overlap r=[]->∃r'' σ',Ret prog σ σ (.a (.one .nils)) σ' r''/\f_n σ a_e ((c.overlap r).map Go.Fw.encI) r'' σ':=fun e=>by
   rw[e];exact g_0 (.nil _ (.refl _)) (g_c _)
 refine bc (fun h1=>nil (by rw[Cf.overlap,if_pos h1])) (fun h1=>?_)
 have hov:c.overlap r=match a_n c.Sigs r.Exit with
   | none=> []
   | some x=>match nxt c.Jts x.Sec x.End_ with
     | none=> []
     | some (q,_)=>match a_n c.Secs q with
       | none=> []
       | some y=>if y.Line=0/\h_7 r.Path q=false/\q≠c.approach r then [q] else []:=by
   rw[Cf.overlap,if_neg (by rw[h1];simp)] <;> rfl
 refine bcd (fun e=>nil (by rw[hov,a_5 e])) (fun e0=>(h σ).sigs.lenK ?_)
 rw[zB]
 refine bcd (fun e=>nil (by rw[hov,b_u e])) (fun e1=>hR σ ?_)
 obtain ⟨x,hg⟩:=i_9 e0 e1
 rw[hg] at hov
 simp only at hov
 refine (h σ).sigs.load (a_g (b_w hg).2.2) d_b (by omega) ⟨x.Sec,x.End_,rfl,(e_h _ _ (h σ).jts).use (j_a _ ?_)⟩
 intro R1 hR1
 have main:R1 (c.approach r) σ:=by
   refine hR1 _ σ ?_
   cases hn:nxt c.Jts x.Sec x.End_ with
   | none=>rw[hn] at hov;exact a_0 (fun _=>nil hov) (fun e=>by cases e)
   | some p=>
     obtain ⟨q,f⟩:=p
     rw[hn] at hov
     simp only[Option.getD_some] at hov ⊢
     refine a_0 (fun e=>by cases e) (fun _=>bcd (fun e=>nil (by rw[hov,a_5 e])) (fun e2=>(h σ).secs.lenK ?_))
     rw[zB]
     refine bcd (fun e=>nil (by rw[hov,b_u e])) (fun e3=>(l_5 hp (by omega)).mono ?_)
     obtain ⟨y,hy⟩:=i_9 e2 e3
     rw[hy] at hov
     simp only at hov
     have no:¬(y.Line=0/\h_7 r.Path q=false/\q≠c.approach r)->c.overlap r=[]:=fun hn=>by rw[hov,if_neg hn]
     rintro r4 s4 ⟨rfl,d4,rfl,hd4⟩
     refine ⟨d4,rfl,(j_n q (hd4 _)).use ⟨_,rfl,?_⟩⟩
     rw[a_jc]
     refine bc (fun k2=>nil (no fun g=>by rw[g.2.1] at k2;cases k2)) (fun k2=>bce (fun k3=>nil (no fun g=>g.2.2 k3)) (fun k3=>?_))
     refine (h s4).secs.load (a_g (b_w hy).2.2) a_x (by omega) ⟨y.Line,rfl,bcn (fun k4=>nil (no fun g=>k4 g.1)) (fun k4=>?_)⟩
     refine a_f fun id s5 hid _ he5 hs5=>?_
     rw[hov,if_pos ⟨k4,k2,k3⟩]
     exact g_0 (.at_new hid he5 hs5 (by simp) rfl) (g_c _)
 refine bcd (fun k0=>(h σ).sigs.lenK ?_) (fun k0=>?_)
 · rw[zB]
   refine bcd (fun k1=>?_) (fun k1=>?_)
   · obtain ⟨z,hz⟩:=i_9 (l:=c.Sigs) (i:=r.Entry) (by omega) (by omega)
     refine (h σ).sigs.load (a_g (b_w hz).2.2) d_b (by omega) ⟨z.Sec,rfl,?_⟩
     rw[Cf.approach,hz] at main;exact main
   · rw[Cf.approach,b_u (by omega)] at main;exact main
 · rw[Cf.approach,a_5 (by omega)] at main;exact main
theorem a_f2:Pure prog m_3 [cfA c0 c1 c2 c3 c4 c] σ (.a (iA c.check)):=by
 refine a_g7 _ _ _ _ _ _ _ _ _ σ _ ((a_fn (h σ).secs (h σ).jts).use ⟨_,rfl,?_⟩)
 have e6:(if c_s c.Secs c.Jts=true then (0:Int) else 6)≠0↔c_s c.Secs c.Jts=false:=by
   cases c_s c.Secs c.Jts <;> simp
 refine bcn (fun k1=>⟨by rw[Cf.check,if_pos (e6.1 k1)],rfl⟩) (fun k1=>(a_ay (h σ)).use ⟨_,rfl,a_0 (fun k2=>⟨?_,rfl⟩) (fun k2=>?_)⟩)
 all_goals have k1':¬c_s c.Secs c.Jts=false:=fun e=>e6.2 e k1
 · rw[Cf.check,if_neg k1',if_pos k2]
 have ht:c_s c.Secs c.Jts=true:=by simpa using k1'
 refine (u_n (h σ) ht).use ⟨_,rfl,a_0 (fun k3=>⟨?_,rfl⟩) (fun k3=>?_)⟩
 · rw[Cf.check,if_neg k1',if_neg (by rw[k2];simp),if_pos k3]
 have hck:c.check=if c.Rts.length > 12 then 9 else if c.routes c.Rts≠0 then c.routes c.Rts else if c.timing=true then 0 else 12:=by
   rw[Cf.check,if_neg k1',if_neg (by rw[k2];simp),if_neg (by rw[k3];simp)]
 obtain ⟨rows,hat,hlen,hrow⟩:=a_nw fun s=>(h s).rts
 have hl:=(hat σ).size
 refine (hat σ).lenK (bcd (fun k4=>⟨by rw[hck,if_pos (by omega)],rfl⟩) (fun k4=>(hat σ).lenK ?_))
 rw[if_neg (by omega)] at hck
 refine ⟨fun n s=>s=σ/\Rng c.Rts (fun l=>c.routes l=c.routes c.Rts) n,fun n _=>c.Rts.length - n.toNat,⟨rfl, .start rfl⟩,?_⟩
 rintro n τ ⟨rfl,hr⟩
 refine bcd (fun hlt=>?_) (fun hge=>?_)
 · obtain ⟨j,x,rfl,hx,hj,hF,nx⟩:=hr.step hlen (by omega) hlt
   obtain ⟨row,hrw⟩:=a_c (l:=rows) (j:=j) (by omega)
   obtain ⟨d1,d2,d3,rfl,q1,q2,q3⟩:=hrow j row x hrw hx
   rw[Cf.routes] at hF
   have err:∀e,e≠0->c.route x=e->(RV.a (iA e) = .a (iA c.check)/\τ=τ):=fun e he hc=>by
     rw[hc,if_pos he] at hF
     rw[hck,<-hF,if_pos he];exact ⟨rfl,rfl⟩
   refine (hat τ).load hrw s_d rfl ⟨_,_,d1,d2,d3,_,rfl,(a_h5 h ht k2 x q1).use ⟨_,rfl,a_0 (fun k5=>err 9 (by decide) (by rw[Cf.route,if_pos k5])) (fun k5=>?_)⟩⟩
   have hpl:x.Path.length<=8:=by
     unfold Cf.path at k5
     split at k5
     · cases k5
     · simp at k5;exact k5.1.2.2
   refine (x_n (h τ) j).use ⟨_,rfl,?_⟩
   rw[show c.Approach j=c.approach x by rw[Cf.Approach,show a_n c.Rts j=some x by unfold a_n;rw[if_neg (by omega),zF];exact hx];rfl]
   refine (a_ff h _ q1 (by omega)).mono ?_
   rintro r1 s1 ⟨rfl,d,rfl,hd⟩
   refine ⟨d,rfl,(v_4 (q2 _) (hd _)).use ⟨_,rfl,a_0 (fun k6=>err 10 (by decide) ?_) (fun k6=>(a_bh h x q1 (by omega)).mono ?_)⟩⟩
   · rw[Cf.route,if_neg (by rw[k5];simp),if_pos (of_decide_eq_false k6)]
   rintro r2 s2 ⟨rfl,d',rfl,hd'⟩
   have e2:=zM k6
   refine ⟨d',rfl,(y_e (q3 _) (hd' _)).use ⟨_,rfl,a_0 (fun k7=>err 11 (by decide) ?_) (fun k7=>?_)⟩⟩
   · rw[Cf.route,if_neg (by rw[k5];simp),if_neg (fun hn=>hn e2),if_pos (of_decide_eq_false k7)]
   · have h0:c.route x=0:=by rw[Cf.route,if_neg (by rw[k5];simp),if_neg (fun hn=>hn e2),if_neg (fun hn=>hn (zM k7))]
     rw[if_neg (by simp[h0])] at hF
     exact i_r rfl (nx _ hF)
 · have hF:0=c.routes c.Rts:=hr.done hlen hge
   rw[<-hF,if_neg (by simp)] at hck
   have bad:¬(((1<=c.Age/\c.Age<=8)/\(0<=c.Brake/\c.Brake<=8))/\(c.Age+c.Brake+1<=c.Hold/\c.Hold<=40)/\(1<=c.Budget/\c.Budget<=1000000))->(RV.a (iA 12) = .a (iA c.check)/\τ=τ):=fun hn=>by
     rw[hck,if_neg (fun e=>hn (by simpa[Cf.timing,and_assoc] using e))];exact ⟨rfl,rfl⟩
   refine bcd (fun e=>bad fun g=>by omega) (fun t1=>bcd (fun e=>bad fun g=>by omega) (fun t2=>bcd (fun e=>bad fun g=>by omega) (fun t3=>bcd (fun e=>bad fun g=>by omega) (fun t4=>?_))))
   rw[a_r (n:=c.Age+c.Brake) (by omega) (by omega),a_r (n:=c.Age+c.Brake+1) (by omega) (by omega)]
   refine bcd (fun e=>bad fun g=>by omega) (fun t5=>bcd (fun e=>bad fun g=>by omega) (fun t6=>bcd (fun e=>bad fun g=>by omega) (fun t7=>bcd (fun e=>bad fun g=>by omega) (fun t8=>⟨?_,rfl⟩))))
   rw[hck,if_pos]
   simp only[Cf.timing,zO,decide_eq_true_eq]
   omega
end
end
section
variable {σ σ0:Store}
theorem a_he (peer age:Int) :b_7 prog q_1 (fun az _=>az=[iA peer,iA age]) (r_2 fun _ id r so=>r= .a (.one (pO id))/\so= .live a_t [[iD peer,iD age,iD (-1), .nils]]):=
 a_eu (by
   rintro az s rfl
   exact a_n2 peer age s _ (a_f fun id s' hid hset _ _=>⟨id,_,hid,(by intro e;cases e),⟨rfl,rfl⟩,hset⟩)) (fun az s id _=>⟨_,_,(by intro e;cases e),rfl,rfl⟩) (by rintro az s i so _ _ rfl;rfl)
theorem fldB {s:Store}{t el:TypeId}{yid bytes off n:Nat}{row:List D}{o:Option (Nat × List (List D))}{rs:List (List D)}{r:List D}{R:List (Nat × SO)}{K:Store->Prop}(h:Heap s ((yid, .live t [row]) :: (c_q el o rs ++ R)))(hn:o=none->rs=[])(hnn:n=rs.length)
   (ho:off+1<=row.length) (hl:rs.length < 2 ^ 30) (hb:bytes<=2 ^ 10)
   (hK:∀s' z,Heap s' ((yid, .live t [patch row off [b_r (some z) (n+1)]]) :: (c_q el (some z) (rs ++ [r]) ++ R))->K s') :
   Fw.newObj s (.live el [r]) fun id2 s2=>a_j prog s2 el bytes (b_r o n) (.osl id2 0 1) fun d1 s3=>a_k [d1] s3 (.osl yid 0 1) 0 off K:=by
 refine a_f fun id2 s2 hid2 _ he2 hs2=>?_
 have H:Heap s2 (c_q el o rs ++ ((yid, .live t [row]) ::R)):=(h.ext he2).perm (b_q fun a=>by
   simp only[List.count_append,List.count_cons,List.count_nil]
   omega)
 refine f_r (el:=el) (bytes:=bytes) (r:=r) H hn hnn (by omega) (At.fresh hs2 (by simp) rfl) ?_ ?_
 · have:=Nat.mul_le_mul hb (show rs.length+1<=2 ^ 30 by omega)
   omega
 intro s3 z H3
 have H3':Heap s3 ((yid, .live t [row]) :: (c_q el (some z) (rs ++ [r]) ++ R)):=H3.perm (b_q fun a=>by
   simp only[List.count_append,List.count_cons,List.count_nil]
   omega)
 exact H3'.row ho fun s5 H5 _=>hK s5 z H5
theorem fldA {s:Store}{t el:TypeId}{yid bytes off:Nat}{row:List D}{o:Option (Nat × List (List D))}{rs:List (List D)}{r:List D}{R:List (Nat × SO)}{K:Store->Prop}(h:Heap s ((yid, .live t [row]) :: (c_q el o rs ++ R)))(hn:o=none->rs=[]){n:Nat}(hnn:n=rs.length)
   (ho:row[off]? =some (b_r o n)) (hl:rs.length < 2 ^ 30) (hb:bytes<=2 ^ 10)
   (hK:∀s' z,Heap s' ((yid, .live t [patch row off [b_r (some z) (n+1)]]) :: (c_q el (some z) (rs ++ [r]) ++ R))->K s') :
   ∃row':List D,Row s (.osl yid 0 1) 0 row'/\∃d:D,List.take 1 (List.drop off row') =[d]/\Fw.newObj s (.live el [r]) fun id2 s2=>a_j prog s2 el bytes d (.osl id2 0 1) fun d1 s3=>a_k [d1] s3 (.osl yid 0 1) 0 off K:=
 ⟨_,a_d (h.get List.mem_cons_self),_,c_8 ho,fldB h hn hnn (by have:=(zA.1 ho).1;omega) hl hb hK⟩
def g_t (mp:Nat)(c0 c1 c2 c3 c4:D)(c:Cf)(f9 f10 f11 f12 f13 f14 f15:D) :List D:= [c0,c1,c2,c3,c4,iD c.Age,iD c.Brake,iD c.Hold,iD c.Budget,f9,f10,f11,f12,f13,f14,f15, .omap mp,iD 0]
theorem y_u {c0 c1 c2 c3 c4 dt:D}{c:Cf}{l:List Tr}{fr:List (Nat × SO)}(hc:∀s,CfAt s c0 c1 c2 c3 c4 c)(ht:∀s,p_d s dt l)(hfr:Heap σ fr) :
   DCalls prog q_b [cfA c0 c1 c2 c3 c4 c, .one dt] σ fun r s=>((d_9 c l).1≠0/\r= .tup [.one .nilp,iA (d_9 c l).1])\/((d_9 c l).1=0/\∃id L,r= .tup [.one (pO id),iA 0]/\RyIn s id L (d_9 c l).2 fr):=by
 obtain ⟨trows,hat,hlen,_⟩:=ht σ
 have hN:d_9 c l=if c.check≠0 then (c.check, .fresh c []) else if l.length > 4 then (5, .fresh c []) else match g_5 c l [] with
   | none=>(30, .fresh c [])
   | some l=>(0, .fresh c l):=rfl
 refine a_p6 c0 c1 c2 c3 c4 c.Age c.Brake c.Hold c.Budget dt σ _ ((a_f2 hc).use ⟨_,rfl,bcn (fun he=>?_) (fun he=>hat.lenK (bcd (fun h4=>?_) (fun h4=>?_)))⟩)
 · rw[hN,if_pos he];exact .inl ⟨he,rfl⟩
 · rw[hN,if_neg (by rw[he];simp),if_pos (by omega)];exact .inl ⟨(by show (5:Int)≠0;decide),rfl⟩
 rw[if_neg (by rw[he];simp),if_neg (by omega)] at hN
 have hcl:=c_m he
 refine a_f fun mp s1 hmp _ he1 hs1=>a_f fun yid s2 hyd _ he2 hs2=>?_
 have H2:Heap s2 ((yid, .live a_w [g_t mp c0 c1 c2 c3 c4 c .nils .nils .nils .nils .nils .nils .nils]) :: (mp, .mp 0 []) ::fr):=((hfr.new hmp he1 hs1 (by intro e;cases e)).new hyd he2 hs2 (by intro e;cases e))
 refine hat.lenK ⟨fun n s => ∃ (j : Nat) (acc : List Tr) (trd : Option (Nat × List (List D))) (tk : List (Nat × List (List D))), n = j /\ j <= l.length /\ tk.length = acc.length /\ (trd = none -> acc = []) /\ acc.length <= j /\ (∀ t ∈ acc, ∃ a x, t.Secs = [a] /\ a_n c.Secs a = some x) /\
     g_5 c (l.drop j) acc=g_5 c l []/\Heap s ((yid, .live a_w [g_t mp c0 c1 c2 c3 c4 c .nils .nils (b_r trd acc.length) .nils .nils .nils .nils]) :: (c_q a_m trd ((tk.zip acc).map a_z) ++ ((tk.zip acc).map tkE ++ ((mp, .mp 0 []) ::fr)))),
   fun n _=>l.length - n.toNat,⟨0,[],none,[],rfl,by omega,rfl,fun _=>rfl,by simp,(fun t h=>by cases h),rfl,H2⟩,?_⟩
 clear H2 hs2 hs1 he2 he1
 rintro _ s3 ⟨j,acc,trd,tk,rfl,hj,hkl,htn,hal,hacc,hE,H⟩
 rw[hlen]
 have hrl:((tk.zip acc).map a_z).length=acc.length:=by simp[hkl]
 have hs1:∀t ∈ acc,t.Secs.length<=2 ^ 45:=fun t h=>by
   obtain ⟨a,x,e,_⟩:=hacc t h
   rw[e];simp
 refine bcd (fun hlt=>?_) (fun hge=>?_)
 · have hlt:j < l.length:=by omega
   obtain ⟨trows3,hat3,hlen3,hrow3⟩:=ht s3
   obtain ⟨t,htj⟩:=a_c (l:=l) (j:=j) hlt
   obtain ⟨r,hr⟩:=a_c (l:=trows3) (j:=j) (by omega)
   obtain ⟨e,rfl,hae⟩:=hrow3 j r t hr htj
   have hdec:=a_v hlt
   rw[b_k htj,g_5] at hE
   have hyr:=H.get (i:=yid) List.mem_cons_self
   have hT:=a_w7 (A:=(mp, .mp 0 []) ::fr) H.tail hkl htn (by omega) hs1
   have bad:c.trFits acc t=false->((d_9 c l).1≠0/\(RV.tup [.one .nilp,iA 30]) = .tup [.one .nilp,iA (d_9 c l).1])\/((d_9 c l).1=0/\∃id L,(RV.tup [.one .nilp,iA 30]) = .tup [.one (pO id),iA 0]/\RyIn s3 id L (d_9 c l).2 fr):=fun hf=>by
     rw[if_neg (by rw[hf];decide)] at hE
     rw[hN,<-hE];exact .inl ⟨(by show (30:Int)≠0;decide),rfl⟩
   refine hat3.load hr b_4 rfl ⟨e,t.Out,rfl,?_⟩
   intro R hR
   refine hae.lenK ?_
   rw[zB]
   refine bcn (fun g1=>bad ?_) (fun g1=>?_)
   · unfold Cf.trFits
     split
     · rename_i a ha;rw[ha] at g1;exact absurd rfl g1
     · rfl
   obtain ⟨a,ha⟩ :∃a,t.Secs=[a]:=List.length_eq_one_iff.1 (by omega)
   have hae':At prog s3 a_e e [Go.Fw.encI a]:=by rw[ha] at hae;exact hae
   have ld:∀{K:List D->Prop},K (Go.Fw.encI a)->∃len:Nat,Idx prog s3 e 1 len/\(0:Int)<=0/\(0:Int) < (len:Int)/\∃row,Row s3 e 0 row/\K row:=fun {K} hk=>hae'.load (n:=0) (j:=0) rfl c_int rfl hk
   have hfit:c.trFits acc t=match a_n c.Secs a with
     | some x=>decide (x.Kind=0) && decide (t.Out=0\/t.Out=1) && decide (d_i acc a=0) && c.stands a t.Out
     | none=>false:=by unfold Cf.trFits;rw[ha] <;> rfl
   refine ld ⟨a,rfl,bcd (fun g2=>bad ?_) (fun g2=>ld ⟨a,rfl,(hc s3).secs.lenK ?_⟩)⟩
   · rw[hfit,a_5 g2]
   rw[zB]
   refine bcd (fun g3=>bad ?_) (fun g3=>ld ⟨a,rfl,?_⟩)
   · rw[hfit,b_u g3]
   obtain ⟨xa,hxa⟩:=i_9 (l:=c.Secs) (i:=a) (by omega) (by omega)
   obtain ⟨q0,q1,q2⟩:=b_w hxa
   rw[hxa] at hfit
   have hfit:c.trFits acc t=(decide (xa.Kind=0) && decide (t.Out=0\/t.Out=1) && decide (d_i acc a=0) && c.stands a t.Out):=hfit
   refine (hc s3).secs.load (j:=a.toNat) (a_g q2) a_x (by omega) ⟨xa.Kind,rfl,bcn (fun g4=>bad ?_) (fun g4=>bcd (fun g5=>bad ?_) (fun g5=>bcd (fun g6=>bad ?_) (fun g6=>ld ⟨a,rfl,(a_d8 hyr rfl hT (by omega) hs1 a).use ⟨_,rfl,bcd (fun g7=>bad ?_) (fun g7=>ld ⟨a,rfl,(t_8 (hc s3) a t.Out).use ⟨_,rfl,a_0 (fun g8=>bad ?_) (fun g8=>⟨by first | exact rfl | trivial,hR s3 ?_⟩)⟩⟩)⟩⟩)))⟩
   · rw[hfit,decide_eq_false g4];rfl
   · rw[hfit,decide_eq_false (by omega:¬(t.Out=0\/t.Out=1)),Bool.and_false];rfl
   · rw[hfit,decide_eq_false (by omega:¬(t.Out=0\/t.Out=1)),Bool.and_false];rfl
   · rw[hfit,decide_eq_false (by omega:¬d_i acc a=0),Bool.and_false];rfl
   · rw[hfit,g8,Bool.and_false]
   have hf:c.trFits acc t=true:=by rw[hfit,decide_eq_true g4,decide_eq_true (by omega:t.Out=0\/t.Out=1),decide_eq_true (by omega:d_i acc a=0),g8];rfl
   rw[if_pos hf] at hE
   clear bad hR R
   refine ⟨_,a_d hyr,b_r trd acc.length,rfl,ld ⟨a,rfl,a_f fun id2 s4 hid2 _ he4 hs4=>?_⟩⟩
   have hs4:s4 id2= .live a_e ([a].map Go.Fw.encI ++ []):=hs4
   have H4:=H.new' hid2 he4 hs4 (by intro e;cases e)
   have H4p:Heap s4 ((yid, .live a_w [g_t mp c0 c1 c2 c3 c4 c .nils .nils (b_r trd acc.length) .nils .nils .nils .nils]) :: (c_q a_m trd ((tk.zip acc).map a_z) ++ (((tk.zip acc).map tkE ++ [(id2, .live a_e ([a].map Go.Fw.encI ++ []))]) ++ ((mp, .mp 0 []) ::fr)))):=by
     refine H4.perm (b_q fun a=>?_)
     simp only[List.count_append,List.count_cons,List.count_nil]
     omega
   refine fldB (el:=a_m) (r:= [.osl id2 0 1,iD t.Out]) H4p (fun e=>by rw[htn e];simp) hrl.symm (by simp[g_t]) (by rw[hrl];omega) (by omega) fun s7 z H7=>?_
   have hz2:(tk ++ [(id2,[])]).zip (acc ++ [t]) =tk.zip acc ++ [((id2,[]),t)]:=by rw[List.zip_append hkl];rfl
   rw[a_i (by omega)]
   refine ⟨⟨j+1,acc ++ [t],some z,tk ++ [(id2,[])],rfl,hlt,by simp[hkl],fun e=>(by cases e),by simp;omega,fun t' h=>?_,hE,?_⟩,hdec⟩
   · rcases List.mem_append.1 h with h | h
     · exact hacc t' h
     · rw[List.mem_singleton.1 h];exact ⟨a,xa,ha,hxa⟩
   · rw[hz2,List.map_append,List.map_append,zP]
     have e1: [(((id2,[]) :Nat × List (List D)),t)].map a_z=[[.osl id2 0 1,iD t.Out]]:=by
       unfold a_z;rw[List.map_singleton,ha];rfl
     have e2: [(((id2,[]) :Nat × List (List D)),t)].map tkE=[(id2, .live a_e ([a].map Go.Fw.encI ++ []))]:=by
       unfold tkE;rw[List.map_singleton,ha]
     rw[e1,e2]
     exact H7
 have e:j=l.length:=by omega
 subst e
 rw[List.drop_length,g_5] at hE
 rw[<-hE] at hN
 have hN:d_9 c l=(0, .fresh c acc):=hN
 clear hge hj hE hat hlen
 generalize hD:c_q a_m trd ((tk.zip acc).map a_z) ++ ((tk.zip acc).map tkE ++ ((mp,SO.mp 0 []) ::fr)) =R0 at H
 generalize hf11:b_r trd acc.length=f11 at H
 refine (hc s3).secs.lenK ⟨fun n s=>∃(j:Nat) (o:Option (Nat × List (List D))),n=j/\j<=c.Secs.length/\(o=none->j=0)/\Heap s ((yid, .live a_w [g_t mp c0 c1 c2 c3 c4 c (b_r o j) .nils f11 .nils .nils .nils .nils]) :: (c_q a_h o (List.replicate j [iD 1,iD 1,iD 0]) ++ R0)),
   fun n _=>c.Secs.length - n.toNat,⟨0,none,rfl,by omega,fun _=>rfl,H⟩,?_⟩
 clear H s3
 rintro _ s3 ⟨j,pt,rfl,hj,hpn,H⟩
 rw[zB]
 refine bcd (fun hlt=>?_) (fun hge=>?_)
 · refine fldA (el:=a_h) (r:= [iD 1,iD 1,iD 0]) H (fun e=>by rw[hpn e];rfl) (by simp) rfl (by simp;omega) (by omega) fun s7 z H7=>?_
   rw[a_i (by omega)]
   refine ⟨⟨j+1,some z,rfl,by omega,fun e=>(by cases e),?_⟩,a_v (by omega)⟩
   rw[List.replicate_succ'];exact H7
 have e:j=c.Secs.length:=by omega
 subst e
 have hpn:pt=none->c.Secs.length=0:=hpn
 generalize hD1:c_q a_h pt (List.replicate c.Secs.length [iD 1,iD 1,iD 0]) ++ R0=R1 at H
 generalize hf9:b_r pt c.Secs.length=f9 at H
 refine (hc s3).xs.lenK ⟨fun n s=>∃(j:Nat) (o:Option (Nat × List (List D))),n=j/\j<=c.Xs.length/\(o=none->j=0)/\Heap s ((yid, .live a_w [g_t mp c0 c1 c2 c3 c4 c f9 (b_r o j) f11 .nils .nils .nils .nils]) :: (c_q a_h o (List.replicate j [iD 1,iD 1,iD 0]) ++ R1)),
   fun n _=>c.Xs.length - n.toNat,⟨0,none,rfl,by omega,fun _=>rfl,H⟩,?_⟩
 clear H s3 hge hj
 rintro _ s3 ⟨j,gt,rfl,hj,hgn,H⟩
 rw[zB]
 refine bcd (fun hlt=>?_) (fun hge=>?_)
 · refine fldA (el:=a_h) (r:= [iD 1,iD 1,iD 0]) H (fun e=>by rw[hgn e];rfl) (by simp) rfl (by simp;omega) (by omega) fun s7 z H7=>?_
   rw[a_i (by omega)]
   refine ⟨⟨j+1,some z,rfl,by omega,fun e=>(by cases e),?_⟩,a_v (by omega)⟩
   rw[List.replicate_succ'];exact H7
 have e:j=c.Xs.length:=by omega
 subst e
 generalize hD2:c_q a_h gt (List.replicate c.Xs.length [iD 1,iD 1,iD 0]) ++ R1=R2 at H
 generalize hf10:b_r gt c.Xs.length=f10 at H
 refine (hc s3).sigs.lenK ⟨fun n s => ∃ (j : Nat) (o o' : Option (Nat × List (List D))), n = j /\ j <= c.Sigs.length /\ (o = none -> j = 0) /\ (o' = none -> j = 0) /\
     Heap s ((yid, .live a_w [g_t mp c0 c1 c2 c3 c4 c f9 f10 f11 .nils (b_r o j) .nils (b_r o' j)]) :: (c_q a_e o (List.replicate j [iD 0]) ++ (c_q a_e o' (List.replicate j [iD (-1)]) ++ R2))),
   fun n _=>c.Sigs.length - n.toNat,⟨0,none,none,rfl,by omega,fun _=>rfl,fun _=>rfl,H⟩,?_⟩
 clear H s3 hge hj
 rintro _ s3 ⟨j,ap,la,rfl,hj,han,hln,H⟩
 rw[zB]
 refine bcd (fun hlt=>?_) (fun hge=>?_)
 · refine fldA (el:=a_e) (r:= [iD 0]) H (fun e=>by rw[han e];rfl) (n:=j) (by simp) rfl (by simp;omega) (by omega) fun s7 z H7=>?_
   have H7':Heap s7 ((yid, .live a_w [g_t mp c0 c1 c2 c3 c4 c f9 f10 f11 .nils (b_r (some z) (j+1)) .nils (b_r la j)]) :: (c_q a_e la (List.replicate j [iD (-1)]) ++ (c_q a_e (some z) (List.replicate j [iD 0] ++ [[iD 0]]) ++ R2))):=H7.perm (b_q fun a=>by
     have e:patch (g_t mp c0 c1 c2 c3 c4 c f9 f10 f11 .nils (b_r ap j) .nils (b_r la j)) 13 [b_r (some z) (j+1)]=g_t mp c0 c1 c2 c3 c4 c f9 f10 f11 .nils (b_r (some z) (j+1)) .nils (b_r la j):=rfl
     rw[e]
     simp only[List.count_append,List.count_cons,List.count_nil]
     omega)
   refine fldA (el:=a_e) (r:= [iD (-1)]) H7' (fun e=>by rw[hln e];rfl) (n:=j) (by simp) rfl (by simp;omega) (by omega) fun s9 z2 H9=>?_
   rw[a_i (by omega)]
   refine ⟨⟨j+1,some z,some z2,rfl,by omega,fun e=>(by cases e),fun e=>(by cases e),?_⟩,a_v (by omega)⟩
   rw[List.replicate_succ',List.replicate_succ']
   refine H9.perm (b_q fun a=>?_)
   have e:patch (g_t mp c0 c1 c2 c3 c4 c f9 f10 f11 .nils (b_r (some z) (j+1)) .nils (b_r la j)) 15 [b_r (some z2) (j+1)]=g_t mp c0 c1 c2 c3 c4 c f9 f10 f11 .nils (b_r (some z) (j+1)) .nils (b_r (some z2) (j+1)):=rfl
   rw[e]
   simp only[List.count_append,List.count_cons,List.count_nil]
   omega
 have e:j=c.Sigs.length:=by omega
 subst e
 generalize hD3:c_q a_e ap (List.replicate c.Sigs.length [iD 0]) ++ (c_q a_e la (List.replicate c.Sigs.length [iD (-1)]) ++ R2) =R3 at H
 generalize hf13:b_r ap c.Sigs.length=f13 at H
 generalize hf15:b_r la c.Sigs.length=f15 at H
 refine ⟨fun n s => ∃ (j : Nat) (rs : List RR) (o o' : Option (Nat × List (List D))), n = j /\ j <= 4 /\ rs.length = j /\ (o = none -> rs = []) /\ (o' = none -> j = 0) /\ (∀ x ∈ rs, x.nm = none /\ x.ns = []) /\
     Heap s ((yid, .live a_w [g_t mp c0 c1 c2 c3 c4 c f9 f10 f11 (b_r o j) f13 (b_r o' j) f15]) :: (c_q a_p o (rs.map fun x=> [pO x.i]) ++ (c_q a_e o' (List.replicate j [iD (-1)]) ++ ((rs.zip ((e_q c).take j)).map rrE ++ R3)))),
   fun n _=>4 - n.toNat,⟨0,[],none,none,rfl,by omega,rfl,fun _=>rfl,fun _=>rfl,(fun x h=>by cases h),H⟩,?_⟩
 clear H s3 hge hj
 rintro _ s3 ⟨j,rs,rc,st,rfl,hj,hrsl,hrn,hsn,hrs,H⟩
 refine bcd (fun hlt=>?_) (fun hge=>?_)
 · have hlt:j < 4:=by omega
   have hw:w64 ((j:Int) +50) =(j:Int) +50:=a_r (by omega) (by omega)
   refine ⟨_,_,a_he (w64 ((j:Int) +50)) c.Age,_,a_d (H.get List.mem_cons_self),b_r rc j,rfl,rfl,?_⟩
   rintro r8 s1' ⟨idr,so,hidr,hne,⟨rfl,rfl⟩,rfl⟩
   have H1:=H.new' hidr (Ext.new hidr _) (Store.set_same _ _ _) hne
   have H1p : Heap (s3.set idr (.live a_t [[iD (w64 ((j : Int) + 50)), iD c.Age, iD (-1), .nils]])) ((yid, .live a_w [g_t mp c0 c1 c2 c3 c4 c f9 f10 f11 (b_r rc j) f13 (b_r st j) f15]) :: (c_q a_p rc (rs.map fun x => [pO x.i]) ++
       (c_q a_e st (List.replicate j [iD (-1)]) ++ (((rs.zip ((e_q c).take j)).map rrE ++ [(idr, .live a_t [[iD (w64 ((j:Int) +50)),iD c.Age,iD (-1), .nils]])]) ++ R3)))):=H1.perm (b_q fun a=>by
     simp only[List.count_append,List.count_cons,List.count_nil]
     omega)
   refine ⟨_,rfl,fldB (el:=a_p) (r:= [pO idr]) H1p (fun e=>by rw[hrn e];rfl) (by simp[hrsl]) (by simp[g_t]) (by simp;omega) (by omega) fun s5 z H5=>?_⟩
   have H5' : Heap s5 ((yid, .live a_w [g_t mp c0 c1 c2 c3 c4 c f9 f10 f11 (b_r (some z) (j + 1)) f13 (b_r st j) f15]) :: (c_q a_e st (List.replicate j [iD (-1)]) ++ (c_q a_p (some z) ((rs.map fun x => [pO x.i]) ++ [[pO idr]]) ++
       (((rs.zip ((e_q c).take j)).map rrE ++ [(idr, .live a_t [[iD (w64 ((j:Int) +50)),iD c.Age,iD (-1), .nils]])]) ++ R3)))):=H5.perm (b_q fun a=>by
     have e:patch (g_t mp c0 c1 c2 c3 c4 c f9 f10 f11 (b_r rc j) f13 (b_r st j) f15) 12 [b_r (some z) (j+1)]=g_t mp c0 c1 c2 c3 c4 c f9 f10 f11 (b_r (some z) (j+1)) f13 (b_r st j) f15:=rfl
     rw[e]
     simp only[List.count_append,List.count_cons,List.count_nil]
     omega)
   refine fldA (el:=a_e) (r:= [iD (-1)]) H5' (fun e=>by rw[hsn e];rfl) (n:=j) (by simp) rfl (by simp;omega) (by omega) fun s9 z2 H9=>?_
   have hdec:=a_v hlt
   have htake:(e_q c).take (j+1) =(e_q c).take j ++ [pst0 c j]:=by rw[zQ,n_m c hlt];rfl
   have hzip:(rs ++ [(⟨idr,none,[]⟩ :RR)]).zip ((e_q c).take (j+1)) =rs.zip ((e_q c).take j) ++ [(⟨idr,none,[]⟩,pst0 c j)]:=by
     rw[htake,List.zip_append (by rw[hrsl,zR];show j=min j 4;omega)];rfl
   rw[a_i (by omega)]
   refine ⟨⟨j+1,rs ++ [⟨idr,none,[]⟩],some z,some z2,rfl,hlt,by simp[hrsl],fun e=>(by cases e),fun e=>(by cases e),fun x hx=>?_,?_⟩,hdec⟩
   · rcases List.mem_append.1 hx with hx | hx
     · exact hrs x hx
     · rw[List.mem_singleton.1 hx];exact ⟨rfl,rfl⟩
   · rw[hzip,List.map_append,List.map_append,List.replicate_succ']
     rw[hw] at H9
     refine H9.perm (b_q fun a=>?_)
     have e:patch (g_t mp c0 c1 c2 c3 c4 c f9 f10 f11 (b_r (some z) (j+1)) f13 (b_r st j) f15) 14 [b_r (some z2) (j+1)]=g_t mp c0 c1 c2 c3 c4 c f9 f10 f11 (b_r (some z) (j+1)) f13 (b_r (some z2) (j+1)) f15:=rfl
     have e2: [((⟨idr,none,[]⟩ :RR),pst0 c j)].map rrE=[(idr, .live a_t [[iD ((j:Int) +50),iD c.Age,iD (-1), .nils]])]:=rfl
     have e3: [(⟨idr,none,[]⟩ :RR)].map (fun x=> [pO x.i]) =[[pO idr]]:=rfl
     rw[e,e2,e3]
     simp only[List.count_append,List.count_cons,List.count_nil]
     omega
 have e:j=4:=by omega
 subst e
 rw[hN]
 have hflat:(rs.map fun x=>lsE a_e x.nm (x.ns.map Go.Fw.encI)).flatten=[]:=by
   rw[List.flatten_eq_nil_iff]
   intro m hm
   obtain ⟨x,hx,rfl⟩:=List.mem_map.1 hm
   rw[(hrs x hx).1];rfl
 refine .inr ⟨rfl,yid,⟨mp,0,[],c0,c1,c2,c3,c4,pt,gt,rc,ap,st,la,trd,rs,tk⟩,rfl,?_,hc,?_,?_,hrsl,hkl,?_,?_,hrn,?_,?_,?_,htn,?_,?_⟩
 · have q1:(List.replicate c.Secs.length (⟨1,1,0⟩ :Th)).map Th.enc=List.replicate c.Secs.length [iD 1,iD 1,iD 0]:=List.map_replicate ..
   have q2:(List.replicate c.Xs.length (⟨1,1,0⟩ :Th)).map Th.enc=List.replicate c.Xs.length [iD 1,iD 1,iD 0]:=List.map_replicate ..
   have q3:(List.replicate c.Sigs.length (⟨0,-1⟩ :Lp)).map (fun x=>Go.Fw.encI x.Asp) =List.replicate c.Sigs.length [iD 0]:=List.map_replicate ..
   have q4:(List.replicate c.Sigs.length (⟨0,-1⟩ :Lp)).map (fun x=>Go.Fw.encI x.Last) =List.replicate c.Sigs.length [iD (-1)]:=List.map_replicate ..
   have q5:(e_q c).map (fun x=>Go.Fw.encI x.Stamp) =List.replicate 4 [iD (-1)]:=rfl
   have q6:(Yd.fresh c acc).Psts=(e_q c).take 4:=rfl
   have e : c_9 yid ⟨mp, 0, [], c0, c1, c2, c3, c4, pt, gt, rc, ap, st, la, trd, rs, tk⟩ (Yd.fresh c acc) fr =
       [(yid, .live a_w [g_t mp c0 c1 c2 c3 c4 c (b_r pt c.Secs.length) (b_r gt c.Xs.length) (b_r trd acc.length) (b_r rc 4) (b_r ap c.Sigs.length) (b_r st 4) (b_r la c.Sigs.length)]),(mp, .mp 0 [])] ++
         ((c_q a_h pt (List.replicate c.Secs.length [iD 1,iD 1,iD 0]) ++ (c_q a_h gt (List.replicate c.Xs.length [iD 1,iD 1,iD 0]) ++ (c_q a_p rc (rs.map fun x=> [pO x.i]) ++ (c_q a_e ap (List.replicate c.Sigs.length [iD 0]) ++
           (c_q a_e st (List.replicate 4 [iD (-1)]) ++ (c_q a_e la (List.replicate c.Sigs.length [iD (-1)]) ++ c_q a_m trd ((tk.zip acc).map a_z))))))) ++
         ((rs.zip ((e_q c).take 4)).map rrE ++ ([] ++ ((tk.zip acc).map tkE ++ fr)))):=by
     rw[<-q1,<-q2,<-q3,<-q4,<-q5]
     unfold c_9 e_1 c_l f_f
     rw[hflat,hrsl]
     simp only[a_dh,a_dp]
     simp only[Yd.fresh,List.length_replicate]
     rfl
   rw[e]
   subst hf9 hf10 hf11 hf13 hf15 hD3 hD2 hD1 hD
   refine H.perm (b_q fun a=>?_)
   simp only[List.count_append,List.count_cons,List.count_nil]
   omega
 · intro e h;cases h
 · exact fun k=>⟨0,rfl,rfl⟩
 · intro e
   have:=hpn e
   show List.replicate c.Secs.length _=[]
   rw[this];rfl
 · intro e
   have:=hgn e
   show List.replicate c.Xs.length _=[]
   rw[this];rfl
 · intro e
   have:=han e
   show List.replicate c.Sigs.length _=[]
   rw[this];rfl
 · intro e
   exact absurd (hsn e) (by decide)
 · intro e
   have:=hln e
   show List.replicate c.Sigs.length _=[]
   rw[this];rfl
 · intro x hx e
   exact (hrs x hx).2
 · intro e he
   have he:e ∈ rs.zip (e_q c):=he
   obtain ⟨k,hk⟩:=List.mem_iff_getElem?.1 he
   obtain ⟨h1,h2⟩:=List.getElem?_zip_eq_some.1 hk
   have hk4:k < 4:=by have:=(zA.1 h1).1;omega
   rw[n_m c hk4] at h2
   injection h2 with h2
   rw[(hrs e.1 (zC h1)).2,<-h2]
   show ((0:Nat) :Int)<=(-1:Int) +1
   decide
end
section
variable {σ σ0:Store}
theorem a_ps {c:Cf}{l:List Tr}(h:(d_9 c l).1=0) :Ywf (d_9 c l).2 1/\(d_9 c l).2.C=c/\(d_9 c l).2.Trs=l:=by
 unfold d_9 at h ⊢
 split
 · rename_i h1;rw[if_pos h1] at h;exact absurd h h1
 split
 · rename_i h1 h2;rw[if_neg h1,if_pos h2] at h;cases h
 rename_i h1 h2
 rw[if_neg h1,if_neg h2] at h
 have hchk:c.check=0:=Classical.not_not.1 h1
 split
 · rename_i h3;rw[h3] at h;cases h
 · rename_i acc h3
   obtain ⟨g1,g2⟩:=a_cc c l [] acc h3 (fun t h=>by cases h)
   rw[List.nil_append] at g2
   subst g2
   refine ⟨⟨hchk,by simp[Yd.fresh],by simp[Yd.fresh],by simp[Yd.fresh],rfl,fun k p hp=>?_,by show acc.length<=4;omega,fun t ht=>?_,⟨Int.le_refl 0,by show (0:Int)<=_;decide⟩,fun l hl=>?_,fun x hx=>?_⟩,rfl,rfl⟩
   · have hp:(e_q c)[k]? =some p:=hp
     have hk:k < 4:=(zA.1 hp).1
     rw[n_m c hk] at hp
     injection hp with hp
     subst hp
     exact ⟨rfl,rfl,rfl,by show (-1:Int)<=-1;decide,by show (-1:Int)<=_;decide⟩
   · obtain ⟨a,x,e,hx⟩:=g1 t ht
     rw[e]
     exact ⟨(by intro e;cases e),(by simp),fun s hs=>by rw[List.mem_singleton.1 hs];exact ⟨x,hx⟩⟩
   · have:=List.eq_of_mem_replicate hl
     subst this
     exact ⟨by show (-1:Int)<=-1;decide,by show (-1:Int)<=_;decide⟩
   · rcases List.mem_append.1 hx with hx | hx
     · have:=List.eq_of_mem_replicate hx
       subst this
       exact ⟨Int.le_refl 0,by show (0:Int)<=2;decide⟩
     · have:=List.eq_of_mem_replicate hx
       subst this
       exact ⟨Int.le_refl 0,by show (0:Int)<=2;decide⟩
def st0:D:= .sl 3 [[iD 0,iD 0,iD 0],[iD 1,iD 0,iD 0],[iD 0,iD 0,iD 0],[iD 0,iD 0,iD 0],[iD 0,iD 0,iD 1]]
def st1:D:= .sl 4 [[iD 0,iD 1,iD 1,iD 0],[iD 1,iD 1,iD 2,iD 0],[iD 1,iD 2,iD 3,iD 0],[iD 2,iD 1,iD 4,iD 0]]
def st2:D:= .sl 2 [[iD 0,iD 1],[iD 2,iD 1]]
def st4:D:= .sl 6 [[iD 0,iD 1, .sl 3 [[iD 1,iD 0,iD 1],[iD 2,iD 0,iD 1]], .nils, .nils, .bool false],[iD 1,iD (-1), .sl 3 [[iD 4,iD 0,iD 1]], .nils, .nils, .bool false]]
theorem a_zy (s:Store) :CfAt s st0 st1 st2 .nils st4 st19:=
 ⟨r_t a_x (by simp),r_t s_a (by simp),r_t d_b (by simp), .nil,⟨_,r_t s_d (by simp),rfl,fun i row r h1 h2=>by
   have hi:i < 2:=by have:=(zA.1 h1).1;simpa using this
   rcases (show i=0\/i=1 by omega) with rfl | rfl
   · simp at h1;subst h1
     simp[st19] at h2;subst h2
     exact ⟨_,_,_,rfl,r_t q_g (by simp), .nil, .nil⟩
   · simp at h1;subst h1
     simp[st19] at h2;subst h2
     exact ⟨_,_,_,rfl,r_t q_g (by simp), .nil, .nil⟩⟩⟩
theorem a_y4 (s:Store) :p_d s (.sl 2 [[.sl 1 [[iD 0]],iD 1]]) [⟨[0],1⟩]:=
 ⟨_,r_t b_4 (by simp),rfl,fun k row t h1 h2=>by
   have hk:k=0:=by have:=(zA.1 h1).1;simp at this;exact this
   subst hk
   simp at h1 h2
   subst h1 h2
   exact ⟨_,rfl,r_t c_int (by simp)⟩⟩
theorem lives19:DCalls prog m_0 [] σ fun r _=>r= .a (bA true):=by
 obtain ⟨hw0,_,_⟩:=a_ps a_wx
 refine a_gx σ _ ((a_c6 σ (fun r s=>s=σ/\r= .a (.agg [st0,st1,st2, .nils,st4,iD 2,iD 1,iD 4,iD 1000])) ⟨rfl,rfl⟩).mono ?_)
 rintro r s ⟨rfl,rfl⟩
 refine ⟨_,_,_,_,_,_,_,_,_,rfl,(a_b2 (c:=st19) (l:= [⟨[0],1⟩]) (fr:= []) a_zy (by intro e;cases e) (by intro e;cases e) (by intro e;cases e) (by intro e;cases e) a_y4 (.nil _)).mono ?_⟩
 rintro r s1 (⟨h,_⟩ | ⟨_,id,L,rfl,h0⟩)
 · exact absurd a_wx h
 refine ⟨_,_,rfl,fun R hR=>⟨false,rfl,bc (fun e=>by cases e) (fun _=>bcn (fun e=>absurd rfl e) (fun _=>(h0.move hw0 (by omega) 0).mono ?_))⟩⟩
 rintro r s2 ⟨rfl,L1,h1⟩
 have hw1:=hw0.move 0
 refine ⟨_,rfl,bcn (fun e=>absurd a_w8 e) (fun _=>hR s2 ?_)⟩
 clear hR
 have h1:YdIn s2 id L1 lv1 []:=h1
 have hw1:Ywf lv1 2:=hw1
 refine (h1.tick hw1 5).mono ?_
 rintro r s3 ⟨rfl,h2⟩
 have hw2:Ywf lv2 2:=hw1.tick (by decide)
 have h2:YdIn s3 id L1 lv2 []:=h2
 refine ⟨rfl,Pure.use (a_hs (p:=50) (n:=1) (s:=5) (b:= [2,0,2,0]) (by omega) (by omega) (by omega) (by decide)) ⟨_,_,rfl,fun R1 hR1=>(h2.take hw2 0 (t:=t19) (by
   unfold t19
   rw[y_t,zP,y_y];decide)).mono ?_⟩⟩
 rintro r s4 ⟨rfl,L3,h3⟩
 have hw3:=hw2.take 0 t19
 obtain ⟨e2,e1⟩:=a_wn
 generalize lv2.take 0 t19=q at e1 e2 h3 hw3 ⊢
 rw[e1] at hw3 h3
 refine ⟨_,rfl,bcn (fun e=>absurd e2 e) (fun _=>(h3.shows hw3 0).use ⟨_,rfl,bcn (fun e=>absurd a_wl e) (fun _=>hR1 s4 ?_)⟩)⟩
 clear hR1
 refine (h3.look hw3).mono ?_
 rintro r s5 ⟨rfl,h4⟩
 have hw4:Ywf lv4 2:=hw3.look
 have h4:YdIn s5 id L3 lv4 []:=h4
 refine ⟨rfl,(h4.move hw4 (by omega) 0).mono ?_⟩
 rintro r s6 ⟨rfl,L5,h5⟩
 have hw5:Ywf lv5 3:=hw4.move 0
 have h5:YdIn s6 id L5 lv5 []:=h5
 refine ⟨_,rfl,bcn (fun e=>absurd a_un e) (fun _=>(h5.trains hw5 (by omega)).mono ?_)⟩
 rintro r s7 ⟨rfl,d,rfl,hd⟩
 obtain ⟨rows,hat,hlen,hrow⟩:=hd s7
 obtain ⟨t,ht,e3,e4⟩:=a_wb
 obtain ⟨row,hr⟩:=a_c (l:=rows) (j:=0) (by rw[hlen,a_wa];decide)
 obtain ⟨e,rfl,hae⟩:=hrow 0 row t hr ht
 rw[e3] at hae
 refine ⟨d,rfl,hat.lenK ?_⟩
 rw[hlen,a_wa]
 refine bce (fun _=>hat.load (j:=0) hr b_4 rfl ⟨e,rfl,hae.lenK (bce (fun _=>hat.load (j:=0) hr b_4 rfl ⟨e,rfl,hae.load (j:=0) rfl c_int rfl ⟨1,rfl,bce (fun _=>hat.load (j:=0) hr b_4 rfl ⟨t.Out,rfl,bce (fun _=>(h5.hits hw5 (by omega)).mono ?_) (fun h=>absurd e4 h)⟩) (fun h=>absurd rfl h)⟩⟩) (fun h=>absurd rfl h))⟩) (fun h=>absurd rfl h)
 rintro r s8 ⟨rfl,d9,rfl,hd9⟩
 refine ⟨d9,rfl,(hd9 s8).lenK ?_⟩
 rw[zB,a_xh]
 rfl
end
section
variable {σ σ0:Store}
theorem a_u9 {row:List D}{n:Nat}(h:tyD prog n a_m row) :∃t:Tr,∃e,row=[e,iD t.Out]/\(∀s,At prog s a_e e (t.Secs.map Go.Fw.encI))/\8 * t.Secs.length<=140737488351232:=by
 obtain ⟨d,_,rfl,h1,_,_,rfl,⟨b,rfl,hb⟩,rfl⟩:=r_w n 5 _ _ [.sl a_e, .int .i64] h (by kernel_rfl)
 obtain ⟨l,a1,b1,z1,e1⟩:=k_h (bytes:=8) Go.Fw.encI _ (fun row n h=>ty_i h) (by kernel_rfl) (by omega) h1
 exact ⟨⟨l,b⟩,d,rfl,a1,e1⟩
theorem a_ub {cs:List D}{n:Nat}(h:tyD prog n t_law19_Case cs) :∃c0 c1 c2 c3 c4 dt c l,cs=[c0,c1,c2,c3,c4,iD c.Age,iD c.Brake,iD c.Hold,iD c.Budget,dt]/\(∀s,CfAt s c0 c1 c2 c3 c4 c)/\
   (c0≠ .zsl/\c1≠ .zsl/\c2≠ .zsl/\c3≠ .zsl)/\(∀s,p_d s dt l)/\(∀t ∈ l,8 * t.Secs.length<=140737488351232)/\32 * l.length<=140737488351232/\I64 c.Age/\I64 c.Brake:=by
 obtain ⟨c0,_,rfl,h0,c1,_,rfl,h1,c2,_,rfl,h2,c3,_,rfl,h3,c4,_,rfl,h4,_,_,rfl,⟨a,rfl,ha⟩,_,_,rfl,⟨b,rfl,hb⟩,_,_,rfl,⟨ho,rfl,hho⟩,_,_,rfl,⟨bu,rfl,hbu⟩,dt,_,rfl,h5,rfl⟩:=
   r_w n 5 _ _ [.sl d_n, .sl e_8, .sl c_v, .sl a_e, .sl s_b, .int .i64, .int .i64, .int .i64, .int .i64, .sl a_m] h (by kernel_rfl)
 obtain ⟨l0,a0,b0,z0,e0⟩:=k_h (bytes:=24) Sec.enc _ (fun row n h=>a_ru h) (by kernel_rfl) (by omega) h0
 obtain ⟨l1,a1,b1,z1,e1⟩:=k_h (bytes:=32) Jt.enc _ (fun row n h=>a_uv h) (by kernel_rfl) (by omega) h1
 obtain ⟨l2,a2,b2,z2,e2⟩:=k_h (bytes:=16) Sg.enc _ (fun row n h=>a_tm h) (by kernel_rfl) (by omega) h2
 obtain ⟨l3,a3,b3,z3,e3⟩:=k_h (bytes:=8) Go.Fw.encI _ (fun row n h=>ty_i h) (by kernel_rfl) (by omega) h3
 obtain ⟨rows,l4,a4,q4,b4,_,e4⟩:=a_u6 (bytes:=96) (fun row r=>(∀s,RtAt prog f_k c_e a_e s row r)/\RtI r) (fun row n h=>a_vi h) (by kernel_rfl) (by omega) h4
 obtain ⟨trows,l5,a5,q5,b5,_,e5⟩:=a_u6 (bytes:=32) (fun row (t:Tr)=>∃e,row=[e,iD t.Out]/\(∀s,At prog s a_e e (t.Secs.map Go.Fw.encI))/\8 * t.Secs.length<=140737488351232) (fun row n h=>a_u9 h) (by kernel_rfl) (by omega) h5
 refine ⟨c0,c1,c2,c3,c4,dt,⟨l0,l1,l2,l3,l4,a,b,ho,bu⟩,l5,rfl,fun s=>⟨a0 s,a1 s,a2 s,a3 s,rows,a4 s,q4,fun i row r x y=>(b4 i row r x y).1 s⟩,⟨z0,z1,z2,z3⟩,fun s=>⟨trows,a5 s,q5,fun k row t x y=>?_⟩,fun t ht=>?_,e5,g_i ha,g_i hb⟩
 · obtain ⟨e,e1,e2,_⟩:=b5 k row t x y
   exact ⟨e,e1,e2 s⟩
 · obtain ⟨i,hi⟩:=List.mem_iff_getElem?.1 ht
   have hlt:=(zA.1 hi).1
   obtain ⟨row,hrow⟩:=a_c (l:=trows) (j:=i) (by omega)
   obtain ⟨e,_,_,e3⟩:=b5 i row t hrow hi
   exact e3
theorem a_xz {row:List D}{n:Nat}(h:tyD prog n u_l row) :∃o:Op5,row=o.enc/\I64 o.Kind/\I64 o.N/\o.Text.length<=140737488351232:=by
 obtain ⟨_,_,rfl,⟨a,rfl,ha⟩,_,_,rfl,⟨b,rfl,hb⟩,_,_,rfl,⟨c,rfl,hc⟩,_,_,rfl,⟨on,rfl⟩,_,_,rfl,⟨s,rfl,hs⟩,rfl⟩:=r_w n 5 _ _ [.int .i64, .int .i64, .int .i64, .bool, .str] h (by kernel_rfl)
 refine ⟨⟨a,b,c,on,s.data.toList⟩,?_,g_i ha,g_i hb,?_⟩
 · unfold Op5.enc
   rw[a_s2]
 · have:(ofL s.data.toList).size=s.size:=by rw[a_s2]
   rw[a_9] at this
   show s.data.toList.length<=_
   omega
end
end Go.Proofs.YtaklhjodjbgmgaaGreat
namespace Go.Fw
section
def Yd.opd (y:Yd)(o:Op5) :Yd:=
 if o.Kind=1 then y.tick o.N else if o.Kind=2 then (y.take o.N o.Text).1 else if o.Kind=3 then y.look else if o.Kind=4 then (y.fault o.Kind2 o.N o.On).1 else
 if o.Kind=5 then (y.move o.N).1 else if o.Kind=6 then (y.tail o.N).1 else if o.Kind=7 then (y.turn o.N).1 else if o.Kind=8 then (y.leave o.N).1 else if o.Kind=9 then (y.enter o.N).1 else y
def Keeps (y y':Yd) :Prop:=y'.C=y.C/\y'.Pts=y.Pts/\y'.Gts=y.Gts/\y'.Psts=y.Psts
theorem Keeps.refl (y:Yd) :Keeps y y:=⟨rfl,rfl,rfl,rfl⟩
theorem a_br (y:Yd)(k n:Int)(b:Bool) :Keeps y (y.fault k n b).1:=by
 unfold Yd.fault
 repeat' split
 all_goals first | exact .refl y | exact ⟨rfl,rfl,rfl,rfl⟩
theorem a_gt (y:Yd)(i:Int) :Keeps y (y.move i).1:=by
 unfold Yd.move
 repeat' split
 all_goals first | exact .refl y | exact ⟨rfl,rfl,rfl,rfl⟩
theorem a_gd (y:Yd)(i:Int) :Keeps y (y.tail i).1:=by
 unfold Yd.tail
 repeat' split
 all_goals first | exact .refl y | exact ⟨rfl,rfl,rfl,rfl⟩
theorem a_d5 (y:Yd)(i:Int) :Keeps y (y.turn i).1:=by
 unfold Yd.turn
 repeat' split
 all_goals first | exact .refl y | exact ⟨rfl,rfl,rfl,rfl⟩
theorem a_bl (y:Yd)(i:Int) :Keeps y (y.leave i).1:=by
 unfold Yd.leave
 repeat' split
 all_goals first | exact .refl y | exact ⟨rfl,rfl,rfl,rfl⟩
theorem a_b7 (y:Yd)(i:Int) :Keeps y (y.enter i).1:=by
 unfold Yd.enter
 dsimp only
 repeat' split
 all_goals first | exact .refl y | exact ⟨rfl,rfl,rfl,rfl⟩
theorem a_qn (y:Yd) :Keeps y y.look:=⟨rfl,rfl,rfl,rfl⟩
theorem Yd.opd_C (y:Yd)(o:Op5) :(y.opd o).C=y.C:=by
 unfold Yd.opd
 split
 · unfold Yd.tick;split <;> rfl
 split
 · unfold Yd.take
   split
   · rfl
   split
   · rfl
   split <;> rfl
 split
 · rfl
 split
 · exact (a_br y _ _ _).1
 split
 · exact (a_gt y _).1
 split
 · exact (a_gd y _).1
 split
 · exact (a_d5 y _).1
 split
 · exact (a_bl y _).1
 split
 · exact (a_b7 y _).1
 · rfl
structure Still (y:Yd) :Prop where
 pts:∀x ∈ y.Pts,x.At=1/\x.Left=0
 gts:∀x ∈ y.Gts,x.At=1/\x.Left=0
 st:∀p ∈ y.Psts,p.Stamp= -1
theorem Still.of {y y':Yd}(h:Still y)(hk:Keeps y y') :Still y':=by
 obtain ⟨_,a,b,c⟩:=hk
 exact ⟨by rw[a];exact h.pts,by rw[b];exact h.gts,by rw[c];exact h.st⟩
theorem w_4 (f:Int->Bool) :∀(l:List Th) (i:Int),(∀x ∈ l,x.At=1/\x.Left=0)->h_l f l i=l
 | [],_,_=>rfl
 | x::r,i,h=>by
   have hx:=h x List.mem_cons_self
   have ih:=w_4 f r (i+1) fun z hz=>h z (List.mem_cons_of_mem _ hz)
   have e:x.tick (f i) =x:=by unfold Th.tick;rw[if_neg (by omega)]
   rw[h_l,ih,e]
theorem Still.opd {y:Yd}(h:Still y){o:Op5}(hk:o.Kind≠2) :Still (y.opd o):=by
 unfold Yd.opd
 split
 · unfold Yd.tick
   split
   · exact h
   · refine ⟨?_,?_,h.st⟩
     · show ∀x ∈ h_l _ y.Pts 0,_
       rw[w_4 _ _ _ h.pts];exact h.pts
     · show ∀x ∈ h_l _ y.Gts 0,_
       rw[w_4 _ _ _ h.gts];exact h.gts
 split
 · exact h.of (a_qn y)
 split
 · exact h.of (a_br y _ _ _)
 split
 · exact h.of (a_gt y _)
 split
 · exact h.of (a_gd y _)
 split
 · exact h.of (a_d5 y _)
 split
 · exact h.of (a_bl y _)
 split
 · exact h.of (a_b7 y _)
 · exact h
theorem r_9 {α:Type}{l:List α}{t:Int}{x:α}(h:a_n l t=some x) :x ∈ l:=zC (b_w h).2.2
theorem Still.shows {y:Yd}(h:Still y)(x:Int) :y.shows x=0:=by
 unfold Yd.shows
 split
 · split
   · split
     · rename_i p hp
       have:=h.st p (r_9 hp)
       rw[if_pos (.inl (by omega))]
     · rfl
   · rfl
 · rfl
theorem Still.pos {y:Yd}(h:Still y)(x:Int) :y.stPos x≠2:=by
 unfold Yd.stPos
 split
 · rename_i p hp
   have:=h.pts p (r_9 hp)
   split <;> omega
 · decide
theorem Still.shut {y:Yd}(h:Still y){i:Int}(h0:0<=i)(h1:i < y.Gts.length) :y.shut i=true:=by
 obtain ⟨x,hx⟩:=i_9 (l:=y.Gts) (show ¬i < 0 by omega) (by omega)
 have:=h.gts x (r_9 hx)
 unfold Yd.shut
 rw[hx]
 simp only[Option.map_some,Option.getD_some,zO,decide_eq_true_eq]
 omega
theorem a_d4 (y:Yd) :∀(l:List Sec) (i:Int),∀g ∈ j_7 y l i,g.Kind=1
 | [],_,g,h=>by cases h
 | _::r,i,g,h=>by
   rw[j_7] at h
   rcases List.mem_append.1 h with h | h
   · split at h
     · rw[List.mem_singleton.1 h]
     · cases h
   · exact a_d4 y r (i+1) g h
theorem a_ge {y:Yd}(hy:Still y) :∀(l:List Sec) (i:Int),j_8 y l i=[]
 | [],_=>rfl
 | x::r,i=>by
   rw[j_8,a_ge hy r (i+1),if_neg]
   · rfl
   · rintro ⟨_,_,h⟩
     cases hp:a_n y.Pts i with
     | none=>rw[hp] at h;exact absurd h (by decide)
     | some p=>
       rw[hp] at h
       have:=hy.pts p (r_9 hp)
       have h:p.Left > 0:=h
       omega
theorem a_es {y:Yd}(hy:Still y) :∀(l:List Int) (i:Int),0<=i->i+l.length<=y.Gts.length->m_h y l i=[]
 | [],_,_,_=>rfl
 | x::r,i,h0,h1=>by
   rw[List.length_cons] at h1
   rw[m_h,a_es hy r (i+1) (by omega) (by omega),if_neg]
   · rfl
   · rintro ⟨_,h⟩
     rw[hy.shut h0 (by omega)] at h
     cases h
theorem a_eh:∀(l:List Tr),∀g ∈ p_0 l,g.Kind=4
 | [],g,h=>by cases h
 | t::r,g,h=>by
   rw[p_0] at h
   rcases List.mem_append.1 h with h | h
   · split at h
     · rw[List.mem_singleton.1 h]
     · cases h
   · exact a_eh r g h
theorem Still.hits {y:Yd}(h:Still y)(hl:y.Gts.length=y.C.Xs.length) :∀g ∈ y.hits,g.Kind≠2/\g.Kind≠3:=by
 intro g hg
 unfold Yd.hits at hg
 rw[a_ge h,a_es h _ _ (by omega) (by omega),zS,zS] at hg
 rcases List.mem_append.1 hg with hg | hg
 · rw[a_d4 y _ _ g hg];decide
 · rw[a_eh _ g hg];decide
end
end Go.Fw
namespace Go.Proofs.YtaklhjodjbgmgaaGreat
open Go.Fw Go.Proofs Go.RowKit
open Go.Proofs.Tryz (prog)
section
variable {σ σ0:Store}
theorem a_iw (id:Nat)(L:YL)(y:Yd)(fr:List (Nat × SO)) :b_8 id L y fr=b_8 id L y [] ++ fr:=by
 unfold b_8
 simp only[zK,zS,List.nil_append]
theorem a_jl (id:Nat)(L:RL)(y:Yd)(fr:List (Nat × SO)) :c_9 id L y fr=c_9 id L y [] ++ fr:=by
 unfold c_9
 simp only[zK,zS,List.nil_append]
theorem RyIn.frame {s s':Store}{id:Nat}{L:RL}{y:Yd}{fr fr':List (Nat × SO)}(h:RyIn s id L y fr)(H:Heap s' (c_9 id L y fr')) :RyIn s' id L y fr':=⟨H,h.cfg,h.keys,h.flt,h.rsl,h.tkl,h.ptn,h.gtn,h.rcn,h.apn,h.stn,h.lan,h.trn,h.nmn,h.num⟩
theorem YdIn.frame {s s':Store}{id:Nat}{L:YL}{y:Yd}{fr fr':List (Nat × SO)}(h:YdIn s id L y fr)(H:Heap s' (b_8 id L y fr')) :YdIn s' id L y fr':=⟨H,h.cfg,h.keys,h.flt,h.psl,h.sh,h.tkl,h.trn⟩
structure Both (s:Store) (iy ir:Nat) (L:YL) (M:RL) (y:Yd) :Prop where
 yd:YdIn s iy L y (c_9 ir M y [])
 ry:RyIn s ir M y (b_8 iy L y [])
theorem RyIn.beside {s s':Store}{iy ir:Nat}{L':YL}{M:RL}{y y':Yd}{fr:List (Nat × SO)}(h:RyIn s ir M y fr)(h':YdIn s' iy L' y' (c_9 ir M y [])) :RyIn s' ir M y (b_8 iy L' y' []):=by
 refine h.frame ?_
 have H:=h'.heap
 rw[a_iw] at H
 rw[a_jl]
 exact H.perm List.perm_append_comm
theorem YdIn.beside {s s':Store}{iy ir:Nat}{L:YL}{M':RL}{y:Yd}{y':Yd}{fr:List (Nat × SO)}(h:YdIn s iy L y fr)(h':RyIn s' ir M' y' (b_8 iy L y [])) :YdIn s' iy L y (c_9 ir M' y' []):=by
 refine h.frame ?_
 have H:=h'.heap
 rw[a_jl] at H
 rw[a_iw]
 exact H.perm List.perm_append_comm
theorem Ywf.opd {y:Yd}{N:Nat}(hw:Ywf y N)(hN:1<=N){o:Op5}(iN:I64 o.N) :Ywf (y.opd o) (N+1):=by
 have up:=hw.up (M:=N+1) (by omega)
 unfold Yd.opd
 split
 · exact up.tick iN.2
 split
 · exact up.take _ _
 split
 · exact up.look
 split
 · exact up.fault _ _ _
 split
 · exact hw.move _
 split
 · exact up.tail _
 split
 · exact up.turn _
 split
 · exact up.leave _
 split
 · exact up.enter (by omega) _
 · exact up
theorem a_hq {s:Store}{iy ir:Nat}{L:YL}{M:RL}{y:Yd}{N:Nat}(hB:Both s iy ir L M y)(hw:Ywf y N)(hN:N<=2 ^ 42){o:Op5}(hT:o.Text.length<=2 ^ 59) :
   DCalls prog o_k [.one (pO iy), .one (pO ir), .agg o.enc] s fun r s'=>r= .a (bA true)/\∃L' M',Both s' iy ir L' M' (y.opd o):=by
 obtain ⟨hY,hR⟩:=hB
 have go : ∀ {n1 n2 : FuncId} {a1 a2 : List A} {y' : Yd} {e : Int}, y.opd o = y' ->
     (DCalls prog n1 a1 s fun r s'=>r= .a (iA e)/\∃L',YdIn s' iy L' y' (c_9 ir M y []))->
     (∀s2 fr,RyIn s2 ir M y fr->DCalls prog n2 a2 s2 fun r s'=>r= .a (iA e)/\∃M',RyIn s' ir M' y' fr)->
     DCalls prog n1 a1 s fun r s'=>∃n:Int,r= .a (iA n)/\DCalls prog n2 a2 s' fun r1 s''=>∃n1:Int,r1= .a (iA n1)/\((RV.a (bA (n == n1))) = .a (bA true)/\∃L' M',Both s'' iy ir L' M' (y.opd o)):=by
   intro n1 n2 a1 a2 y' e he h1 h2
   refine h1.mono ?_
   rintro r s1 ⟨rfl,L',hY1⟩
   refine ⟨_,rfl,(h2 s1 _ (hR.beside hY1)).mono ?_⟩
   rintro r s2 ⟨rfl,M',hR2⟩
   refine ⟨_,rfl,by rw[beq_self_eq_true],L',M',?_⟩
   rw[he]
   exact ⟨hY1.beside hR2,hR2⟩
 have go0 : ∀ {n1 n2 : FuncId} {a1 a2 : List A} {y' : Yd}, y.opd o = y' ->
     (DCalls prog n1 a1 s fun r s'=>r= .tup []/\YdIn s' iy L y' (c_9 ir M y []))->
     (∀s2 fr,RyIn s2 ir M y fr->DCalls prog n2 a2 s2 fun r s'=>r= .tup []/\RyIn s' ir M y' fr)->
     DCalls prog n1 a1 s fun r s'=>r= .tup []/\DCalls prog n2 a2 s' fun r1 s''=>r1= .tup []/\(RV.a (bA true) = .a (bA true)/\∃L' M',Both s'' iy ir L' M' (y.opd o)):=by
   intro n1 n2 a1 a2 y' he h1 h2
   refine h1.mono ?_
   rintro r s1 ⟨rfl,hY1⟩
   refine ⟨rfl,(h2 s1 _ (hR.beside hY1)).mono ?_⟩
   rintro r s2 ⟨rfl,hR2⟩
   refine ⟨rfl,rfl,L,M,?_⟩
   rw[he]
   exact ⟨hY1.beside hR2,hR2⟩
 have hO:y.opd o=if o.Kind=1 then y.tick o.N else if o.Kind=2 then (y.take o.N o.Text).1 else if o.Kind=3 then y.look else if o.Kind=4 then (y.fault o.Kind2 o.N o.On).1 else
   if o.Kind=5 then (y.move o.N).1 else if o.Kind=6 then (y.tail o.N).1 else if o.Kind=7 then (y.turn o.N).1 else if o.Kind=8 then (y.leave o.N).1 else if o.Kind=9 then (y.enter o.N).1 else y:=rfl
 refine a_mi (pO iy) (pO ir) o.Kind o.N o.Kind2 o.On (ofL o.Text) s _ ?_
 refine bce (fun e=>?_) (fun e1=>bce (fun e=>?_) (fun e2=>bce (fun e=>?_) (fun e3=>bce (fun e=>?_) (fun e4=>bce (fun e=>?_) (fun e5=>bce (fun e=>?_) (fun e6=>bce (fun e=>?_) (fun e7=>bce (fun e=>?_) (fun e8=>bce (fun e=>?_) (fun e9=>?_)))))))))
 · exact go0 (by rw[hO,if_pos e]) (hY.tick hw o.N) fun s2 fr h=>h.tick hw o.N
 · exact go (by rw[hO,if_neg e1,if_pos e]) (hY.take hw o.N hT) fun s2 fr h=>h.take hw o.N hT
 · exact go0 (by rw[hO,if_neg e1,if_neg e2,if_pos e]) (hY.look hw) fun s2 fr h=>h.look hw
 · exact go (by rw[hO,if_neg e1,if_neg e2,if_neg e3,if_pos e]) (hY.setFault hw _ _ _) fun s2 fr h=>h.setFault hw _ _ _
 · exact go (by rw[hO,if_neg e1,if_neg e2,if_neg e3,if_neg e4,if_pos e]) (hY.move hw (by omega) _) fun s2 fr h=>h.move hw (by omega) _
 · exact go (by rw[hO,if_neg e1,if_neg e2,if_neg e3,if_neg e4,if_neg e5,if_pos e]) (hY.tail hw (by omega) _) fun s2 fr h=>h.tail hw (by omega) _
 · exact go (by rw[hO,if_neg e1,if_neg e2,if_neg e3,if_neg e4,if_neg e5,if_neg e6,if_pos e]) (hY.turn hw (by omega) _) fun s2 fr h=>h.turn hw (by omega) _
 · exact go (by rw[hO,if_neg e1,if_neg e2,if_neg e3,if_neg e4,if_neg e5,if_neg e6,if_neg e7,if_pos e]) (hY.leave hw (by omega) _) fun s2 fr h=>h.leave hw (by omega) _
 · exact go (by rw[hO,if_neg e1,if_neg e2,if_neg e3,if_neg e4,if_neg e5,if_neg e6,if_neg e7,if_neg e8,if_pos e]) (hY.enter hw _) fun s2 fr h=>h.enter hw _
 · refine ⟨rfl,L,M,?_⟩
   rw[hO,if_neg e1,if_neg e2,if_neg e3,if_neg e4,if_neg e5,if_neg e6,if_neg e7,if_neg e8,if_neg e9]
   exact ⟨hY,hR⟩
end
section
variable {σ σ0:Store}
theorem a_ud {c:Cf}{l:List Tr}(h:(d_9 c l).1=0) :Still (d_9 c l).2:=by
 have fresh:∀l,Still (Yd.fresh c l):=fun l=>⟨fun x hx=>by rw[List.eq_of_mem_replicate hx];exact ⟨rfl,rfl⟩,fun x hx=>by rw[List.eq_of_mem_replicate hx];exact ⟨rfl,rfl⟩,fun p hp=>by
   have hp:p ∈ e_q c:=hp
   obtain ⟨q,_,rfl⟩:=List.mem_map.1 hp
   rfl⟩
 unfold d_9
 split
 · exact fresh _
 split
 · exact fresh _
 split <;> exact fresh _
theorem law19_YardStill_ok {xs:List A}(h:TyAs prog [t_law19_Case,t_sl_law19_Op] xs) :DCalls prog m_g xs noS fun r _=>r= .a (bA true):=by
 obtain ⟨a0,xs,rfl,h0,hr0⟩:=a_oh h
 obtain ⟨a1,xs,rfl,h1,hr1⟩:=a_oh hr0
 obtain rfl:=a_xi hr1
 obtain ⟨cs,_,rfl,p0⟩:=a_yg h0 (by kernel_rfl)
 obtain ⟨script,rfl,p1⟩:=a_wk (c:= .sl u_l) h1 (by kernel_rfl) (by kernel_rfl)
 obtain ⟨c0,c1,c2,c3,c4,dt,c,l,rfl,hc,⟨z0,z1,z2,z3⟩,ht,hts,htl,_,_⟩:=a_ub p0
 obtain ⟨ops,hops,hopsI,_,hopl⟩:=k_h (bytes:=48) Op5.enc (fun o=>I64 o.Kind/\I64 o.N/\o.Text.length<=140737488351232) (fun row n h=>a_xz h) (by kernel_rfl) (by omega) p1
 clear h h0 h1 hr0 hr1 p0 p1
 refine x_d c0 c1 c2 c3 c4 c.Age c.Brake c.Hold c.Budget dt script noS _ (lives19.mono ?_)
 rintro r s0 rfl
 refine ⟨true,rfl,a_0 (fun e=>by cases e) (fun _=>(a_cl ht hts htl).mono ?_)⟩
 rintro r s1 ⟨rfl,dt',rfl,ht'⟩
 refine ⟨dt',rfl,(a_b2 (fr:= []) hc z0 z1 z2 z3 ht' (.nil _)).mono ?_⟩
 rintro r s2 (⟨hne,rfl⟩ | ⟨he,iy,L0,rfl,hY0⟩)
 · refine ⟨.nilp,_,rfl,(y_u (fr:= []) hc ht (.nil _)).mono ?_⟩
   rintro r s3 (⟨_,rfl⟩ | ⟨he,_⟩)
   · exact ⟨.nilp,_,rfl,fun R hR=>bcn (fun _=>by rw[beq_self_eq_true]) (fun e=>absurd e hne)⟩
   · exact absurd he hne
 refine ⟨_,_,rfl,(y_u (fr:=b_8 iy L0 (d_9 c l).2 []) hc ht hY0.heap).mono ?_⟩
 rintro r s3 (⟨hne,_⟩ | ⟨_,ir,M0,rfl,hR0⟩)
 · exact absurd he hne
 obtain ⟨hW0,hC0,_⟩:=a_ps he
 have hS0:=a_ud he
 have hB0:Both s3 iy ir L0 M0 (d_9 c l).2:=⟨hY0.beside hR0,hR0⟩
 generalize (d_9 c l).2=y0 at hB0 hW0 hC0 hS0
 clear hY0 hR0
 refine ⟨_,_,rfl,fun R hR=>bcn (fun e=>absurd rfl e) (fun _=>bcn (fun e=>absurd rfl e) (fun _=>hR s3 ?_))⟩
 clear hR R
 refine (hops s3).lenK ⟨fun n s=>∃(j:Nat) (y:Yd) (L:YL) (M:RL),n=j/\j<=ops.length/\Both s iy ir L M y/\Ywf y (1+j)/\y.C=c/\Still y,fun n _=>ops.length - n.toNat,⟨0,y0,L0,M0,rfl,by omega,hB0,hW0,hC0,hS0⟩,?_⟩
 clear hB0 hW0 hC0 hS0 y0 L0 M0
 rintro _ s ⟨j,y,L,M,rfl,hj,hB,hW,hC,hS⟩
 rw[zB]
 refine bcd (fun hlt=>?_) (fun _=>?_)
 · have hlt:j < ops.length:=by omega
   obtain ⟨o,ho⟩:=a_c (l:=ops) (j:=j) hlt
   obtain ⟨iK,iN,iT⟩:=hopsI o (zC ho)
   have hdec:=a_v hlt
   refine (hops s).load (a_g ho) a_qx rfl ⟨o.Kind,o.N,o.Kind2,o.On,ofL o.Text,rfl,bce (fun _=>?_) (fun hk=>(a_hq hB hW (by omega) (o:=o) (by omega)).mono ?_)⟩
   · rw[a_i (by omega)]
     exact ⟨⟨j+1,y,L,M,rfl,hlt,hB,hW.up (by omega),hC,hS⟩,hdec⟩
   rintro r s6 ⟨rfl,L',M',hB6⟩
   have hW6:=hW.opd (by omega) (o:=o) iN
   have hC6:(y.opd o).C=c:=(y.opd_C o).trans hC
   have hS6:=hS.opd (o:=o) hk
   generalize y.opd o=y6 at hB6 hW6 hC6 hS6
   clear hB hW hC hS y L M
   obtain ⟨hY,hR⟩:=hB6
   have hcl:=c_m hW6.chk
   rw[hC6] at hcl
   refine ⟨true,rfl,a_0 (fun e=>by cases e) (fun _=>(hY.hits hW6 (by omega)).mono ?_)⟩
   rintro r s7 ⟨rfl,d,rfl,hd⟩
   have hhs:=(hd s7).size
   rw[zB] at hhs
   refine ⟨d,rfl,(hd s7).lenK ⟨fun n s=>s=s7/\∃i:Nat,n=i/\i<=y6.hits.length,fun n _=>y6.hits.length - n.toNat,⟨rfl,0,rfl,by omega⟩,?_⟩⟩
   rw[zB]
   rintro _ s8 ⟨rfl,i,rfl,hi⟩
   refine bcd (fun hlti=>?_) (fun _=>?_)
   · have hlti:i < y6.hits.length:=by omega
     obtain ⟨g,hg⟩:=a_c (l:=y6.hits) (j:=i) hlti
     have hdeci:=a_v hlti
     have hgk:=hS6.hits hW6.gts g (zC hg)
     refine (hd s8).load (a_g hg) a_w3 rfl ⟨g.Kind,g.Sec,rfl,bce (fun e=>absurd e hgk.1) (fun _=>bce (fun e=>absurd e hgk.2) (fun _=>?_))⟩
     rw[a_i (by omega)]
     exact ⟨⟨rfl,i+1,rfl,hlti⟩,hdeci⟩
   refine (hc s8).sigs.lenK ⟨fun n s=>s=s8/\∃i:Nat,n=i/\i<=c.Sigs.length,fun n _=>c.Sigs.length - n.toNat,⟨rfl,0,rfl,by omega⟩,?_⟩
   rw[zB]
   clear hi
   rintro _ s9 ⟨rfl,i,rfl,hi⟩
   refine bcd (fun hlti=>?_) (fun _=>?_)
   · have hlti:i < c.Sigs.length:=by omega
     have hdeci:=a_v hlti
     refine (hY.shows hW6 i).use ⟨_,rfl,bcn (fun e=>absurd (hS6.shows i) e) (fun _=>?_)⟩
     rw[a_i (by omega)]
     exact ⟨⟨rfl,i+1,rfl,hlti⟩,hdeci⟩
   · rw[a_i (by omega)]
     exact ⟨⟨j+1,y6,L',M',rfl,hlt,⟨hY,hR⟩,hW6.up (by omega),hC6,hS6⟩,hdec⟩
 obtain ⟨hY,hR⟩:=hB
 have hcl:=c_m hW.chk
 rw[hC] at hcl
 refine ⟨fun n s'=>s'=s/\∃k:Nat,n=k/\k<=4,fun n _=>4 - n.toNat,⟨rfl,0,rfl,by omega⟩,?_⟩
 rintro _ s7 ⟨rfl,k,rfl,hk⟩
 refine bcd (fun hlt4=>?_) (fun _=>rfl)
 have hlt4:k < 4:=by omega
 have hdec4:=a_v hlt4
 obtain ⟨p,hp⟩:=a_c (l:=y.Psts) (j:=k) (by rw[hW.psts];exact hlt4)
 obtain ⟨w1,_⟩:=hW.pst k p hp
 rw[hC] at w1
 obtain ⟨l1,l2,l3⟩:=v_v c k
 have b1:p.H.Pts.length<=c.Secs.length:=by rw[w1];exact (l1 c.Secs 0).2
 refine (hY.status hW (by omega) hp).mono ?_
 rintro r s9 ⟨rfl,a0,a1,a2,a3,rfl,hO,hP,hS',hL⟩
 refine ⟨a0,a1,a2,a3,rfl,(hP s9).lenK ⟨fun n s=>s=s9/\∃i:Nat,n=i/\i<=p.H.Pts.length,fun n _=>p.H.Pts.length - n.toNat,⟨rfl,0,rfl,by omega⟩,?_⟩⟩
 rw[zB,zB]
 rintro _ s10 ⟨rfl,i,rfl,hi⟩
 refine bcd (fun hlti=>?_) (fun _=>?_)
 · have hlti:i < p.H.Pts.length:=by omega
   obtain ⟨x,hx⟩:=a_c (l:=p.H.Pts) (j:=i) hlti
   have hdeci:=a_v hlti
   refine (hP s10).load (a_g (a_g hx)) c_int rfl ⟨y.stPos x,rfl,bce (fun e=>absurd e (hS.pos x)) (fun _=>?_)⟩
   rw[a_i (by omega)]
   exact ⟨⟨rfl,i+1,rfl,hlti⟩,hdeci⟩
 · rw[a_i (by omega)]
   exact ⟨⟨rfl,k+1,rfl,hlt4⟩,hdec4⟩
end
end Go.Proofs.YtaklhjodjbgmgaaGreat
