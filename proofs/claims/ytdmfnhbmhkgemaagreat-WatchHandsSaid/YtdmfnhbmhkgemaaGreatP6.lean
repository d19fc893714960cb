/-
  Proofs that the statement of this claim leans on: part 6.
-/
import Derived.Test.YtdmfnhbmhkgemaaGreatP5
set_option linter.unusedVariables false
set_option linter.unusedSimpArgs false
namespace Go.Fw
section
def zLk:Lk:=⟨0,0,false⟩
def lkG (l:List Lk)(s:Int) :Lk:=(a_k l s).getD zLk
def mvG (l:List Mv)(s:Int) :Mv:=(a_k l s).getD ⟨0,0⟩
def lnG (l:List Ls)(s:Int) :Ls:=(a_k l s).getD zLs
def rsG (l:List Rs)(s:Int) :Rs:=(a_k l s).getD ⟨0,0,0,0⟩
def e_8 (l:List Int)(s:Int) :Int:=(a_k l s).getD 0
def Lk.clear (l:Lk) :Bool:=l.Valid && decide (l.Value=0)
def clr (o:List Lk)(l:List Int) :Bool:=l.all fun s=>(lkG o s).clear
def bnd (n:Int) :Int:=min (max n (-1)) 4611686018427387904
def a_j8 (m:Mv)(l:Lk)(age:Int) :Bool:=decide (l.Valid=true∧m.Cmd≠0∧m.Cmd=l.Value∧bnd l.Stamp - bnd m.Other > bnd age)
def Cf.pathS (c:Cf)(r:Int) :List Int:=(c.rt r).Path.map St.Sec
def Cf.lineR (c:Cf)(r:Int) :Int:=a_5 c (c.rt r).Path
def i_n (c:Cf)(k:Co)(v:Vw)(n:Nd) :Bool:=decide ((mvG k.Points n.Sec).Cmd=n.Pos) && a_j8 (mvG k.Points n.Sec) (lkG v.Pos n.Sec) c.Age
def g_t (c:Cf)(k:Co)(v:Vw)(i:Int) :Bool:=a_j8 (mvG k.Xs i) (lkG v.Shut i) c.Age
def Co.ownS (c:Cf)(k:Co)(r:Int) :List Int:=(c.rt r).Overlap.filter fun s=>decide (e_8 k.Own s=r+1)
def z_q (c:Cf)(k:Co)(v:Vw)(r:Int) :Bool:=
 (lkG v.Lamp (c.rt r).Entry).Valid && (decide ((lkG v.Lamp (c.rt r).Entry).Value=1) && (decide (c.lineR r=0) || decide ((lnG k.Lines (c.lineR r)).PGrant=(lnG k.Lines (c.lineR r)).Ask)))
def Co.ready (c:Cf)(k:Co)(v:Vw)(r:Int) :Bool:=
 clr v.Occ (c.pathS r) && (clr v.Occ (k.ownS c r) && ((c.Needs r).all (i_n c k v) && ((c.Cross r).all (g_t c k v) && z_q c k v r)))
def Co.setR (k:Co)(r:Int)(x:Rs) :Co:= { k with Routes:=k.Routes.set r.toNat x }
def b_6 (o:Int)(l:List Int) :List Int:=l.map fun z=>if z=o then 0 else z
def i_4 (n:Int)(w:List Ls) :List Ls:=if n > 0 then w.set n.toNat { lnG w n with Done:=(lnG w n).Ask } else w
def Co.endR (c:Cf)(k:Co)(r:Int) :Co:= { k with Own:=b_6 (r+1) k.Own,Lines:=i_4 (c.lineR r) k.Lines,Routes:=k.Routes.set r.toNat ⟨0,0,0,0⟩,Dirty:=true }
def Co.goOn (c:Cf)(k:Co)(v:Vw)(now r:Int) :Co:=
 match a_k (c.pathS r) (rsG k.Routes r).Next with
 | none=>k
 | some s=>
   if e_8 k.Own s≠r+1 then k.setR r { rsG k.Routes r with Next:=(rsG k.Routes r).Next+1 }
   else if (lkG v.Occ s).clear=true∧(lkG v.Occ s).Stamp > (rsG k.Routes r).Since+c.Hold∧(lkG v.Occ s).Stamp > (rsG k.Routes r).Mark then
     { k with Own:=k.Own.set s.toNat 0,Dirty:=true,Routes:=k.Routes.set r.toNat { rsG k.Routes r with Next:=(rsG k.Routes r).Next+1,Mark:=now } }
   else k
def Co.endingR (c:Cf)(k:Co)(v:Vw)(now r:Int) :Co:=
 if now < (rsG k.Routes r).Since+c.Hold then k
 else if (rsG (k.goOn c v now r).Routes r).Next=(c.pathS r).length then (k.goOn c v now r).endR c r else k.goOn c v now r
def Co.routeR (c:Cf)(v:Vw)(now:Int)(d:Bool)(k:Co)(r:Int) :Co:=
 if ((rsG k.Routes r).State=2∨(rsG k.Routes r).State=3)∧clr v.Occ (c.pathS r) =false then k.setR r { rsG k.Routes r with State:=4,Since:=now,Mark:=0 }
 else if (rsG k.Routes r).State=2∧k.ready c v r=false then k.setR r { rsG k.Routes r with State:=3 }
 else if (rsG k.Routes r).State=1∧d=false∧k.ready c v r=true then k.setR r { rsG k.Routes r with State:=2 }
 else if (rsG k.Routes r).State=4 then k.endingR c v now r
 else k
def routesR (c:Cf)(v:Vw)(now:Int)(d:Bool)(k:Co) :Nat→Co
 | 0=>k
 | n+1=>(routesR c v now d k n).routeR c v now d n
def xsN (c:Cf)(own:List Int)(now:Int)(w:List Mv) :Nat→List Mv
 | 0=>w
 | n+1=>match c.Xs[n]? with
   | none=>xsN c own now w n
   | some s=>(xsN c own now w n).set n (g_k (mvG (xsN c own now w n) n) now (if e_8 own s=0 then 2 else 1))
def Co.rstOne (v:Vw)(k:Co)(s:Int) :Co:=
 if e_8 k.Resets s≤0 then k else if e_8 k.Own s≠-1 then { k with Resets:=k.Resets.set s.toNat 0 }
 else if (lkG v.Occ s).clear=true∧(lkG v.Occ s).Stamp≥e_8 k.Resets s then { k with Own:=k.Own.set s.toNat 0,Dirty:=true,Resets:=k.Resets.set s.toNat 0 } else k
def rstN (v:Vw)(k:Co) :Nat→Co
 | 0=>k
 | n+1=>(rstN v k n).rstOne v n
def i_g (c:Cf)(rs:List Rs) :Nat→List Int
 | 0=>List.replicate c.Sigs.length 0
 | n+1=>if (rsG rs n).State=2 then (i_g c rs n).set (c.rt n).Entry.toNat (max (e_8 (i_g c rs n) (c.rt n).Entry) (if (c.rt n).Shunt=true then 1 else 2)) else i_g c rs n
def Co.stepR (c:Cf)(k:Co)(v:Vw)(now:Int) :Co:=routesR c v now k.Dirty k c.Rts.length
def Co.stepX (c:Cf)(k:Co)(v:Vw)(now:Int) :Co:= { k.stepR c v now with Xs:=xsN c (k.stepR c v now).Own now (k.stepR c v now).Xs c.Xs.length }
def Co.stepY (c:Cf)(k:Co)(v:Vw)(now:Int) :Co:=rstN v (k.stepX c v now) (k.stepX c v now).Resets.length
def Co.stepK (c:Cf)(k:Co)(v:Vw)(now:Int) :Co × List Int × Int:=
 if k.fits c=false∨v.fits c=false then (k,[],21) else if tm 0 now=false then (k,[],32)
 else (k.stepY c v now,i_g c (k.stepY c v now).Routes c.Rts.length,0)
/-! facts -/
theorem k_8 {α:Type}{l:List α}{s t:Int}{x:α}(hs:0≤s) :a_k (l.set s.toNat x) t=if t=s∧s < l.length then some x else a_k l t:=by
 unfold a_k
 by_cases ht:t < 0
 · rw[if_pos ht,if_pos ht,if_neg (by omega)]
 · rw[if_neg ht,if_neg ht,List.getElem?_set]
   by_cases e:t=s
   · subst e
     rw[if_pos rfl]
     by_cases hl:t < l.length
     · rw[if_pos (by omega),if_pos ⟨rfl,hl⟩]
     · rw[if_neg (by omega),if_neg (by omega),List.getElem?_eq_none (by omega)]
   · rw[if_neg (by omega),if_neg (by omega)]
theorem c_i {α:Type}{l:List α}{s t:Int}{x:α}(hs:0≤s)(h:t≠s) :a_k (l.set s.toNat x) t=a_k l t:=by rw[k_8 hs,if_neg (by omega)]
theorem d_e {α:Type}{l:List α}{s:Int}{x:α}(hs:0≤s)(h:s < l.length) :a_k (l.set s.toNat x) s=some x:=by rw[k_8 hs,if_pos ⟨rfl,h⟩]
theorem z_a {α β:Type}{l:List α}{t:Int}{f:α→β} :a_k (l.map f) t=(a_k l t).map f:=by
 unfold a_k;split
 · rfl
 · rw[List.getElem?_map]
structure Turn (c:Cf) (v:Vw) (now:Int) (d:Bool) (k k':Co) (r:Int) :Prop where
 pts:k'.Points=k.Points
 xs:k'.Xs=k.Xs
 res:k'.Resets=k.Resets
 lOwn:k'.Own.length=k.Own.length
 lRts:k'.Routes.length=k.Routes.length
 rts:∀j,j≠r→rsG k'.Routes j=rsG k.Routes j
 own:∀s,a_k k'.Own s=a_k k.Own s∨(a_k k.Own s=some (r+1)∧a_k k'.Own s=some 0∧k'.Dirty=true∧(rsG k.Routes r).State=4∧(rsG k.Routes r).Since+c.Hold≤now∧
   ((rsG k'.Routes r).State=0∨(a_k (c.pathS r) (rsG k.Routes r).Next=some s∧(lkG v.Occ s).clear=true∧(lkG v.Occ s).Stamp > (rsG k.Routes r).Since+c.Hold)))
 ln:∀l,(lnG k'.Lines l).PGrant=(lnG k.Lines l).PGrant∧(lnG k'.Lines l).Ask=(lnG k.Lines l).Ask
 dirty:k.Dirty=true→k'.Dirty=true
 opn:(rsG k'.Routes r).State=2→((rsG k.Routes r).State=2∨((rsG k.Routes r).State=1∧d=false))∧k.ready c v r=true
theorem s_e {c:Cf}{v:Vw}{now:Int}{d:Bool}{k:Co}{r:Int}{x:Rs}(hr:0≤r)(hl:r < k.Routes.length)
   (ho:x.State=2→((rsG k.Routes r).State=2∨((rsG k.Routes r).State=1∧d=false))∧k.ready c v r=true) :Turn c v now d k (k.setR r x) r:=
 ⟨rfl,rfl,rfl,rfl,by simp[Co.setR],fun j hj=>by simp only[Co.setR,rsG,c_i hr hj],fun s=> .inl rfl,fun l=>⟨rfl,rfl⟩,id,
   fun h=>ho (by simpa only[Co.setR,rsG,d_e hr hl,Option.getD_some] using h)⟩
theorem a_m1 {o:Int}{l:List Int}{s:Int} :a_k (b_6 o l) s=a_k l s∨(a_k l s=some o∧a_k (b_6 o l) s=some 0):=by
 unfold b_6
 rw[z_a]
 cases h:a_k l s with
 | none=>exact .inl rfl
 | some z=>
   by_cases e:z=o
   · subst e;exact .inr ⟨rfl,by simp⟩
   · left;simp[e]
theorem a_v2 {n:Int}{w:List Ls}(l:Int) :(lnG (i_4 n w) l).PGrant=(lnG w l).PGrant∧(lnG (i_4 n w) l).Ask=(lnG w l).Ask:=by
 unfold i_4
 split
 · rename_i h
   by_cases e:l=n
   · subst e
     by_cases hl:l < w.length
     · simp only[lnG,d_e (show 0≤l by omega) hl,Option.getD_some];exact ⟨trivial,trivial⟩
     · unfold lnG;rw[k_8 (show 0≤l by omega),if_neg (by omega)];exact ⟨rfl,rfl⟩
   · simp only[lnG,c_i (show 0≤n by omega) e];exact ⟨trivial,trivial⟩
 · exact ⟨rfl,rfl⟩
theorem a_s4 {c:Cf}{v:Vw}{now:Int}{d:Bool}{k:Co}{r:Int}(hr:0≤r)(hl:r < k.Routes.length)(h4:(rsG k.Routes r).State=4)(hn:(rsG k.Routes r).Since+c.Hold≤now) :
   Turn c v now d k (k.goOn c v now r) r∧(rsG (k.goOn c v now r).Routes r).State=4:=by
 have same:Turn c v now d k k r:=⟨rfl,rfl,rfl,rfl,rfl,fun _ _=>rfl,fun s=> .inl rfl,fun l=>⟨rfl,rfl⟩,id,fun h=>by omega⟩
 unfold Co.goOn
 split
 · exact ⟨same,h4⟩
 rename_i s hs
 split
 · exact ⟨s_e hr hl fun h=>by simp only at h;omega,by simp only[Co.setR,rsG,d_e hr hl,Option.getD_some];exact h4⟩
 rename_i ho
 split
 · rename_i hc
   have ho:e_8 k.Own s=r+1:=Decidable.not_not.1 ho
   have hg:a_k k.Own s=some (r+1):=by
     unfold e_8 at ho
     cases hgs:a_k k.Own s with
     | none=>rw[hgs] at ho;simp at ho;omega
     | some z=>rw[hgs] at ho;simp at ho;rw[ho]
   obtain ⟨g1,g2,_⟩:=a_l hg
   refine ⟨⟨rfl,rfl,rfl,by simp,by simp,fun j hj=>by simp only[rsG,c_i hr hj],fun t=>?_,fun l=>⟨rfl,rfl⟩,fun _=>rfl,fun h=>?_⟩,by simp only[rsG,d_e hr hl,Option.getD_some];exact h4⟩
   · by_cases e:t=s
     · subst e
       exact .inr ⟨hg,d_e g1 g2,rfl,h4,hn, .inr ⟨hs,hc.1,hc.2.1⟩⟩
     · exact .inl (c_i g1 e)
   · simp only[rsG,d_e hr hl,Option.getD_some] at h h4;omega
 · exact ⟨same,h4⟩
theorem a_o5 {c:Cf}{v:Vw}{now:Int}{d:Bool}{k:Co}{r:Int}(hr:0≤r)(hl:r < k.Routes.length) :Turn c v now d k (k.routeR c v now d r) r:=by
 unfold Co.routeR
 split
 · exact s_e hr hl fun h=>by simp only at h;omega
 rename_i h1
 split
 · exact s_e hr hl fun h=>by simp only at h;omega
 rename_i h2
 split
 · rename_i h3
   exact s_e hr hl fun _=>⟨.inr ⟨h3.1,h3.2.1⟩,h3.2.2⟩
 rename_i h3
 split
 · rename_i h4
   unfold Co.endingR
   split
   · exact ⟨rfl,rfl,rfl,rfl,rfl,fun _ _=>rfl,fun s=> .inl rfl,fun l=>⟨rfl,rfl⟩,id,fun h=>by omega⟩
   rename_i h5
   obtain ⟨t,h6⟩:=a_s4 (c:=c) (v:=v) (d:=d) hr hl h4 (show (rsG k.Routes r).Since+c.Hold≤now by omega)
   split
   · have hl':r < (k.goOn c v now r).Routes.length:=by rw[t.lRts];exact hl
     have hz:(rsG ((k.goOn c v now r).endR c r).Routes r).State=0:=by simp only[Co.endR,rsG,d_e hr hl',Option.getD_some]
     refine ⟨t.pts,t.xs,t.res,by simp only[Co.endR,b_6,List.length_map];exact t.lOwn,by simp only[Co.endR,List.length_set];exact t.lRts,fun j hj=>?_,fun s=>?_,fun l=>?_,fun _=>rfl,fun h=>?_⟩
     · rw[←t.rts j hj];simp only[Co.endR,rsG,c_i hr hj]
     · rcases a_m1 (o:=r+1) (l:=(k.goOn c v now r).Own) (s:=s) with e | ⟨e1,e2⟩
       · show a_k (b_6 (r+1) _) s=_∨(_∧a_k (b_6 (r+1) _) s=_∧_)
         rw[e]
         rcases t.own s with e | ⟨a1,a2,a3,a4,a5,a6⟩
         · exact .inl e
         · exact .inr ⟨a1,a2,rfl,a4,a5, .inl hz⟩
       · rcases t.own s with e | ⟨a1,a2,a3,a4,a5,a6⟩
         · exact .inr ⟨e ▸ e1,e2,rfl,h4,by omega, .inl hz⟩
         · rw[a2] at e1;injection e1 with e1;omega
     · have a:=a_v2 (n:=c.lineR r) (w:=(k.goOn c v now r).Lines) l
       have b:=t.ln l
       exact ⟨a.1.trans b.1,a.2.trans b.2⟩
     · rw[hz] at h;omega
   · exact t
 · rename_i h4
   refine ⟨rfl,rfl,rfl,rfl,rfl,fun _ _=>rfl,fun s=> .inl rfl,fun l=>⟨rfl,rfl⟩,id,fun h=>⟨.inl h,?_⟩⟩
   cases hb:k.ready c v r with
   | true=>rfl
   | false=>exact absurd ⟨h,hb⟩ h2
theorem a_nt {c:Cf}{k k':Co}{v:Vw}{r:Int}(hp:k'.Points=k.Points)(hx:k'.Xs=k.Xs)(hl:∀l,(lnG k'.Lines l).PGrant=(lnG k.Lines l).PGrant∧(lnG k'.Lines l).Ask=(lnG k.Lines l).Ask)
   (ho:∀s,e_8 k'.Own s=r+1↔e_8 k.Own s=r+1) :k'.ready c v r=k.ready c v r:=by
 have h1:k'.ownS c r=k.ownS c r:=by
   unfold Co.ownS;congr 1;funext s;exact decide_eq_decide.2 (ho s)
 have h2:i_n c k' v=i_n c k v:=by funext n;unfold i_n;rw[hp]
 have h3:g_t c k' v=g_t c k v:=by funext n;unfold g_t;rw[hx]
 have h4:z_q c k' v r=z_q c k v r:=by unfold z_q;rw[(hl _).1,(hl _).2]
 unfold Co.ready;rw[h1,h2,h3,h4]
structure Turns (c:Cf) (v:Vw) (now:Int) (d:Bool) (k k':Co) (n:Nat) :Prop where
 pts:k'.Points=k.Points
 xs:k'.Xs=k.Xs
 res:k'.Resets=k.Resets
 lOwn:k'.Own.length=k.Own.length
 lRts:k'.Routes.length=k.Routes.length
 rts:∀j:Int,(n:Int)≤j→rsG k'.Routes j=rsG k.Routes j
 own:∀s,a_k k'.Own s=a_k k.Own s∨∃r:Int,0≤r∧r < n∧a_k k.Own s=some (r+1)∧a_k k'.Own s=some 0∧k'.Dirty=true∧(rsG k.Routes r).State=4∧(rsG k.Routes r).Since+c.Hold≤now∧
   ((rsG k'.Routes r).State=0∨(a_k (c.pathS r) (rsG k.Routes r).Next=some s∧(lkG v.Occ s).clear=true∧(lkG v.Occ s).Stamp > (rsG k.Routes r).Since+c.Hold))
 ln:∀l,(lnG k'.Lines l).PGrant=(lnG k.Lines l).PGrant∧(lnG k'.Lines l).Ask=(lnG k.Lines l).Ask
 dirty:k.Dirty=true→k'.Dirty=true
 opn:∀r:Int,0≤r→r < n→(rsG k'.Routes r).State=2→((rsG k.Routes r).State=2∨((rsG k.Routes r).State=1∧d=false))∧k.ready c v r=true
theorem u_j {c:Cf}{v:Vw}{now:Int}{d:Bool}{k:Co} :∀n:Nat,n≤k.Routes.length→Turns c v now d k (routesR c v now d k n) n
 | 0,_=>⟨rfl,rfl,rfl,rfl,rfl,fun _ _=>rfl,fun _=> .inl rfl,fun _=>⟨rfl,rfl⟩,id,fun r h1 h2=>by omega⟩
 | n+1,hn=>by
   have ih:=u_j (c:=c) (v:=v) (now:=now) (d:=d) (k:=k) n (by omega)
   rw[routesR]
   generalize routesR c v now d k n=k1 at *
   have t:=a_o5 (c:=c) (v:=v) (now:=now) (d:=d) (k:=k1) (r:=(n:Int)) (by omega) (by rw[ih.lRts];omega)
   have hn0:rsG k1.Routes (n:Int) =rsG k.Routes (n:Int):=ih.rts _ (by omega)
   generalize Co.routeR c v now d k1 (n:Int) =k2 at *
   have hrd:k1.ready c v n=k.ready c v n:=a_nt ih.pts ih.xs ih.ln fun s=>by
     unfold e_8
     rcases ih.own s with e | ⟨r,g1,g2,g3,g4,_⟩
     · rw[e]
     · rw[g3,g4];simp only[Option.getD_some];constructor <;> intro h <;> omega
   refine ⟨t.pts.trans ih.pts,t.xs.trans ih.xs,t.res.trans ih.res,t.lOwn.trans ih.lOwn,t.lRts.trans ih.lRts,fun j hj=>(t.rts j (by omega)).trans (ih.rts j (by omega)),fun s=>?_,fun l=>⟨(t.ln l).1.trans (ih.ln l).1,(t.ln l).2.trans (ih.ln l).2⟩,fun h=>t.dirty (ih.dirty h),fun r h1 h2 h3=>?_⟩
   · rcases t.own s with e | ⟨a1,a2,a3,a4,a5,a6⟩
     · rcases ih.own s with e' | ⟨r,g1,g2,g3,g4,g5,g6,g7,g8⟩
       · exact .inl (e.trans e')
       · exact .inr ⟨r,g1,by omega,g3,e.trans g4,t.dirty g5,g6,g7,by rw[t.rts r (by omega)];exact g8⟩
     · rcases ih.own s with e' | ⟨r,g1,g2,g3,g4,_⟩
       · rw[hn0] at a4 a5 a6
         exact .inr ⟨n,by omega,by omega,e' ▸ a1,a2,a3,a4,a5,a6⟩
       · rw[g4] at a1;injection a1 with a1;omega
   · by_cases e:r=n
     · subst e
       have:=t.opn h3
       rw[hn0,hrd] at this;exact this
     · rw[t.rts r e] at h3
       exact ih.opn r h1 (by omega) h3
end
section
theorem s_s {l:List Rs}{r:Int}(hr:0≤r)(hl:r < l.length) :l[r.toNat]? =some (rsG l r):=by
 unfold rsG a_k;rw[if_neg (by omega),List.getElem?_eq_getElem (show r.toNat < l.length by omega)];rfl
theorem a_ue {c:Cf}{r:Int}{q:Rt}(hr:0≤r)(h:c.Rts[r.toNat]? =some q) :c.rt r=q:=by
 unfold Cf.rt a_k;rw[if_neg (by omega),h];rfl
theorem FitIs.rs {c:Cf}{k:Co}{r:Int}{x:Rs}(h:FitIs c k)(hr:0≤r)(hx:∀q,c.Rts[r.toNat]? =some q→Rs.fits (rsG k.Routes r,q) =true→Rs.fits (x,q) =true) :
   ∀(i:Nat) z q,(k.Routes.set r.toNat x)[i]? =some z→c.Rts[i]? =some q→Rs.fits (z,q) =true:=by
 intro i z q hz hq
 rw[List.getElem?_set] at hz
 split at hz
 · rename_i e
   split at hz
   · rename_i hl
     cases hz
     subst e
     exact hx q hq (h.rts r.toNat _ q (s_s hr (by omega)) hq)
   · cases hz
 · exact h.rts i z q hz hq
theorem s_k {c:Cf}{k:Co}{r:Int}{x:Rs}(h:FitIs c k)(hr:0≤r)(hx:∀q,c.Rts[r.toNat]? =some q→Rs.fits (rsG k.Routes r,q) =true→Rs.fits (x,q) =true) :FitIs c (k.setR r x):=
 ⟨h.chk,h.lOwn,h.lPts,h.lRes,by simp only[Co.setR,List.length_set];exact h.lRts,h.lXs,h.lLn,h.own,h.rs hr hx,h.pts,h.xs,h.lns,h.res⟩
theorem a_sh {c:Cf}{k:Co}(h:FitIs c k)(s:Nat) :∀o ∈ k.Own.set s 0,-2≤o∧o≤c.Rts.length:=fun o ho=>by
 rcases List.mem_or_eq_of_mem_set ho with ho | rfl
 · exact h.own o ho
 · omega
theorem s_v {c:Cf}{k:Co}{v:Vw}{now r:Int}(h:FitIs c k)(hn:tm 0 now=true)(hr:0≤r) :FitIs c (k.goOn c v now r):=by
 unfold Co.goOn
 split
 · exact h
 rename_i s hs
 have hnext:∀q,c.Rts[r.toNat]? =some q→0≤(rsG k.Routes r).Next∧(rsG k.Routes r).Next < q.Path.length:=fun q hq=>by
   have h2:=a_l hs
   rw[Cf.pathS,a_ue hr hq,List.length_map] at h2
   exact ⟨h2.1,h2.2.1⟩
 split
 · refine s_k h hr fun q hq hf=>?_
   have:=hnext q hq
   simp only[Rs.fits,tm,Bool.and_eq_true,decide_eq_true_eq] at hf ⊢;omega
 split
 · refine ⟨h.chk,by simp only[List.length_set];exact h.lOwn,h.lPts,h.lRes,by simp only[List.length_set];exact h.lRts,h.lXs,h.lLn,a_sh h _,h.rs hr fun q hq hf=>?_,h.pts,h.xs,h.lns,h.res⟩
   have:=hnext q hq
   simp only[Rs.fits,tm,Bool.and_eq_true,decide_eq_true_eq] at hf hn ⊢;omega
 · exact h
theorem a_jk {c:Cf}{k:Co}{r:Int}(h:FitIs c k)(hr:0≤r) :FitIs c (k.endR c r):=by
 refine ⟨h.chk,by simp only[Co.endR,b_6,List.length_map];exact h.lOwn,h.lPts,h.lRes,by simp only[Co.endR,List.length_set];exact h.lRts,h.lXs,by simp only[Co.endR,i_4];split <;> simp[h.lLn],fun o ho=>?_,h.rs hr fun q hq hf=>?_,h.pts,h.xs,fun l hl=>?_,h.res⟩
 · obtain ⟨z,hz,rfl⟩:=List.mem_map.1 ho
   have:=h.own z hz
   split <;> omega
 · simp only[Rs.fits,tm,Bool.and_eq_true,decide_eq_true_eq] at hf ⊢;omega
 · simp only[Co.endR,i_4] at hl
   split at hl
   · rcases List.mem_or_eq_of_mem_set hl with hl | rfl
     · exact h.lns l hl
     · have h6:=v_l (i:=c.lineR r) (p:=fun l=>Ls.fits l=true) (z:=zLs) rfl h.lns
       simp only[lnG]
       simp only[Ls.fits,tm,Bool.and_eq_true,decide_eq_true_eq] at h6 ⊢
       omega
   · exact h.lns l hl
theorem a_b2 {c:Cf}{k:Co}{v:Vw}{now r:Int}{d:Bool}(h:FitIs c k)(hn:tm 0 now=true)(hr:0≤r) :FitIs c (k.routeR c v now d r):=by
 have hn':=hn
 simp only[tm,decide_eq_true_eq] at hn'
 unfold Co.routeR
 split
 · refine s_k h hr fun q hq hf=>?_
   simp only[Rs.fits,tm,Bool.and_eq_true,decide_eq_true_eq] at hf ⊢;omega
 split
 · refine s_k h hr fun q hq hf=>?_
   simp only[Rs.fits,tm,Bool.and_eq_true,decide_eq_true_eq] at hf ⊢;omega
 split
 · refine s_k h hr fun q hq hf=>?_
   simp only[Rs.fits,tm,Bool.and_eq_true,decide_eq_true_eq] at hf ⊢;omega
 split
 · unfold Co.endingR
   split
   · exact h
   split
   · exact a_jk (s_v h hn hr) hr
   · exact s_v h hn hr
 · exact h
theorem j_z {c:Cf}{k:Co}{v:Vw}{now:Int}{d:Bool}(h:FitIs c k)(hn:tm 0 now=true) :∀n,FitIs c (routesR c v now d k n)
 | 0=>h
 | n+1=>a_b2 (j_z h hn n) hn (by omega)
theorem y_p {c:Cf}{own:List Int}{now:Int}{w:List Mv} :∀n,(xsN c own now w n).length=w.length
 | 0=>rfl
 | n+1=>by rw[xsN];split <;> simp[y_p n]
theorem w_8 {c:Cf}{own:List Int}{now:Int}{w:List Mv}(hn:tm 0 now=true)(h:∀m ∈ w,Mv.fits m=true) :∀n,∀m ∈ xsN c own now w n,Mv.fits m=true
 | 0=>h
 | n+1=>fun m hm=>by
   rw[xsN] at hm
   split at hm
   · exact w_8 hn h n m hm
   · rcases List.mem_or_eq_of_mem_set hm with hm | rfl
     · exact w_8 hn h n m hm
     · exact x_3 (v_l (p:=fun m=>Mv.fits m=true) rfl (w_8 hn h n)) hn (by split <;> omega)
theorem z_d (m:Mv)(now p:Int) :(g_k m now p).Cmd=p:=by
 rw[g_k]
 split
 · rfl
 · rename_i h;exact Decidable.not_not.1 h
theorem a_sq {c:Cf}{own:List Int}{now:Int}{w:List Mv}(hl:w.length=c.Xs.length) :∀(n:Nat),n≤w.length→∀(i:Nat) s m,i < n→c.Xs[i]? =some s→(xsN c own now w n)[i]? =some m→m.Cmd=if e_8 own s=0 then 2 else 1
 | 0,_,i,s,m,h,_,_=>by omega
 | n+1,hn,i,s,m,hi,hs,hm=>by
   rw[xsN] at hm
   obtain ⟨s',hs'⟩:=a_i (l:=c.Xs) (j:=n) (by omega)
   rw[hs'] at hm
   simp only at hm
   rw[List.getElem?_set] at hm
   by_cases e:i=n
   · subst e
     rw[if_pos rfl,if_pos (by rw[y_p];omega)] at hm
     rw[hs] at hs';cases hs'
     injection hm with hm;subst hm
     exact z_d _ _ _
   · rw[if_neg (by omega)] at hm
     exact a_sq hl n (by omega) i s m (by omega) hs hm
structure Rst (v:Vw) (k k':Co) (n:Nat) :Prop where
 pts:k'.Points=k.Points
 xs:k'.Xs=k.Xs
 ln:k'.Lines=k.Lines
 rts:k'.Routes=k.Routes
 lOwn:k'.Own.length=k.Own.length
 lRes:k'.Resets.length=k.Resets.length
 res:∀j:Int,(n:Int)≤j→a_k k'.Resets j=a_k k.Resets j
 ownL:∀j:Int,(n:Int)≤j→a_k k'.Own j=a_k k.Own j
 own:∀s,a_k k'.Own s=a_k k.Own s∨(a_k k.Own s=some (-1)∧a_k k'.Own s=some 0∧k'.Dirty=true∧0 < e_8 k.Resets s∧(lkG v.Occ s).clear=true∧e_8 k.Resets s≤(lkG v.Occ s).Stamp)
 dirty:k.Dirty=true→k'.Dirty=true
theorem a_fi {v:Vw}{k:Co} :∀n,Rst v k (rstN v k n) n
 | 0=>⟨rfl,rfl,rfl,rfl,rfl,rfl,fun _ _=>rfl,fun _ _=>rfl,fun _=> .inl rfl,id⟩
 | n+1=>by
   have ih:=a_fi (v:=v) (k:=k) n
   rw[rstN]
   generalize rstN v k n=k1 at *
   have hz:e_8 k1.Resets (n:Int) =e_8 k.Resets n:=by unfold e_8;rw[ih.res _ (by omega)]
   have ho:a_k k1.Own (n:Int) =a_k k.Own n:=ih.ownL _ (by omega)
   unfold Co.rstOne
   split
   · exact ⟨ih.pts,ih.xs,ih.ln,ih.rts,ih.lOwn,ih.lRes,fun j hj=>ih.res j (by omega),fun j hj=>ih.ownL j (by omega),ih.own,ih.dirty⟩
   split
   · exact ⟨ih.pts,ih.xs,ih.ln,ih.rts,ih.lOwn,by simp only[List.length_set];exact ih.lRes,fun j hj=>(c_i (by omega) (by omega)).trans (ih.res j (by omega)),fun j hj=>ih.ownL j (by omega),ih.own,ih.dirty⟩
   rename_i h1 h2
   split
   · rename_i h3
     refine ⟨ih.pts,ih.xs,ih.ln,ih.rts,by simp only[List.length_set];exact ih.lOwn,by simp only[List.length_set];exact ih.lRes,fun j hj=>(c_i (by omega) (by omega)).trans (ih.res j (by omega)),fun j hj=>(c_i (by omega) (by omega)).trans (ih.ownL j (by omega)),fun s=>?_,fun _=>rfl⟩
     have h2:e_8 k1.Own (n:Int) = -1:=Decidable.not_not.1 h2
     by_cases e:s=n
     · subst e
       have hg:a_k k1.Own (n:Int) =some (-1):=by
         unfold e_8 at h2
         cases hgs:a_k k1.Own (n:Int) with
         | none=>rw[hgs] at h2;simp at h2
         | some z=>rw[hgs] at h2;simp at h2;rw[h2]
       obtain ⟨g1,g2,_⟩:=a_l hg
       rw[hz] at h1 h3
       exact .inr ⟨ho ▸ hg,d_e g1 g2,rfl,by omega,h3.1,h3.2⟩
     · rcases ih.own s with e' | ⟨a1,a2,a3,a4⟩
       · exact .inl ((c_i (by omega) e).trans e')
       · exact .inr ⟨a1,(c_i (by omega) e).trans a2,rfl,a4⟩
   · exact ⟨ih.pts,ih.xs,ih.ln,ih.rts,ih.lOwn,ih.lRes,fun j hj=>ih.res j (by omega),fun j hj=>ih.ownL j (by omega),ih.own,ih.dirty⟩
theorem a_bx {c:Cf}{v:Vw}{k:Co}{s:Int}(h:FitIs c k) :FitIs c (k.rstOne v s):=by
 have hz:∀z ∈ k.Resets.set s.toNat 0,tm 1 z=true:=fun z hz=>by
   rcases List.mem_or_eq_of_mem_set hz with hz | rfl
   · exact h.res z hz
   · rfl
 unfold Co.rstOne
 split
 · exact h
 split
 · exact ⟨h.chk,h.lOwn,h.lPts,by simp only[List.length_set];exact h.lRes,h.lRts,h.lXs,h.lLn,h.own,h.rts,h.pts,h.xs,h.lns,hz⟩
 split
 · exact ⟨h.chk,by simp only[List.length_set];exact h.lOwn,h.lPts,by simp only[List.length_set];exact h.lRes,h.lRts,h.lXs,h.lLn,a_sh h _,h.rts,h.pts,h.xs,h.lns,hz⟩
 · exact h
theorem a_jn {c:Cf}{v:Vw}{k:Co}(h:FitIs c k) :∀n,FitIs c (rstN v k n)
 | 0=>h
 | n+1=>a_bx (a_jn h n)
theorem v_w {c:Cf}{v:Vw}{k:Co}{now:Int}(h:FitIs c k)(hn:tm 0 now=true) :FitIs c (k.stepX c v now):=by
 have h1:=j_z (v:=v) (d:=k.Dirty) h hn c.Rts.length
 exact ⟨h1.chk,h1.lOwn,h1.lPts,h1.lRes,h1.lRts,by simp only[Co.stepX,y_p];exact h1.lXs,h1.lLn,h1.own,h1.rts,h1.pts,w_8 hn h1.xs _,h1.lns,h1.res⟩
theorem a_q4 {c:Cf}{v:Vw}{k:Co}{now:Int}(h:FitIs c k)(hn:tm 0 now=true) :FitIs c (k.stepY c v now):=a_jn (v_w h hn) _
/-! signals -/
theorem a_eq {c:Cf}{rs:List Rs} :∀n,(i_g c rs n).length=c.Sigs.length
 | 0=>by simp[i_g]
 | n+1=>by rw[i_g];split <;> simp[a_eq n]
theorem a_qb {c:Cf}{k:Co}{v:Vw}{now:Int}(h:FitIs c k) :
   Turns c v now k.Dirty k (k.stepR c v now) c.Rts.length∧Rst v (k.stepX c v now) (k.stepY c v now) (k.stepX c v now).Resets.length:=
 ⟨u_j _ (by rw[h.lRts];omega),a_fi _⟩
theorem a_vo {c:Cf}{k:Co}{v:Vw}{now:Int}(h:FitIs c k)(s:Int) :a_k (k.stepY c v now).Own s=a_k k.Own s∨
   (a_k (k.stepY c v now).Own s=some 0∧(k.stepY c v now).Dirty=true∧
     ((∃r:Int,0≤r∧r < c.Rts.length∧a_k k.Own s=some (r+1)∧(rsG k.Routes r).State=4∧(rsG k.Routes r).Since+c.Hold≤now∧
       ((rsG (k.stepY c v now).Routes r).State=0∨(a_k (c.pathS r) (rsG k.Routes r).Next=some s∧(lkG v.Occ s).clear=true∧(lkG v.Occ s).Stamp > (rsG k.Routes r).Since+c.Hold)))∨
      (a_k k.Own s=some (-1)∧0 < e_8 k.Resets s∧(lkG v.Occ s).clear=true∧e_8 k.Resets s≤(lkG v.Occ s).Stamp))):=by
 obtain ⟨t,q⟩:=a_qb (v:=v) (now:=now) h
 rw[q.rts]
 have e1:(k.stepX c v now).Own=(k.stepR c v now).Own:=rfl
 have e2:(k.stepX c v now).Resets=k.Resets:=t.res
 have e3:(k.stepX c v now).Routes=(k.stepR c v now).Routes:=rfl
 have e4:(k.stepX c v now).Dirty=(k.stepR c v now).Dirty:=rfl
 rcases t.own s with e | ⟨r,g1,g2,g3,g4,g5,g6,g7,g8⟩
 · rcases q.own s with e' | ⟨a1,a2,a3,a4,a5,a6⟩
   · left;rw[e',e1,e]
   · rw[e2] at a4 a6
     rw[e1,e] at a1
     exact .inr ⟨a2,a3, .inr ⟨a1,a4,a5,a6⟩⟩
 · rcases q.own s with e' | ⟨a1,a2,_⟩
   · right
     rw[e',e1,e3]
     exact ⟨g4,q.dirty (e4 ▸ g5), .inl ⟨r,g1,g2,g3,g6,g7,g8⟩⟩
   · rw[e1,g4] at a1;injection a1 with a1;omega
/-! all seen at its worst -/
/-! no route is locked, no reset due -/
end
section
structure Going (c:Cf) (k:Co) (r:Int) (i:Nat) (m:Int) :Prop where
 fit:FitIs c k
 oth:∀j,j≠r→(rsG k.Routes j).State=0
 cur:rsG k.Routes r=⟨4,1,i,m⟩
 res:∀s,e_8 k.Resets s=0
 own:∀s o,a_k k.Own s=some o→o=0∨o=r+1
 pth:∀(j:Nat) s,i≤j→(c.pathS r)[j]? =some s→e_8 k.Own s=r+1
theorem FitIs.dirty {c:Cf}{k:Co}(h:FitIs c k)(b:Bool) :FitIs c { k with Dirty:=b } :=
 ⟨h.chk,h.lOwn,h.lPts,h.lRes,h.lRts,h.lXs,h.lLn,h.own,h.rts,h.pts,h.xs,h.lns,h.res⟩
theorem y_v {c:Cf}(hok:c.check=0){r:Int}{j:Nat}{s:Int}(h:(c.pathS r)[j]? =some s) :0≤s∧s < c.Secs.length:=by
 unfold Cf.pathS at h
 rw[List.getElem?_map] at h
 cases hp:(c.rt r).Path[j]? with
 | none=>rw[hp] at h;cases h
 | some st=>
   rw[hp] at h;cases h
   cases hg:a_k c.Rts r with
   | none=>rw[a_lb hg] at hp;simp[zRt] at hp
   | some y=>
     rw[b_h hg] at hp
     obtain ⟨z,hz,_⟩:=((b_k hok (d_l hg)).step st (List.mem_of_getElem? hp)).1.sec
     have:=a_l hz
     omega
theorem a_q5 {c:Cf}(hok:c.check=0)(r:Int) :(c.pathS r).Nodup:=by
 unfold Cf.pathS
 cases hg:a_k c.Rts r with
 | none=>rw[a_lb hg];simp[zRt]
 | some y=>rw[b_h hg];exact (b_k hok (d_l hg)).dup
end
end Go.Fw
namespace Go.Proofs.YtdmfnhbmhkgemaaGreat
open Go.Fw Go.Proofs Go.RowKit
section
variable {σ σ0:Store}
theorem a_yl (n:Int) :(if (4611686018427387904:Int) < (if (-1:Int) > n then (-1:Int) else n) then (4611686018427387904:Int) else (if (-1:Int) > n then (-1:Int) else n)) =bnd n:=by
 unfold bnd;split <;> split <;> omega
theorem a_st (n:Int) : -1≤bnd n∧bnd n≤4611686018427387904:=by unfold bnd;omega
theorem k_t (n:Int) :Pure Tryz.prog g_n [iA n] σ (.a (iA (bnd n))):=
 a_h8 n σ _ ⟨congrArg (fun z=>RV.a (iA z)) (a_yl n),rfl⟩
theorem p_i (m:Mv)(l:Lk)(age:Int) :Pure Tryz.prog h_4 [.agg m.enc, .agg l.enc,iA age] σ (.a (bA (a_j8 m l age))):=by
 have no:¬(l.Valid=true∧m.Cmd≠0∧m.Cmd=l.Value∧bnd l.Stamp - bnd m.Other > bnd age)→(RV.a (.one (.bool false)) = .a (bA (a_j8 m l age))∧σ=σ):=fun h=>by rw[a_j8,decide_eq_false h];exact ⟨rfl,rfl⟩
 refine a_d8 m.Cmd m.Other l.Value l.Stamp l.Valid age σ _ (a_q (fun e=>no fun h=>by rw[e] at h;cases h.1) (fun e1=>bce (fun e=>no fun h=>h.2.1 e) (fun e2=>bcn (fun e=>no fun h=>e h.2.2.1.symm) (fun e3=>?_))))
 have b1:=a_st l.Stamp
 have b2:=a_st m.Other
 refine (k_t l.Stamp).use ⟨_,rfl,(k_t m.Other).use ⟨_,rfl,(k_t age).use ⟨_,rfl,?_,rfl⟩⟩⟩
 rw[a_u (by omega) (by omega),a_j8]
 congr 3
 exact decide_eq_decide.2 ⟨fun h=>⟨e1,e2,e3.symm,h⟩,fun h=>h.2.2.2⟩
theorem a_jx {l:List Lk}{s:Int}(h0:0≤s)(h1:s < l.length) :l[s.toNat]? =some (lkG l s):=by
 unfold lkG a_k;rw[if_neg (by omega),List.getElem?_eq_getElem (show s.toNat < l.length by omega)];rfl
theorem a_uf {l:List Mv}{s:Int}(h0:0≤s)(h1:s < l.length) :l[s.toNat]? =some (mvG l s):=by
 unfold mvG a_k;rw[if_neg (by omega),List.getElem?_eq_getElem (show s.toNat < l.length by omega)];rfl
theorem a_xn {l:List Ls}{s:Int}(h0:0≤s)(h1:s < l.length) :l[s.toNat]? =some (lnG l s):=by
 unfold lnG a_k;rw[if_neg (by omega),List.getElem?_eq_getElem (show s.toNat < l.length by omega)];rfl
theorem v_g {l:List Int}{s:Int}(h0:0≤s)(h1:s < l.length) :l[s.toNat]? =some (e_8 l s):=by
 unfold e_8 a_k;rw[if_neg (by omega),List.getElem?_eq_getElem (show s.toNat < l.length by omega)];rfl
structure VwB (σ0:Store) (v0 v1 v2 v3:D) (v:Vw) :Prop where
 occ:∀s,Ext σ0 s→At Tryz.prog s e_o v0 (v.Occ.map Lk.enc)
 pos:∀s,Ext σ0 s→At Tryz.prog s e_o v1 (v.Pos.map Lk.enc)
 shut:∀s,Ext σ0 s→At Tryz.prog s e_o v2 (v.Shut.map Lk.enc)
 lamp:∀s,Ext σ0 s→At Tryz.prog s e_o v3 (v.Lamp.map Lk.enc)
theorem VwB.mono {s:Store}{v0 v1 v2 v3:D}{v:Vw}(h:VwB σ v0 v1 v2 v3 v)(he:Ext σ s) :VwB s v0 v1 v2 v3 v:=
 ⟨fun s' h'=>h.occ s' (he.trans h'),fun s' h'=>h.pos s' (he.trans h'),fun s' h'=>h.shut s' (he.trans h'),fun s' h'=>h.lamp s' (he.trans h')⟩
theorem VwAt.b {v0 v1 v2 v3:D}{v:Vw}(h:VwAt v0 v1 v2 v3 v) :VwB σ v0 v1 v2 v3 v:=⟨fun s _=>h.occ s,fun s _=>h.pos s,fun s _=>h.shut s,fun s _=>h.lamp s⟩
theorem h_v {id:Nat}{t:TypeId}{v0 v1 v2 v3:D}{rest:List D}{v:Vw}(hrow:σ id= .live t [v0::rest])(hv:VwB σ v0 v1 v2 v3 v){sd:D}{l:List Int}(hs:At Tryz.prog σ a_h sd (l.map Go.Fw.encI))(hin:∀s ∈ l,0≤s∧s < v.Occ.length) :
   Pure Tryz.prog b_8 [.one (.el (.osl id 0 1) 0 0), .one sd] σ (.a (bA (clr v.Occ l))):=by
 have hz:=hs.size
 rw[List.length_map] at hz
 refine u_9 _ sd σ _ (hs.lenK ⟨fun n s=>s=σ∧Rng l (fun q=>clr v.Occ q=clr v.Occ l) n,fun n _=>l.length - n.toNat,⟨rfl, .start rfl⟩,?_⟩)
 rintro n s ⟨rfl,hr⟩
 refine bcd (fun hlt=>?_) (fun hge=>?_)
 · obtain ⟨j,x,rfl,hx,hj,hF,nx⟩:=hr.step (by rw[List.length_map]) hz hlt
   obtain ⟨g0,g1⟩:=hin x (List.mem_of_getElem? hx)
   have hF:((lkG v.Occ x).clear && clr v.Occ (l.drop (j+1))) =clr v.Occ l:=hF
   have no:(lkG v.Occ x).clear=false→(RV.a (.one (.bool false)) = .a (bA (clr v.Occ l))∧s=s):=fun e=>by rw[←hF,e];exact ⟨rfl,rfl⟩
   refine hs.load (a_c hx) c_int rfl ⟨x,rfl,trivial,_,_,_,rfl,_,a_d hrow,v0,rfl,(hv.occ s (.refl _)).load (a_c (a_jx g0 g1)) w_o (Int.toNat_of_nonneg g0).symm ⟨(lkG v.Occ x).Value,(lkG v.Occ x).Stamp,(lkG v.Occ x).Valid,rfl,a_q (fun e=>no (by rw[Lk.clear,e];rfl)) (fun e1=>bcn (fun e=>no (by rw[Lk.clear,decide_eq_false e,Bool.and_false])) (fun e2=>?_))⟩⟩
   have:(lkG v.Occ x).clear=true:=by rw[Lk.clear,e1,decide_eq_true e2];rfl
   rw[this,Bool.true_and] at hF
   exact c_0 rfl (nx (fun q=>clr v.Occ q=clr v.Occ l) hF)
 · have hF:=hr.done (by rw[List.length_map]) hge
   rw[←hF];exact ⟨rfl,rfl⟩
abbrev c_z (v0 v1 v2 v3 c0 c1 c2 c3 c4:D)(c:Cf) :List D:= [v0,v1,v2,v3,c0,c1,c2,c3,c4,iD c.Age,iD c.Brake,iD c.Hold,iD c.Budget]
abbrev b_p (now:Int)(d:Bool)(pd:D) :List D:= [iD now, .bool d,pd]
def Paths (s:Store)(pd:D)(c:Cf) :Prop:=
 ∃rows,At Tryz.prog s m_7 pd rows∧∀(j:Nat) x,c.Rts[j]? =some x→∃qd,rows[j]? =some [qd]∧At Tryz.prog s a_h qd ((x.Path.map St.Sec).map Go.Fw.encI)
theorem Paths.mono {s s':Store}{pd:D}{c:Cf}(h:Paths s pd c)(he:Ext s s') :Paths s' pd c:=by
 obtain ⟨rows,h1,h2⟩:=h
 exact ⟨rows,h1.ext he,fun j x hx=>by obtain ⟨qd,a,b⟩:=h2 j x hx;exact ⟨qd,a,b.ext he⟩⟩
theorem CoIn.mono {s s':Store}{id:Nat}{t:TypeId}{pre post:List D}{d0 d1 d2 d3 d4 d5:D}{k:Co}(h:CoIn σ0 s id t pre post d0 d1 d2 d3 d4 d5 k)(he:Ext s s') :CoIn σ0 s' id t pre post d0 d1 d2 d3 d4 d5 k:=
 ⟨h.new,a_v h.row he,h.co.ext' he,h.ids⟩
theorem k_l {c:Cf}{r:Int}{x:Rt}(h:a_k c.Rts r=some x) :c.pathS r=x.Path.map St.Sec:=by rw[Cf.pathS,b_h h]
section
variable {c0 c1 c2 c3 c4 v0 v1 v2 v3:D} {c:Cf} {v:Vw} (hc:∀s,CfAt s c0 c1 c2 c3 c4 c) (hv:VwB σ0 v0 v1 v2 v3 v) (hvf:v.fits c=true) {id:Nat} {d0 d1 d2 d3 d4 d5 pd:D} {k:Co} {now:Int} {dd:Bool} (hP:Paths σ0 pd c)
include hc hP
theorem u_q (hI:CoIn σ0 σ id a_n (c_z v0 v1 v2 v3 c0 c1 c2 c3 c4 c) (b_p now dd pd) d0 d1 d2 d3 d4 d5 k)(hok:c.check=0)(hl4:k.Lines.length=4){r:Int}{x:Rt}(hx:a_k c.Rts r=some x) :
   Pure Tryz.prog e_c [.one (.el (.osl id 0 1) 0 0),iA r] σ (.a (.one (if c.lineR r > 0 then .el d4 (c.lineR r).toNat 0 else .nilp))):=by
 have hr:=b_k hok (d_l hx)
 have hg:=a_l hx
 have w1:=hr.len
 obtain ⟨rows,hat,hrows⟩:=hP.mono hI.ext
 obtain ⟨qd,hrow,hq⟩:=hrows _ _ hg.2.2
 have hlr:c.lineR r=a_5 c x.Path:=by rw[Cf.lineR,b_h hx]
 rw[hlr]
 refine t_s _ r σ _ ⟨trivial,_,_,_,rfl,_,a_d hI.row,pd,rfl,hat.load hrow q_0 (Int.toNat_of_nonneg hg.1).symm ⟨qd,rfl,hq.lenK ⟨fun n s=>s=σ∧Rng x.Path (fun q=>a_5 c q=a_5 c x.Path) n,fun n _=>x.Path.length - n.toNat,⟨rfl, .start rfl⟩,?_⟩⟩⟩
 rintro n s ⟨rfl,hq'⟩
 rw[List.length_map,List.length_map]
 refine bcd (fun hlt=>?_) (fun hge=>?_)
 · obtain ⟨j,y,rfl,hy,hj,hF,nx⟩:=hq'.step rfl (by omega) hlt
   obtain ⟨z,hz,_⟩:=(hr.step y (List.mem_of_getElem? hy)).1.sec
   have hgz:=a_l hz
   rw[a_5,hz,Option.getD_some] at hF
   refine hq.load (a_c (a_c hy)) c_int rfl ⟨y.Sec,rfl,trivial,_,_,_,rfl,_,a_d hI.row,c0,rfl,(hc s).secs.load (a_c hgz.2.2) b_z (Int.toNat_of_nonneg hgz.1).symm ⟨z.Line,rfl,bcd (fun e=>?_) (fun e=>?_)⟩⟩
   · rw[if_pos e] at hF
     rw[←hF,if_pos e]
     have hz3:=k_e (h_e hok).1 hgz.2.2
     exact ⟨trivial,_,_,_,rfl,_,a_d hI.row,d4,rfl,hI.at.lines.idxK c_a (Int.toNat_of_nonneg (by omega)).symm (by rw[List.length_map];omega) ⟨rfl,rfl⟩⟩
   · rw[if_neg e] at hF
     exact c_0 rfl (nx _ hF)
 · have hF:=hq'.done rfl hge
   rw[←hF];exact ⟨rfl,rfl⟩
omit hc hP in
theorem a_p3 (hI:CoIn σ0 σ id a_n (c_z v0 v1 v2 v3 c0 c1 c2 c3 c4 c) (b_p now dd pd) d0 d1 d2 d3 d4 d5 k){i1 i2:Nat}{r:Int}{t1:TypeId}(h1:σ i1= .live t1 [[.el (.osl id 0 1) 0 0]])(h2:σ i2= .live a_h [[iD r]])(hr: -2 ^ 62≤r∧r≤2 ^ 62){s:Int}(hs:0≤s∧s < k.Own.length) :
   Pure Tryz.prog e_v [iA s, .one (.el (.osl i1 0 1) 0 0), .one (.el (.osl i2 0 1) 0 0)] σ (.a (bA (!decide (e_8 k.Own s=r+1)))):=by
 refine o_j s _ _ σ _ ⟨_,_,_,rfl,_,a_d h1,_,rfl,trivial,_,_,_,rfl,_,a_d hI.row,d0,rfl,hI.at.own.load (a_c (v_g hs.1 hs.2)) c_int (Int.toNat_of_nonneg hs.1).symm ⟨_,rfl,_,_,_,rfl,_,a_d h2,r,rfl,?_,rfl⟩⟩
 rw[a_u (n:=r+1) (by omega) (by omega)]
 by_cases e:e_8 k.Own s=r+1
 · rw[decide_eq_true e];congr 3;simp[e]
 · rw[decide_eq_false e];congr 3;simpa using e
end
theorem z_t {d f:D}{l:List Int}{p:Int→Bool}(h:At Tryz.prog σ a_h d (l.map Go.Fw.encI))(hf:FnIs Tryz.prog σ f (fun x:Int=>iA x) l p) :
   Pure Tryz.prog e_x [.one d, .one f] σ (.a (iA (e_q p l 0))):=by
 have hl:=h.size
 rw[List.length_map] at hl
 obtain ⟨f1,a,b,as0',bs,rfl,ha,hb,hf⟩:=hf
 refine o_c d _ σ _ (h.lenK ⟨fun n s=>s=σ∧Rng l (fun r=>∀j:Nat,n=j→e_q p r j=e_q p l 0) n,fun n _=>l.length - n.toNat,⟨rfl, .start fun j hj=>by cases j with | zero=>rfl | succ j=>omega⟩,?_⟩)
 rintro n τ ⟨rfl,hr⟩
 refine bcd (fun hlt=>?_) (fun hge=>?_)
 · obtain ⟨j,x,rfl,hx,hj,hF,nx⟩:=hr.step (by simp) hl hlt
   refine h.load (a_c hx) c_int rfl ⟨x,rfl,f1,a,b,as0',bs,rfl,ha,hb,?_⟩
   have hF:=hF j rfl
   rw[e_q] at hF
   refine (hf x (List.mem_of_getElem? hx)).mono ?_
   rintro r s ⟨rfl,rfl⟩
   refine ⟨p x,rfl,bc (fun hp=>?_) (fun hp=>?_)⟩
   · rw[if_pos hp] at hF;exact ⟨by rw[←hF],rfl⟩
   · refine c_0 rfl (nx _ fun j' hj'=>?_)
     rw[a_o (by omega)] at hj'
     have:j'=j+1:=by omega
     subst this
     rw[if_neg (by rw[hp];simp)] at hF
     exact hF
 · have hF:=hr.done (by simp) hge
   obtain ⟨j,hn,_⟩:=hr
   rw[←hF j hn];exact ⟨rfl,rfl⟩
theorem z_b {d f:D}{l:List Int}{p:Int→Bool}(h:Own Tryz.prog σ0 σ a_h d (l.map Go.Fw.encI))(h1:l.length≤1)(hf:FnIs Tryz.prog σ f (fun x:Int=>iA x) l p) :
   DCalls Tryz.prog e_k [.one d, .one f] σ fun r s=>∃d',r= .a (.one d')∧Own Tryz.prog σ0 s a_h d' ((l.filter fun x=> !p x).map Go.Fw.encI):=by
 refine n_k d f σ _ ((z_t h.at_ hf).use ⟨_,rfl,?_⟩)
 match l,h1,h with
 | [],_,h=>exact bce (fun _=>⟨d,rfl,h⟩) (fun e=>absurd rfl e)
 | [x],_,h=>
   cases hp:p x with
   | false=>
     have e:e_q p [x] 0= -1:=by simp[e_q,hp]
     rw[e]
     refine bce (fun _=>⟨d,rfl,?_⟩) (fun e=>absurd rfl e)
     simpa[hp] using h
   | true=>
     have e:e_q p [x] 0=0:=by simp[e_q,hp]
     rw[e]
     refine bce (fun e=>by cases e) (fun _=>?_)
     have e1:w64 (0+1) =1:=a_u (by omega) (by omega)
     rw[e1]
     refine ⟨fun n m s=>n=0∧m=1∧s=σ,fun _ _ _=>0,⟨rfl,rfl,rfl⟩,?_⟩
     rintro n m s ⟨rfl,rfl,rfl⟩
     refine h.at_.lenK (bcd (fun e=>by simp at e) (fun _=>?_))
     have hr:=h.at_.rows
     have hns:=h.nsl
     have hnew:=h.new
     cases d <;> simp only[Go.Fw.Rows] at hr <;> try exact hr.elim
     · simp at hr
     · simp at hr
     · exact absurd trivial hns
     · rename_i id i0 len _
       obtain ⟨t,rows,g1,g2,g3,g4⟩:=hr
       have hlen:len=1:=by
         have:=congrArg List.length g4
         simp at this;omega
       subst hlen
       obtain ⟨y,hy⟩ :∃y,rows[i0]? =some y:=⟨rows[i0]'(by omega),List.getElem?_eq_getElem _⟩
       have hx:=h.at_.idxN c_int
       have hl1:(List.map Go.Fw.encI [x]).length=1:=rfl
       have hset:∀n:Nat,n=1→List.take i0 rows ++ List.replicate n [iD 0] ++ List.drop (i0+n) rows=rows.set i0 [iD 0]:=fun n hn=>by
         subst hn
         rw[List.set_eq_take_append_cons_drop,if_pos (by omega)];simp
       have hat:Own Tryz.prog σ0 (Store.set s id (.live t (rows.set i0 [iD 0]))) a_h (.osl id i0 1) [[iD 0]]:=by
         refine ⟨⟨⟨t,_,Store.set_same _ _ _,g2,by simpa using g3,?_⟩,by simp,fun es rows e=>by cases e⟩,fun i hi=>?_,hnew,h.nsl,h.nz⟩
         · rw[List.drop_set,if_neg (by omega),Nat.sub_self]
           have hd:(rows.drop i0).length≥1:=by rw[List.length_drop];omega
           cases hdr:rows.drop i0 with
           | nil=>rw[hdr] at hd;simp at hd
           | cons a b=>simp
         · rw[Store.set_ne _ _ (fun e=>by subst e;exact hi (hnew _ _ _ rfl))]
           exact h.ext i hi
       have hsub:=hat.sub (lo:=0) (hi:=0) (by omega) (by simp)
       refine ⟨1,hx,by omega,by omega,List.map Go.Fw.encI [x],?_, .inr ⟨id,i0,1,t,rows,by simp[g_f],g1,1,?_,by omega,by omega,by omega,g_f (.osl id i0 1) 0 0,rfl,?_⟩⟩
       · show Go.Fw.Rows Tryz.prog s a_h (g_f (.osl id i0 1) 0 1) _
         simp only[g_f,Go.Fw.Rows,Nat.add_zero,Nat.sub_zero]
         exact ⟨t,rows,g1,g2,g3,g4⟩
       · rw[hset 1 rfl];exact hat.at_.idxN c_int
       · rw[hset 1 rfl]
         simpa[hp] using hsub
 | _::_::_,h1,_=>simp at h1
end
section
variable {σ σ0:Store}
theorem y_s {c:Cf}{k:Co}(h:FitIs c k){r:Int}{x:Rt}(hx:a_k c.Rts r=some x) :0≤r∧r < 12∧r < k.Routes.length∧r < c.Rts.length:=by
 have:=a_l hx
 have:=a_y h.chk
 have:=h.lRts
 omega
theorem a_sf {c:Cf}{s:Int}(h:∃y,a_k c.Secs s=some y) :0≤s∧s < c.Secs.length:=by
 obtain ⟨y,hy⟩:=h
 have:=a_l hy
 omega
section
variable {c0 c1 c2 c3 c4 v0 v1 v2 v3:D} {c:Cf} {v:Vw} (hc:∀s,CfAt s c0 c1 c2 c3 c4 c) (hz:u_s c4) (hv:VwB σ0 v0 v1 v2 v3 v) (hvf:v.fits c=true) {id:Nat} {d0 d1 d2 d3 d4 d5 pd:D} {k:Co} {now:Int} {dd:Bool} (hP:Paths σ0 pd c)
include hc hz hv hvf hP
theorem a_fv (hI:CoIn σ0 σ id a_n (c_z v0 v1 v2 v3 c0 c1 c2 c3 c4 c) (b_p now dd pd) d0 d1 d2 d3 d4 d5 k)(hf:FitIs c k){r:Int}{x:Rt}(hx:a_k c.Rts r=some x) :
   Pure Tryz.prog d_5 [.one (.el (.osl id 0 1) 0 0),iA r] σ (.a (bA (k.ready c v r))):=by
 have hok:=hf.chk
 have hr:=b_k hok (d_l hx)
 obtain ⟨r0,r1,r2,r3⟩:=y_s hf hx
 have hg:=a_l hx
 obtain ⟨l0,l1,l2,l3⟩:=of_decide_eq_true (show decide (v.Occ.length=c.Secs.length∧v.Pos.length=c.Secs.length∧v.Shut.length=c.Xs.length∧v.Lamp.length=c.Sigs.length) =true from hvf)
 obtain ⟨rrows,q1,q2,q3,hat,hlen,hrow,f1,f2,f3⟩:=q_3 hc hg.2.2
 have hq3:q3≠ .zsl:=fun e=>a_ss hz hat hrow (by rw[e];rfl)
 obtain ⟨prows,hpat,hprows⟩:=hP.mono hI.ext
 obtain ⟨qd,hprow,hq⟩:=hprows _ _ hg.2.2
 have hsO:=hf.lOwn
 have hol:=hr.olen
 refine .of (q_7 _ r σ _ (a_e fun i1 s1 hi1 _ e1 g1=>a_e fun i2 s2 hi2 _ e2 g2=>?_)) (k_o _)
 have g1':=a_v g1 e2
 have hI2:=hI.mono (e1.trans e2)
 refine ⟨_,a_d g1',_,rfl,trivial,_,_,_,rfl,_,a_d hI2.row,c4,rfl,_,a_d g2,r,rfl,(hat s2).load hrow c_l (Int.toNat_of_nonneg r0).symm ⟨q3,rfl,(d_1 (f3 s2) hq3 (by rw[List.length_map];omega)).mono ?_⟩⟩
 rintro q s3 ⟨w3,rfl,ho3⟩
 have e3:=ho3.ext
 have hI3:=hI2.mono e3
 have gg1:=a_v g1' e3
 have gg2:=a_v g2 e3
 have hov:∀s ∈ x.Overlap,0≤s∧s < c.Secs.length:=fun s hs=>a_sf (by obtain ⟨y,hy,_⟩:=(hr.ov hs).1;exact ⟨y,hy⟩)
 refine ⟨w3,rfl,(z_b (p:=fun s=> !decide (e_8 k.Own s=r+1)) ho3 hol ⟨_,_,_,[],[.one (.el (.osl i1 0 1) 0 0), .one (.el (.osl i2 0 1) 0 0)],rfl,rfl,rfl,fun s hs=>a_p3 hI3 gg1 gg2 (by omega) (by have:=hov s hs;omega)⟩).mono ?_⟩
 rintro q s4 ⟨w4,rfl,ho4⟩
 have hfl:(x.Overlap.filter fun s=> !!decide (e_8 k.Own s=r+1)) =k.ownS c r:=by
   rw[Co.ownS,b_h hx];congr 1;funext s;simp
 rw[hfl] at ho4
 have e4:=ho4.ext
 have hI4:=hI2.mono e4
 have gh1:=a_v g1' e4
 have gh2:=a_v g2 e4
 have he4:Ext σ s4:=(e1.trans e2).trans e4
 have hR:k.ready c v r=(clr v.Occ (c.pathS r) && (clr v.Occ (k.ownS c r) && ((c.Needs r).all (i_n c k v) && ((c.Cross r).all (g_t c k v) && z_q c k v r)))):=rfl
 refine ⟨w4,rfl,?_⟩
 intro R hRR
 have hps:∀s ∈ c.pathS r,0≤s∧s < c.Secs.length:=fun s hs=>by
   obtain ⟨j,hj⟩:=List.mem_iff_getElem?.1 hs
   exact y_v hok hj
 rw[←k_l hx] at hq
 have hq4:=hq.ext he4
 have hos:∀s ∈ k.ownS c r,0≤s∧s < c.Secs.length:=fun s hs=>hov s (by rw[Co.ownS,b_h hx] at hs;exact (List.mem_filter.1 hs).1)
 refine ⟨_,a_d gh1,_,rfl,trivial,_,_,_,rfl,_,a_d gh1,_,rfl,trivial,_,_,_,rfl,_,a_d hI4.row,pd,rfl,_,a_d gh2,r,rfl,(hpat.ext he4).load hprow q_0 (Int.toNat_of_nonneg r0).symm ⟨qd,rfl,(h_v hI4.row (hv.mono hI4.ext) hq4 fun s hs=>by have:=hps s hs;omega).use ⟨_,rfl,a_q (fun e=>⟨by rw[hR,e];rfl,he4⟩) (fun b1=>?_)⟩⟩⟩
 refine ⟨_,a_d gh1,_,rfl,trivial,_,_,_,rfl,(h_v hI4.row (hv.mono hI4.ext) ho4.at_ fun s hs=>by have:=hos s hs;omega).use ⟨_,rfl,a_q (fun e=>⟨by rw[hR,b1,e];rfl,he4⟩) (fun b2=>hRR s4 ?_)⟩⟩
 rw[b1,b2,Bool.true_and,Bool.true_and] at hR
 have hyn:(c.rt r).Path.length≤2 ^ 20:=by rw[b_h hx];have:=hr.len;omega
 have hyf:(c.rt r).Flank.length≤2 ^ 20:=by rw[b_h hx];have:=hr.flen;omega
 refine ⟨_,a_d gh1,_,rfl,trivial,_,_,_,rfl,_,a_d hI4.row,c0,c1,c2,c3,c4,_,_,_,_,rfl,_,a_d gh2,r,rfl,(l_d hc r hyn hyf).mono ?_⟩
 rintro q s ⟨rfl,d11,rfl,h11⟩
 have hnl:(c.Needs r).length≤41:=by
   rw[Cf.Needs,b_h hx]
   have:=s_t c x
   have:=hr.len;have:=hr.flen;omega
 refine ⟨d11,rfl,(h11 s).lenK ⟨fun n s'=>s'=s∧Rng (c.Needs r) (fun q=>q.all (i_n c k v) =(c.Needs r).all (i_n c k v)) n,fun n _=>(c.Needs r).length - n.toNat,⟨rfl, .start rfl⟩,?_⟩⟩
 rintro n s' ⟨rfl,hq⟩
 rw[List.length_map]
 refine bcd (fun hlt=>?_) (fun hge=>?_)
 · obtain ⟨j,nd,rfl,hnd,hj,hF,nx⟩:=hq.step rfl (by omega) hlt
   obtain ⟨hsec,_⟩:=n_h hr (by have:=List.mem_of_getElem? hnd;rw[Cf.Needs,b_h hx] at this;exact this)
   obtain ⟨g0,g3⟩:=a_sf hsec
   have hlp:=hf.lPts
   rw[List.all_cons] at hF
   have no:i_n c k v nd=false→(RV.a (.one (.bool false)) = .a (bA (k.ready c v r))∧Ext σ s'):=fun e=>by rw[hR,←hF,e];exact ⟨rfl,he4⟩
   refine (h11 s').load (a_c hnd) n_4 rfl ⟨nd.Sec,nd.Pos,rfl,_,a_d gh1,_,rfl,trivial,_,_,_,rfl,_,a_d hI4.row,d2,rfl,hI4.at.points.load (a_c (a_uf g0 (by omega))) c_r (Int.toNat_of_nonneg g0).symm ⟨(mvG k.Points nd.Sec).Cmd,(mvG k.Points nd.Sec).Other,rfl,bcn (fun e=>no (by rw[i_n,decide_eq_false e];rfl)) (fun b3=>?_)⟩⟩
   refine ⟨_,a_d gh1,_,rfl,trivial,_,_,_,rfl,_,a_d hI4.row,v1,rfl,(hv.pos s' hI4.ext).load (a_c (a_jx g0 (by omega))) w_o (Int.toNat_of_nonneg g0).symm ⟨(lkG v.Pos nd.Sec).Value,(lkG v.Pos nd.Sec).Stamp,(lkG v.Pos nd.Sec).Valid,rfl,_,a_d gh1,_,rfl,trivial,_,_,_,rfl,_,a_d hI4.row,c.Age,rfl,?_⟩⟩
   refine (p_i (mvG k.Points nd.Sec) (lkG v.Pos nd.Sec) c.Age).use ⟨_,rfl,a_q (fun e=>no (by rw[i_n,e,Bool.and_false])) (fun b4=>?_)⟩
   rw[i_n,decide_eq_true b3,b4,Bool.true_and,Bool.true_and] at hF
   exact c_0 rfl (nx (fun q=>q.all (i_n c k v) =(c.Needs r).all (i_n c k v)) hF)
 have hF:=hq.done rfl hge
 rw[←hF,List.all_nil,Bool.true_and] at hR
 clear hF hq hge
 have hxs:=(x_7 hok).2.2
 refine ⟨_,a_d gh1,_,rfl,trivial,_,_,_,rfl,_,a_d hI4.row,c0,c1,c2,c3,c4,_,_,_,_,rfl,_,a_d gh2,r,rfl,(g_1 hc r (by omega)).mono ?_⟩
 rintro q s ⟨rfl,d18,rfl,h18⟩
 have hcl2:(c.Cross r).length≤c.Xs.length:=l_g _ _ _
 refine ⟨d18,rfl,(h18 s).lenK ⟨fun n s'=>s'=s∧Rng (c.Cross r) (fun q=>q.all (g_t c k v) =(c.Cross r).all (g_t c k v)) n,fun n _=>(c.Cross r).length - n.toNat,⟨rfl, .start rfl⟩,?_⟩⟩
 rintro n s' ⟨rfl,hq⟩
 rw[List.length_map]
 refine bcd (fun hlt=>?_) (fun hge=>?_)
 · obtain ⟨j,i,rfl,hi,hj,hF,nx⟩:=hq.step rfl (by omega) hlt
   obtain ⟨i',xx,e3',hxx,_⟩:=g_y _ _ _ _ (List.mem_of_getElem? hi)
   rw[Nat.zero_add] at e3'
   have hil:=(List.getElem?_eq_some_iff.1 hxx).1
   have hlp:=hf.lXs
   have g0:0≤i:=by omega
   rw[List.all_cons] at hF
   have no:g_t c k v i=false→(RV.a (.one (.bool false)) = .a (bA (k.ready c v r))∧Ext σ s'):=fun e=>by rw[hR,←hF,e];exact ⟨rfl,he4⟩
   refine (h18 s').load (a_c hi) c_int rfl ⟨i,rfl,_,a_d gh1,_,rfl,trivial,_,_,_,rfl,_,a_d hI4.row,d3,rfl,hI4.at.xs.load (a_c (a_uf g0 (by omega))) c_r (Int.toNat_of_nonneg g0).symm ⟨(mvG k.Xs i).Cmd,(mvG k.Xs i).Other,rfl,?_⟩⟩
   refine ⟨_,a_d gh1,_,rfl,trivial,_,_,_,rfl,_,a_d hI4.row,v2,rfl,(hv.shut s' hI4.ext).load (a_c (a_jx g0 (by omega))) w_o (Int.toNat_of_nonneg g0).symm ⟨(lkG v.Shut i).Value,(lkG v.Shut i).Stamp,(lkG v.Shut i).Valid,rfl,_,a_d gh1,_,rfl,trivial,_,_,_,rfl,_,a_d hI4.row,c.Age,rfl,?_⟩⟩
   refine (p_i (mvG k.Xs i) (lkG v.Shut i) c.Age).use ⟨_,rfl,a_q (fun e=>no (by rw[g_t,e])) (fun b4=>?_)⟩
   rw[g_t,b4,Bool.true_and] at hF
   exact c_0 rfl (nx (fun q=>q.all (g_t c k v) =(c.Cross r).all (g_t c k v)) hF)
 have hF:=hq.done rfl hge
 rw[←hF,List.all_nil,Bool.true_and] at hR
 clear hF hq hge
 obtain ⟨a,ha⟩:=hr.entry
 have hga:=a_l ha
 have hl:=x_r hok x.Path
 have hlr:c.lineR r=a_5 c x.Path:=by rw[Cf.lineR,b_h hx]
 have hl4:=hf.lLn
 rw[z_q,b_h hx] at hR
 refine ⟨_,a_d gh1,_,rfl,_,a_d gh2,r,rfl,(u_q hc hP hI4 hok hl4 hx).use ⟨_,rfl,_,a_d gh1,_,rfl,trivial,_,_,_,rfl,_,a_d hI4.row,v3,rfl,_,a_d gh1,_,rfl,trivial,_,_,_,rfl,_,a_d hI4.row,c4,rfl,_,a_d gh2,r,rfl,?_⟩⟩
 refine (hat s').load hrow c_l (Int.toNat_of_nonneg r0).symm ⟨x.Entry,rfl,(hv.lamp s' hI4.ext).load (a_c (a_jx hga.1 (by omega))) w_o (Int.toNat_of_nonneg hga.1).symm ⟨(lkG v.Lamp x.Entry).Value,(lkG v.Lamp x.Entry).Stamp,(lkG v.Lamp x.Entry).Valid,rfl,bc (fun b5=>bce (fun b6=>?_) (fun e=>⟨by rw[hR,decide_eq_false e];simp,he4⟩)) (fun e=>⟨by rw[hR,e];rfl,he4⟩)⟩⟩
 rw[b5,decide_eq_true b6,Bool.true_and,Bool.true_and] at hR
 by_cases hpos:c.lineR r > 0
 · rw[if_pos hpos]
   refine ⟨false,rfl,bc (fun e=>by cases e) (fun _=>?_)⟩
   have hll:c.lineR r < k.Lines.length:=by omega
   have hu:=a_xn (l:=k.Lines) (s:=c.lineR r) (by omega) hll
   refine ⟨trivial,_,_,_,rfl,_,hI4.at.lines.row (a_c hu),(lnG k.Lines (c.lineR r)).PGrant,rfl,trivial,_,_,_,rfl,_,hI4.at.lines.row (a_c hu),(lnG k.Lines (c.lineR r)).Ask,rfl,?_,he4⟩
   rw[hR,decide_eq_false (show ¬c.lineR r=0 by omega),Bool.false_or]
   by_cases e:(lnG k.Lines (c.lineR r)).PGrant=(lnG k.Lines (c.lineR r)).Ask <;> simp[e]
 · rw[if_neg hpos]
   refine ⟨true,rfl,bc (fun _=>⟨?_,he4⟩) (fun e=>by cases e)⟩
   rw[hR,decide_eq_true (show c.lineR r=0 by omega),Bool.true_or]
end
end
section
variable {σ σ0:Store}
/-! the greatest of two numbers, as a call that is told -/
def a_xy (d:D)(a b:Int)(xs:List A)(s:Store) :Prop:=xs=[.one d]∧At Tryz.prog s a_h d [Go.Fw.encI a,Go.Fw.encI b]
def a_w2 (d:D)(a b:Int)(xs:List A)(s:Store)(r:RV)(s':Store) :Prop:=xs=[.one d]∧r= .a (iA (max a b))∧s'=s
theorem a_q6 {d:D}{a b:Int}(h:At Tryz.prog σ a_h d [Go.Fw.encI a,Go.Fw.encI b]) :Pure Tryz.prog f_x [.one d] σ (.a (iA (max a b))):=by
 refine a_ag d σ _ ?_
 intro R hR
 refine h.lenK (bcd (fun e=>by simp at e) (fun _=>hR σ ?_))
 refine h.load (j:=0) rfl c_int rfl ⟨a,rfl,fun m n s=>s=σ∧((m=a∧n=1)∨(m=max a b∧n=2)),fun m n _=>2 - n.toNat,⟨rfl, .inl ⟨rfl,rfl⟩⟩,?_⟩
 rintro m n s ⟨rfl,hn⟩
 refine h.lenK (bcd (fun hlt=>?_) (fun hge=>?_))
 · rcases hn with ⟨rfl,rfl⟩ | ⟨rfl,rfl⟩
   · refine h.load (j:=1) rfl c_int rfl ⟨b,rfl,⟨rfl, .inr ⟨?_,?_⟩⟩,?_⟩
     · split <;> omega
     · exact a_u (by omega) (by omega)
     · rw[show w64 (1+1) =2 from a_u (by omega) (by omega)];show 2 - (2:Int).toNat < 2 - (1:Int).toNat;decide
   · simp at hlt
 · rcases hn with ⟨rfl,rfl⟩ | ⟨rfl,rfl⟩
   · simp at hge
   · exact ⟨rfl,rfl⟩
theorem a_ur (d:D)(a b:Int) :h_o Tryz.prog f_x (a_xy d a b) (a_w2 d a b):=by
 refine ⟨?_,?_,?_,?_,?_⟩
 · rintro xs s ⟨rfl,h⟩
   exact (a_q6 h).use ⟨rfl,rfl,rfl⟩
 · rintro xs s ⟨rfl,h⟩ hf
   exact ⟨_,s,⟨rfl,rfl,rfl⟩,hf⟩
 · rintro xs s r s' ⟨rfl,rfl,rfl⟩ hf
   exact hf
 · rintro xs s id so hid hso ⟨rfl,h⟩
   refine ⟨⟨rfl,h.ext (Ext.new hid so)⟩,?_⟩
   rintro r s' ⟨_,rfl,rfl⟩
   exact ⟨s,⟨rfl,rfl,rfl⟩,hid,rfl⟩
 · rintro xs s r s' _ ⟨rfl,rfl,rfl⟩ i _
   rfl
theorem a_is {id:Nat}{t:TypeId}{v0 v1 v2 v3:D}{rest:List D}{v:Vw}(hrow:σ id= .live t [v0::rest])(hv:VwB σ v0 v1 v2 v3 v){s:Int}(hs:0≤s∧s < v.Occ.length){d:D}{a b:Int}(hd:At Tryz.prog σ a_h d [Go.Fw.encI a,Go.Fw.encI b]) :
   Pure Tryz.prog f_6 [.one (.el (.osl id 0 1) 0 0),iA s, .one d] σ (.a (bA ((lkG v.Occ s).clear && decide ((lkG v.Occ s).Stamp > max a b)))):=by
 refine .of (t_x _ s d σ _ ⟨_,_,a_ur d a b,a_e fun i1 s1 hi1 _ e1 g1=>?_⟩) (k_o _)
 have hc1:clr v.Occ [s]=(lkG v.Occ s).clear:=by simp[clr]
 refine (h_v (a_v hrow e1) (hv.mono e1) (l:= [s]) (At.fresh g1 (by simp) rfl) fun x hx=>by rw[List.mem_singleton] at hx;subst hx;exact hs).use ⟨_,rfl,bc (fun e=>?_) (fun e=>⟨by rw[←hc1,e];rfl,e1⟩)⟩
 refine ⟨trivial,_,_,_,rfl,_,a_d (a_v hrow e1),v0,rfl,(hv.occ s1 e1).load (a_c (a_jx hs.1 hs.2)) w_o (Int.toNat_of_nonneg hs.1).symm ⟨(lkG v.Occ s).Stamp,rfl,⟨rfl,hd.ext e1⟩,?_⟩⟩
 rintro r s2 ⟨_,rfl,rfl⟩
 exact ⟨_,rfl,by rw[←hc1,e];rfl,e1⟩
section
variable {c0 c1 c2 c3 c4 v0 v1 v2 v3:D} {c:Cf} {v:Vw} {id:Nat} {d0 d1 d2 d3 d4 d5 pd:D} {k:Co} {now:Int} {dd:Bool}
def n_2 (σ0:Store)(id:Nat)(pre post:List D)(d0 d1 d2 d3 d4 d5:D)(k:Co)(r:RV)(s:Store) :Prop:=r= .tup []∧CoIn σ0 s id a_n pre post d0 d1 d2 d3 d4 d5 k
theorem m_u (hI:CoIn σ0 σ id a_n (c_z v0 v1 v2 v3 c0 c1 c2 c3 c4 c) (b_p now dd pd) d0 d1 d2 d3 d4 d5 k){s:Int}(h0:0≤s)(h1:s < k.Own.length) :
   DCalls Tryz.prog c_7 [.one (.el (.osl id 0 1) 0 0),iA s] σ (n_2 σ0 id (c_z v0 v1 v2 v3 c0 c1 c2 c3 c4 c) (b_p now dd pd) d0 d1 d2 d3 d4 d5 { k with Own:=k.Own.set s.toNat 0,Dirty:=true }):=by
 refine s_5 _ s σ _ ⟨trivial,_,_,_,rfl,_,a_d hI.row,d0,rfl,hI.at.own.idxK c_int (Int.toNat_of_nonneg h0).symm (by rw[List.length_map];omega) ?_⟩
 refine hI.putO (y:=0) (v_g h0 h1) rfl (by simp) rfl fun s1 hI1 _=>⟨trivial,_,_,_,rfl,hI1.dirty (b:=true) rfl fun s2 hI2 _=>⟨rfl,hI2⟩⟩
theorem a_rl {o:Int}{l:List Int}{j:Nat}{z:Int}(h:l[j]? =some z) :(b_6 o (l.take j) ++ l.drop j)[j]? =some z∧(z=o→(b_6 o (l.take j) ++ l.drop j).set j 0=b_6 o (l.take (j+1)) ++ l.drop (j+1))∧(z≠o→b_6 o (l.take j) ++ l.drop j=b_6 o (l.take (j+1)) ++ l.drop (j+1)):=by
 obtain ⟨hl,he⟩:=List.getElem?_eq_some_iff.1 h
 have hln:(b_6 o (l.take j)).length=j:=by unfold b_6;rw[List.length_map,List.length_take];omega
 have hd:l.drop j=z::l.drop (j+1):=by rw[←he];exact List.drop_eq_getElem_cons hl
 have ht:b_6 o (l.take (j+1)) =b_6 o (l.take j) ++ [if z=o then 0 else z]:=by
   unfold b_6;rw[List.take_add_one,h,List.map_append];rfl
 refine ⟨?_,fun e=>?_,fun e=>?_⟩
 · rw[List.getElem?_append_right (by omega),hln,Nat.sub_self,hd];rfl
 · rw[ht,if_pos e,hd,List.set_append_right _ _ (by omega),hln,Nat.sub_self,List.set_cons_zero];simp
 · rw[ht,if_neg e,hd];simp
variable (hc:∀s,CfAt s c0 c1 c2 c3 c4 c) (hP:Paths σ0 pd c)
include hc hP
theorem a_mz (hI:CoIn σ0 σ id a_n (c_z v0 v1 v2 v3 c0 c1 c2 c3 c4 c) (b_p now dd pd) d0 d1 d2 d3 d4 d5 k)(hf:FitIs c k){r:Int}{x:Rt}(hx:a_k c.Rts r=some x) :
   DCalls Tryz.prog g_4 [.one (.el (.osl id 0 1) 0 0),iA r] σ (n_2 σ0 id (c_z v0 v1 v2 v3 c0 c1 c2 c3 c4 c) (b_p now dd pd) d0 d1 d2 d3 d4 d5 (k.endR c r)):=by
 have hok:=hf.chk
 obtain ⟨r0,r1,r2,r3⟩:=y_s hf hx
 have hsm:=q_h (fits_iff.2 hf)
 have w:w64 (r+1) =r+1:=a_u (by omega) (by omega)
 refine v_m _ r σ _ ⟨trivial,_,_,_,rfl,_,a_d hI.row,d0,rfl,hI.at.own.lenK ⟨fun n s=>∃(j:Nat) (b:Bool),n=j∧j≤k.Own.length∧CoIn σ0 s id a_n (c_z v0 v1 v2 v3 c0 c1 c2 c3 c4 c) (b_p now dd pd) d0 d1 d2 d3 d4 d5 { k with Own:=b_6 (r+1) (k.Own.take j) ++ k.Own.drop j,Dirty:=b },
   fun n _=>k.Own.length - n.toNat,⟨0,k.Dirty,rfl,by omega,by simpa[b_6] using hI⟩,?_⟩⟩
 rintro n s ⟨j,b,rfl,hj,hI1⟩
 rw[List.length_map]
 refine bcd (fun hlt=>?_) (fun hge=>?_)
 · obtain ⟨z,hz⟩:=a_i (l:=k.Own) (j:=j) (by omega)
   obtain ⟨a1,a2,a3⟩:=a_rl (o:=r+1) hz
   have hl1:=(List.getElem?_eq_some_iff.1 a1).1
   refine hI1.at.own.load (a_c a1) c_int rfl ⟨z,rfl,?_⟩
   rw[w,a_o (by omega)]
   refine bce (fun e=>?_) (fun e=>⟨⟨j+1,b,rfl,by omega,by rw[←a3 e];exact hI1⟩,c_w (by omega)⟩)
   refine (m_u hI1 (s:=(j:Int)) (by omega) (by simp only;omega)).mono ?_
   rintro q s2 ⟨rfl,hI2⟩
   refine ⟨rfl,⟨j+1,true,rfl,by omega,?_⟩,c_w (by omega)⟩
   rw[←a2 e];exact hI2
 have e:j=k.Own.length:=by omega
 rw[e,List.take_length,List.drop_length,List.append_nil] at hI1
 have hl4:=hf.lLn
 refine (u_q hc hP hI1 hok hl4 hx).use ⟨_,rfl,?_⟩
 have fin : ∀ (L : List Ls) s2, L = i_4 (c.lineR r) k.Lines → CoIn σ0 s2 id a_n (c_z v0 v1 v2 v3 c0 c1 c2 c3 c4 c) (b_p now dd pd) d0 d1 d2 d3 d4 d5 { k with Own := b_6 (r + 1) k.Own, Lines := L, Routes := k.Routes.set r.toNat ⟨0, 0, 0, 0⟩, Dirty := true } →
     n_2 σ0 id (c_z v0 v1 v2 v3 c0 c1 c2 c3 c4 c) (b_p now dd pd) d0 d1 d2 d3 d4 d5 (k.endR c r) (.tup []) s2:=fun L s2 hL h=>⟨rfl,by subst hL;exact h⟩
 by_cases hpos:c.lineR r > 0
 · rw[if_pos hpos]
   have hl:=x_r hok x.Path
   have hlr:c.lineR r=a_5 c x.Path:=by rw[Cf.lineR,b_h hx]
   have hu:=a_xn (l:=k.Lines) (s:=c.lineR r) (by omega) (by omega)
   refine ⟨false,rfl,bc (fun _=>?_) (fun e=>by cases e)⟩
   refine ⟨trivial,_,_,_,rfl,_,hI1.at.lines.row (a_c hu),(lnG k.Lines (c.lineR r)).Ask,rfl,trivial,_,_,_,rfl,?_⟩
   refine hI1.putL (k:= { k with Own:=b_6 (r+1) k.Own,Dirty:=b }) (y:= { lnG k.Lines (c.lineR r) with Done:=(lnG k.Lines (c.lineR r)).Ask }) hu rfl (by simp) rfl fun s2 hI2 _=>?_
   refine ⟨trivial,_,_,_,rfl,_,a_d hI2.row,d1,rfl,hI2.at.routes.idxK a_x (Int.toNat_of_nonneg r0).symm (by rw[List.length_map];simp only;omega) ?_⟩
   refine hI2.putR (y:=⟨0,0,0,0⟩) (s_s r0 r2) rfl (by simp) rfl fun s3 hI3 _=>?_
   refine ⟨trivial,_,_,_,rfl,hI3.dirty (b:=true) rfl fun s4 hI4 _=>fin _ s4 ?_ hI4⟩
   rw[i_4,if_pos hpos]
 · rw[if_neg hpos]
   refine ⟨true,rfl,bc (fun e=>by cases e) (fun _=>?_)⟩
   refine ⟨trivial,_,_,_,rfl,_,a_d hI1.row,d1,rfl,hI1.at.routes.idxK a_x (Int.toNat_of_nonneg r0).symm (by rw[List.length_map];simp only;omega) ?_⟩
   refine hI1.putR (k:= { k with Own:=b_6 (r+1) k.Own,Dirty:=b }) (y:=⟨0,0,0,0⟩) (s_s r0 r2) rfl (by simp) rfl fun s3 hI3 _=>?_
   refine ⟨trivial,_,_,_,rfl,hI3.dirty (b:=true) rfl fun s4 hI4 _=>fin k.Lines s4 ?_ hI4⟩
   rw[i_4,if_neg hpos]
end
end
section
variable {σ σ0:Store}
theorem a_qw {c:Cf}{v:Vw}(h:v.fits c=true) :v.Occ.length=c.Secs.length∧v.Pos.length=c.Secs.length∧v.Shut.length=c.Xs.length∧v.Lamp.length=c.Sigs.length:=of_decide_eq_true h
theorem a_vs {c:Cf}(h:c.check=0) :0≤c.Hold∧c.Hold≤40∧1≤c.Age∧c.Age≤8:=by
 have:=(h_e h).2.2.2.2.2
 simp only[Cf.timing,Bool.and_eq_true,decide_eq_true_eq] at this
 omega
section
variable {c0 c1 c2 c3 c4 v0 v1 v2 v3:D} {c:Cf} {v:Vw} (hc:∀s,CfAt s c0 c1 c2 c3 c4 c) (hv:VwB σ0 v0 v1 v2 v3 v) (hvf:v.fits c=true) {id:Nat} {d0 d1 d2 d3 d4 d5 pd:D} {k:Co} {now:Int} {dd:Bool} (hP:Paths σ0 pd c)
include hc hv hvf hP
theorem a_cp (hI:CoIn σ0 σ id a_n (c_z v0 v1 v2 v3 c0 c1 c2 c3 c4 c) (b_p now dd pd) d0 d1 d2 d3 d4 d5 k)(hf:FitIs c k)(hn:tm 0 now=true){r:Int}{x:Rt}(hx:a_k c.Rts r=some x) :
   DCalls Tryz.prog b_0 [.one (.el (.osl id 0 1) 0 0),iA r] σ (n_2 σ0 id (c_z v0 v1 v2 v3 c0 c1 c2 c3 c4 c) (b_p now dd pd) d0 d1 d2 d3 d4 d5 (k.endingR c v now r)):=by
 have hok:=hf.chk
 obtain ⟨r0,r1,r2,r3⟩:=y_s hf hx
 have hg:=a_l hx
 have hh:=a_vs hok
 have hst:=s_s r0 r2
 have hrf:=hf.rts _ _ _ hst hg.2.2
 simp only[Rs.fits,tm,Bool.and_eq_true,decide_eq_true_eq] at hrf
 have w:w64 ((rsG k.Routes r).Since+c.Hold) =(rsG k.Routes r).Since+c.Hold:=a_u (by omega) (by omega)
 have w1:w64 (r+1) =r+1:=a_u (by omega) (by omega)
 have hR1:=hI.at.routes.row (a_c hst)
 have hlen:(c.pathS r).length=x.Path.length:=by rw[k_l hx,List.length_map]
 have hpl:=(b_k hok (d_l hx)).len
 refine p_6 _ r σ _ ⟨trivial,_,_,_,rfl,_,a_d hI.row,d1,rfl,hI.at.routes.load (a_c hst) a_x (Int.toNat_of_nonneg r0).symm ⟨(rsG k.Routes r).Since,rfl,trivial,_,_,_,rfl,_,a_d hI.row,c.Hold,rfl,trivial,_,_,_,rfl,_,a_d hI.row,now,rfl,?_⟩⟩
 rw[w]
 refine bcd (fun e=>⟨rfl,by rw[Co.endingR,if_pos e];exact hI⟩) (fun e=>?_)
 intro R hRR
 have fin:∀s',CoIn σ0 s' id a_n (c_z v0 v1 v2 v3 c0 c1 c2 c3 c4 c) (b_p now dd pd) d0 d1 d2 d3 d4 d5 (k.goOn c v now r)→R s':=fun s' h=>hRR s' (by
   have hf1:=s_v (v:=v) hf hn r0
   obtain ⟨_,_,r2',_⟩:=y_s hf1 hx
   obtain ⟨prows,hpat,hprows⟩:=hP.mono h.ext
   obtain ⟨qd,hprow,hq⟩:=hprows _ _ hg.2.2
   rw[←k_l hx] at hq
   refine ⟨_,h.at.routes.row (a_c (s_s r0 r2')),(rsG (k.goOn c v now r).Routes r).Next,rfl,trivial,_,_,_,rfl,_,a_d h.row,pd,rfl,hpat.load hprow q_0 (Int.toNat_of_nonneg r0).symm ⟨qd,rfl,hq.lenK ?_⟩⟩
   rw[List.length_map]
   refine bce (fun e1=>?_) (fun e1=>⟨rfl,by rw[Co.endingR,if_neg e,if_neg e1];exact h⟩)
   refine (a_mz hc hP h hf1 hx).mono ?_
   rintro q s2 ⟨rfl,h2⟩
   exact ⟨rfl,rfl,by rw[Co.endingR,if_neg e,if_pos e1];exact h2⟩)
 clear hRR
 obtain ⟨prows,hpat,hprows⟩:=hP.mono hI.ext
 obtain ⟨qd,hprow,hq⟩:=hprows _ _ hg.2.2
 rw[←k_l hx] at hq
 refine ⟨trivial,_,_,_,rfl,_,a_d hI.row,pd,rfl,hpat.load hprow q_0 (Int.toNat_of_nonneg r0).symm ⟨qd,rfl,_,hR1,(rsG k.Routes r).Next,rfl,hq.lenK ?_⟩⟩
 rw[List.length_map]
 refine bcd (fun hlt=>?_) (fun hge=>fin σ ?_)
 · obtain ⟨s,hs⟩:=a_i (l:=c.pathS r) (j:=(rsG k.Routes r).Next.toNat) (by omega)
   have hgs:a_k (c.pathS r) (rsG k.Routes r).Next=some s:=by unfold a_k;rw[if_neg (by omega),hs]
   obtain ⟨s0,s1⟩:=y_v hok hs
   have hlo:=hf.lOwn
   have hvl:=a_qw hvf
   have hgo : k.goOn c v now r = if e_8 k.Own s ≠ r + 1 then k.setR r { rsG k.Routes r with Next := (rsG k.Routes r).Next + 1 }
       else if (lkG v.Occ s).clear=true∧(lkG v.Occ s).Stamp > (rsG k.Routes r).Since+c.Hold∧(lkG v.Occ s).Stamp > (rsG k.Routes r).Mark then
         { k with Own:=k.Own.set s.toNat 0,Dirty:=true,Routes:=k.Routes.set r.toNat { rsG k.Routes r with Next:=(rsG k.Routes r).Next+1,Mark:=now } }
       else k:=by rw[Co.goOn,hgs]
   have wn:w64 ((rsG k.Routes r).Next+1) =(rsG k.Routes r).Next+1:=a_u (by omega) (by omega)
   refine ⟨_,hR1,(rsG k.Routes r).Next,rfl,hq.load (a_c hs) c_int (Int.toNat_of_nonneg (by omega)).symm ⟨s,rfl,trivial,_,_,_,rfl,_,a_d hI.row,d0,rfl,hI.at.own.load (a_c (v_g s0 (by omega))) c_int (Int.toNat_of_nonneg s0).symm ⟨_,rfl,?_⟩⟩⟩
   rw[w1]
   refine bcn (fun e1=>?_) (fun e1=>?_)
   · refine ⟨_,hR1,(rsG k.Routes r).Next,rfl,?_⟩
     rw[wn]
     refine hI.putR (y:= { rsG k.Routes r with Next:=(rsG k.Routes r).Next+1 }) hst rfl (by simp) rfl fun s2 hI2 _=>fin s2 ?_
     rw[hgo,if_pos e1];exact hI2
   rw[if_neg (by simpa using e1)] at hgo
   refine ⟨trivial,_,_,_,rfl,_,hR1,(rsG k.Routes r).Mark,rfl,a_e fun i1 s1' hi1 _ he1 g1=>?_⟩
   have hI1:=hI.mono he1
   refine (a_is hI1.row (hv.mono hI1.ext) (s:=s) ⟨s0,by omega⟩ (d:= .osl i1 0 2) (a:=(rsG k.Routes r).Since+c.Hold) (b:=(rsG k.Routes r).Mark) (At.fresh g1 (by simp) rfl)).use ⟨_,rfl,bc (fun e2=>?_) (fun e2=>fin s1' ?_)⟩
   · rw[Bool.and_eq_true,decide_eq_true_eq] at e2
     rw[if_pos ⟨e2.1,by omega,by omega⟩] at hgo
     refine (m_u hI1 s0 (by omega)).mono ?_
     rintro q s2 ⟨rfl,hI2⟩
     refine ⟨rfl,_,hI2.at.routes.row (a_c hst),(rsG k.Routes r).Next,rfl,?_⟩
     rw[wn]
     refine hI2.putR (k:= { k with Own:=k.Own.set s.toNat 0,Dirty:=true }) (y:= { rsG k.Routes r with Next:=(rsG k.Routes r).Next+1 }) hst rfl (by simp) rfl fun s3 hI3 _=>?_
     refine ⟨trivial,_,_,_,rfl,_,a_d hI3.row,now,rfl,?_⟩
     refine hI3.putR (x:= { rsG k.Routes r with Next:=(rsG k.Routes r).Next+1 }) (y:= { rsG k.Routes r with Next:=(rsG k.Routes r).Next+1,Mark:=now }) (j:=r.toNat) (by show (k.Routes.set r.toNat _)[r.toNat]? =_;rw[List.getElem?_set,if_pos rfl,if_pos (by omega)]) rfl (by simp) rfl fun s4 hI4 _=>fin s4 ?_
     rw[hgo]
     have:({ k with Own:=k.Own.set s.toNat 0,Dirty:=true,Routes:=k.Routes.set r.toNat { rsG k.Routes r with Next:=(rsG k.Routes r).Next+1,Mark:=now } } :Co) = { k with Own:=k.Own.set s.toNat 0,Dirty:=true,Routes:=(k.Routes.set r.toNat { rsG k.Routes r with Next:=(rsG k.Routes r).Next+1 }).set r.toNat { rsG k.Routes r with Next:=(rsG k.Routes r).Next+1,Mark:=now } } :=by rw[List.set_set]
     rw[this];exact hI4
   · have : ¬ ((lkG v.Occ s).clear = true ∧ (lkG v.Occ s).Stamp > (rsG k.Routes r).Since + c.Hold ∧ (lkG v.Occ s).Stamp > (rsG k.Routes r).Mark) := fun h => by
       rw[h.1,decide_eq_true (by omega)] at e2;cases e2
     rw[hgo,if_neg this];exact hI1
 · have:a_k (c.pathS r) (rsG k.Routes r).Next=none:=d_u (by omega)
   rw[Co.goOn,this];exact hI
end
section
variable {c0 c1 c2 c3 c4 v0 v1 v2 v3:D} {c:Cf} {v:Vw} (hc:∀s,CfAt s c0 c1 c2 c3 c4 c) (hz:u_s c4) (hv:VwB σ0 v0 v1 v2 v3 v) (hvf:v.fits c=true) {id:Nat} {d0 d1 d2 d3 d4 d5 pd:D} {k:Co} {now:Int} {dd:Bool} (hP:Paths σ0 pd c)
include hc hz hv hvf hP
theorem a_eh (hI:CoIn σ0 σ id a_n (c_z v0 v1 v2 v3 c0 c1 c2 c3 c4 c) (b_p now dd pd) d0 d1 d2 d3 d4 d5 k)(hf:FitIs c k)(hn:tm 0 now=true){r:Int}{x:Rt}(hx:a_k c.Rts r=some x) :
   DCalls Tryz.prog f_r [.one (.el (.osl id 0 1) 0 0),iA r] σ (n_2 σ0 id (c_z v0 v1 v2 v3 c0 c1 c2 c3 c4 c) (b_p now dd pd) d0 d1 d2 d3 d4 d5 (k.routeR c v now dd r)):=by
 have hok:=hf.chk
 obtain ⟨r0,r1,r2,r3⟩:=y_s hf hx
 have hg:=a_l hx
 have hst:=s_s r0 r2
 have hR1:=hI.at.routes.row (a_c hst)
 have hvl:=a_qw hvf
 obtain ⟨prows,hpat,hprows⟩:=hP.mono hI.ext
 obtain ⟨qd,hprow,hq⟩:=hprows _ _ hg.2.2
 rw[←k_l hx] at hq
 have hps:∀s ∈ c.pathS r,0≤s∧s < v.Occ.length:=fun s hs=>by
   obtain ⟨j,hj⟩:=List.mem_iff_getElem?.1 hs
   have:=y_v hok hj
   omega
 have hD : k.routeR c v now dd r = if ((rsG k.Routes r).State = 2 ∨ (rsG k.Routes r).State = 3) ∧ clr v.Occ (c.pathS r) = false then k.setR r { rsG k.Routes r with State := 4, Since := now, Mark := 0 }
     else if (rsG k.Routes r).State=2∧k.ready c v r=false then k.setR r { rsG k.Routes r with State:=3 }
     else if (rsG k.Routes r).State=1∧dd=false∧k.ready c v r=true then k.setR r { rsG k.Routes r with State:=2 }
     else if (rsG k.Routes r).State=4 then k.endingR c v now r
     else k:=rfl
 have hend:=a_cp hc hv hvf hP hI hf hn hx
 have hrdy:=a_fv hc hz hv hvf hP hI hf hx
 generalize k.routeR c v now dd r=k' at hD ⊢
 refine r_0 _ r σ _ ⟨trivial,_,_,_,rfl,_,a_d hI.row,d1,rfl,hI.at.routes.idxK a_x (Int.toNat_of_nonneg r0).symm (by rw[List.length_map];omega) ?_⟩
 have t4:(k'=if (rsG k.Routes r).State=4 then k.endingR c v now r else k)→a_b ((rsG k.Routes r).State == 4) (DCalls Tryz.prog b_0 [.one (.el (.osl id 0 1) 0 0),iA r] σ fun r1 s1=>r1= .tup []∧n_2 σ0 id (c_z v0 v1 v2 v3 c0 c1 c2 c3 c4 c) (b_p now dd pd) d0 d1 d2 d3 d4 d5 k' (.tup []) s1) (n_2 σ0 id (c_z v0 v1 v2 v3 c0 c1 c2 c3 c4 c) (b_p now dd pd) d0 d1 d2 d3 d4 d5 k' (.tup []) σ):=fun hk=>by
   refine bce (fun e=>?_) (fun e=>⟨rfl,by rw[hk,if_neg e];exact hI⟩)
   rw[if_pos e] at hk
   subst hk
   exact hend.mono fun q s h=>⟨h.1,rfl,h.2⟩
 intro R hR
 have goR:∀b,(b=true↔(rsG k.Routes r).State=2∨(rsG k.Routes r).State=3)→R b σ:=fun b hb=>hR b σ (by
   intro R1 hRR1
   have go1:∀b1,(b1=true↔((rsG k.Routes r).State=2∨(rsG k.Routes r).State=3)∧clr v.Occ (c.pathS r) =false)→R1 b1 σ:=fun b1 hb1=>hRR1 b1 σ (by
     refine bc (fun e1=>?_) (fun e1=>?_)
     · rw[if_pos (hb1.1 e1)] at hD
       subst hD
       refine ⟨trivial,_,_,_,rfl,_,a_d hI.row,now,rfl,hI.putR (y:= { rsG k.Routes r with State:=4 }) hst rfl (by simp) rfl fun s2 hI2 _=>?_⟩
       refine hI2.putR (x:= { rsG k.Routes r with State:=4 }) (y:= { rsG k.Routes r with State:=4,Since:=now }) (j:=r.toNat) (by show (k.Routes.set r.toNat _)[r.toNat]? =_;rw[List.getElem?_set,if_pos rfl,if_pos (by omega)]) rfl (by simp) rfl fun s3 hI3 _=>?_
       refine hI3.putR (x:= { rsG k.Routes r with State:=4,Since:=now }) (y:= { rsG k.Routes r with State:=4,Since:=now,Mark:=0 }) (j:=r.toNat) (by show ((k.Routes.set r.toNat _).set r.toNat _)[r.toNat]? =_;rw[List.getElem?_set,if_pos rfl,if_pos (by rw[List.length_set];omega)]) rfl (by simp) rfl fun s4 hI4 _=>⟨rfl,?_⟩
       have:k.setR r { rsG k.Routes r with State:=4,Since:=now,Mark:=0 } = { k with Routes:=((k.Routes.set r.toNat { rsG k.Routes r with State:=4 }).set r.toNat { rsG k.Routes r with State:=4,Since:=now }).set r.toNat { rsG k.Routes r with State:=4,Since:=now,Mark:=0 } } :=by
         rw[List.set_set,List.set_set];rfl
       rw[this];exact hI4
     · rw[if_neg (fun h=>by rw[hb1.2 h] at e1;cases e1)] at hD
       intro R2 hRR2
       have go2:∀b2,(b2=true↔(rsG k.Routes r).State=2∧k.ready c v r=false)→R2 b2 σ:=fun b2 hb2=>hRR2 b2 σ (by
         refine bc (fun e2=>?_) (fun e2=>?_)
         · rw[if_pos (hb2.1 e2)] at hD
           subst hD
           exact hI.putR (y:= { rsG k.Routes r with State:=3 }) hst rfl (by simp) rfl fun s2 hI2 _=>⟨rfl,hI2⟩
         · rw[if_neg (fun h=>by rw[hb2.2 h] at e2;cases e2)] at hD
           refine ⟨_,hR1,(rsG k.Routes r).State,rfl,bce (fun e3=>?_) (fun e3=>?_)⟩
           · refine ⟨trivial,_,_,_,rfl,_,a_d hI.row,dd,rfl,a_q (fun e4=>?_) (fun e4=>?_)⟩
             · refine hrdy.use ⟨_,rfl,bc (fun e5=>?_) (fun e5=>?_)⟩
               · rw[if_pos ⟨e3,e4,e5⟩] at hD
                 subst hD
                 exact hI.putR (y:= { rsG k.Routes r with State:=2 }) hst rfl (by simp) rfl fun s2 hI2 _=>⟨rfl,hI2⟩
               · rw[if_neg (fun h=>by rw[h.2.2] at e5;cases e5)] at hD
                 exact ⟨_,hR1,_,rfl,t4 hD⟩
             · rw[if_neg (fun h=>by rw[h.2.1] at e4;cases e4)] at hD
               exact ⟨_,hR1,_,rfl,t4 hD⟩
           · rw[if_neg (fun h=>e3 h.1)] at hD
             exact ⟨_,hR1,_,rfl,t4 hD⟩)
       refine ⟨_,hR1,(rsG k.Routes r).State,rfl,bce (fun e3=>hrdy.use ⟨_,rfl,go2 _ ?_⟩) (fun e3=>go2 _ ?_)⟩
       · constructor
         · intro h;exact ⟨e3,by simpa using h⟩
         · intro h;rw[h.2];rfl
       · constructor
         · intro h;cases h
         · intro h;exact absurd h.1 e3)
   refine bc (fun e=>?_) (fun e=>go1 _ ⟨fun h=>(by cases h),fun h=>(by rw[hb.2 h.1] at e;cases e)⟩)
   refine ⟨trivial,_,_,_,rfl,trivial,_,_,_,rfl,_,a_d hI.row,pd,rfl,hpat.load hprow q_0 (Int.toNat_of_nonneg r0).symm ⟨qd,rfl,(h_v hI.row (hv.mono hI.ext) hq hps).use ⟨_,rfl,go1 _ ⟨fun h=>⟨hb.1 e,by simpa using h⟩,fun h=>by rw[h.2];rfl⟩⟩⟩⟩)
 refine ⟨_,hR1,(rsG k.Routes r).State,rfl,bce (fun e=>goR _ ⟨fun _=> .inl e,fun _=>rfl⟩) (fun e=>⟨_,hR1,(rsG k.Routes r).State,rfl,goR _ ⟨fun h=> .inr (by simpa using h),fun h=>?_⟩⟩)⟩
 rcases h with h | h
 · exact absurd h e
 · simpa using h
end
end
section
variable {σ σ0:Store}
theorem a_wb {c:Cf}{own:List Int}{now:Int}{w:List Mv}{j:Nat}{s:Int}(h:c.Xs[j]? =some s) :xsN c own now w (j+1) =(xsN c own now w j).set j (g_k (mvG (xsN c own now w j) j) now (if e_8 own s=0 then 2 else 1)):=by rw[xsN,h]
section
variable {c0 c1 c2 c3 c4 v0 v1 v2 v3:D} {c:Cf} {v:Vw} (hc:∀s,CfAt s c0 c1 c2 c3 c4 c) {id:Nat} {d0 d1 d2 d3 d4 d5 pd:D} {k:Co} {now:Int} {dd:Bool}
include hc
theorem w_j (hI:CoIn σ0 σ id a_n (c_z v0 v1 v2 v3 c0 c1 c2 c3 c4 c) (b_p now dd pd) d0 d1 d2 d3 d4 d5 k)(hf:FitIs c k) :
   DCalls Tryz.prog d_9 [.one (.el (.osl id 0 1) 0 0)] σ (n_2 σ0 id (c_z v0 v1 v2 v3 c0 c1 c2 c3 c4 c) (b_p now dd pd) d0 d1 d2 d3 d4 d5 { k with Xs:=xsN c k.Own now k.Xs c.Xs.length }):=by
 have hok:=hf.chk
 have hxs:=x_7 hok
 have hlo:=hf.lOwn
 have hlx:=hf.lXs
 refine m_1 _ σ _ ⟨trivial,_,_,_,rfl,_,a_d hI.row,c3,rfl,(hc σ).xs.lenK ⟨fun n s=>∃j:Nat,n=j∧j≤c.Xs.length∧CoIn σ0 s id a_n (c_z v0 v1 v2 v3 c0 c1 c2 c3 c4 c) (b_p now dd pd) d0 d1 d2 d3 d4 d5 { k with Xs:=xsN c k.Own now k.Xs j },
   fun n _=>c.Xs.length - n.toNat,⟨0,rfl,by omega,hI⟩,?_⟩⟩
 rintro n s ⟨j,rfl,hj,hI1⟩
 rw[List.length_map]
 refine bcd (fun hlt=>?_) (fun hge=>?_)
 · obtain ⟨q,hq⟩:=a_i (l:=c.Xs) (j:=j) (by omega)
   obtain ⟨z,hz,_⟩:=hxs.1 q (List.mem_of_getElem? hq)
   have hgz:=a_l hz
   have hln:=y_p (c:=c) (own:=k.Own) (now:=now) (w:=k.Xs) j
   have hm:=a_uf (l:=xsN c k.Own now k.Xs j) (s:=(j:Int)) (by omega) (by omega)
   rw[Int.toNat_natCast] at hm
   have hsu:=a_wb (own:=k.Own) (now:=now) (w:=k.Xs) hq
   have go : ∀ (cmd : Int) s1, cmd = (if e_8 k.Own q = 0 then 2 else 1) → CoIn σ0 s1 id a_n (c_z v0 v1 v2 v3 c0 c1 c2 c3 c4 c) (b_p now dd pd) d0 d1 d2 d3 d4 d5 { k with Xs := (xsN c k.Own now k.Xs j).set j (g_k (mvG (xsN c k.Own now k.Xs j) j) now cmd) } →
       (∃i:Nat,w64 ((j:Int) +1) =i∧i≤c.Xs.length∧CoIn σ0 s1 id a_n (c_z v0 v1 v2 v3 c0 c1 c2 c3 c4 c) (b_p now dd pd) d0 d1 d2 d3 d4 d5 { k with Xs:=xsN c k.Own now k.Xs i })∧c.Xs.length - (w64 ((j:Int) +1)).toNat < c.Xs.length - ((j:Nat) :Int).toNat:=fun cmd s1 hcmd h=>by
     rw[a_o (by omega)]
     refine ⟨⟨j+1,rfl,by omega,?_⟩,c_w (by omega)⟩
     rw[hsu,←hcmd];exact h
   have step : ∀ cmd : Int, cmd = (if e_8 k.Own q = 0 then 2 else 1) → ∃ pre : List A → Store → Prop, ∃ post : List A → Store → RV → Store → Prop, h_o Tryz.prog b_5 pre post ∧ (a_f (.el (.osl id 0 1) 0 0)) ∧ ∃ (s2 : D) (i2 off2 : Nat), ((.el (.osl id 0 1) 0 0 : D) = (.el s2 i2 off2 : D)) ∧ ∃ row4 : List D, Row s s2 i2 row4 ∧ ∃ d2' : D, ((List.take 1 (List.drop ((off2 + 13) + 3) row4)) = ([d2'] : List D)) ∧ (a_f (.el (.osl id 0 1) 0 0)) ∧ ∃ (s3 : D) (i3 off3 : Nat), ((.el (.osl id 0 1) 0 0 : D) = (.el s3 i3 off3 : D)) ∧ ∃ row5 : List D, Row s s3 i3 row5 ∧ ∃ d3' : D, ((List.take 1 (List.drop ((off3 + 13) + 3) row5)) = ([d3'] : List D)) ∧
       ∃len3:Nat,Idx Tryz.prog s d3' 2 len3∧(0:Int)≤(j:Int)∧(j:Int) < (len3:Int)∧∃row6:List D,Row s d3' (Int.toNat (j:Int)) row6∧∃n3 n4:Int,List.take 2 row6=[iD n3,iD n4]∧(a_f (.el (.osl id 0 1) 0 0))∧∃(s4:D) (i4 off4:Nat),((.el (.osl id 0 1) 0 0:D) =(.el s4 i4 off4:D))∧∃row7:List D,Row s s4 i4 row7∧∃n5:Int,List.take 1 (List.drop (off4+20) row7) =[iD n5]∧pre [.agg [iD n3,iD n4],iA n5,iA cmd] s∧
       ∀r:RV,∀s5:Store,post [.agg [iD n3,iD n4],iA n5,iA cmd] s r s5→∃n6 n7:Int,r= .a (.agg [iD n6,iD n7])∧∃len4:Nat,Idx Tryz.prog s5 d2' 2 len4∧(0:Int)≤(j:Int)∧(j:Int) < (len4:Int)∧a_j [iD n6,iD n7] s5 d2' (Int.toNat (j:Int)) 0 (fun s1=>(∃i:Nat,w64 ((j:Int) +1) =i∧i≤c.Xs.length∧CoIn σ0 s1 id a_n (c_z v0 v1 v2 v3 c0 c1 c2 c3 c4 c) (b_p now dd pd) d0 d1 d2 d3 d4 d5 { k with Xs:=xsN c k.Own now k.Xs i })∧c.Xs.length - (w64 ((j:Int) +1)).toNat < c.Xs.length - ((j:Nat) :Int).toNat):=fun cmd hcmd=>by
     refine ⟨a_gt,s_n,x_4,trivial,_,_,_,rfl,_,a_d hI1.row,d3,rfl,trivial,_,_,_,rfl,_,a_d hI1.row,d3,rfl,hI1.at.xs.load (a_c hm) c_r rfl ⟨(mvG (xsN c k.Own now k.Xs j) j).Cmd,(mvG (xsN c k.Own now k.Xs j) j).Other,rfl,trivial,_,_,_,rfl,_,a_d hI1.row,now,rfl,⟨mvG (xsN c k.Own now k.Xs j) j,now,cmd,rfl⟩,?_⟩⟩
     intro q8 s8 hq8
     obtain ⟨rfl,rfl⟩:=x_s (m:=mvG (xsN c k.Own now k.Xs j) j) hq8
     refine ⟨_,_,rfl,hI1.at.xs.idxK c_r rfl (by simp only[List.length_map];omega) ?_⟩
     exact hI1.putX (k:= { k with Xs:=xsN c k.Own now k.Xs j }) (y:=g_k (mvG (xsN c k.Own now k.Xs j) j) now cmd) hm (by rw[Int.toNat_natCast]) (by simp) rfl fun s11 hI11 _=>go cmd s11 hcmd hI11
   refine (hc s).xs.load (a_c hq) c_int rfl ⟨q,rfl,trivial,_,_,_,rfl,_,a_d hI1.row,d0,rfl,hI1.at.own.load (a_c (v_g (l:=k.Own) hgz.1 (by omega))) c_int (Int.toNat_of_nonneg hgz.1).symm ⟨_,rfl,bce (fun e=>step 2 (by rw[if_pos e])) (fun e=>step 1 (by rw[if_neg e]))⟩⟩
 · have e:j=c.Xs.length:=by omega
   rw[e] at hI1
   exact ⟨rfl,hI1⟩
omit hc in
theorem a_ds (hv:VwB σ0 v0 v1 v2 v3 v)(hvf:v.fits c=true)(hI:CoIn σ0 σ id a_n (c_z v0 v1 v2 v3 c0 c1 c2 c3 c4 c) (b_p now dd pd) d0 d1 d2 d3 d4 d5 k)(hf:FitIs c k) :
   DCalls Tryz.prog f_d [.one (.el (.osl id 0 1) 0 0)] σ (n_2 σ0 id (c_z v0 v1 v2 v3 c0 c1 c2 c3 c4 c) (b_p now dd pd) d0 d1 d2 d3 d4 d5 (rstN v k k.Resets.length)):=by
 have hvl:=a_qw hvf
 have hlr:=hf.lRes
 have hlo:=hf.lOwn
 have hsm:=a_y hf.chk
 refine q_b _ σ _ ⟨trivial,_,_,_,rfl,_,a_d hI.row,d5,rfl,hI.at.resets.lenK ⟨fun n s=>∃j:Nat,n=j∧j≤k.Resets.length∧CoIn σ0 s id a_n (c_z v0 v1 v2 v3 c0 c1 c2 c3 c4 c) (b_p now dd pd) d0 d1 d2 d3 d4 d5 (rstN v k j),
   fun n _=>k.Resets.length - n.toNat,⟨0,rfl,by omega,hI⟩,?_⟩⟩
 rintro n s ⟨j,rfl,hj,hI1⟩
 rw[List.length_map]
 refine bcd (fun hlt=>?_) (fun hge=>?_)
 · have hr:=a_fi (v:=v) (k:=k) j
   have hsu:rstN v k (j+1) =(rstN v k j).rstOne v j:=rfl
   generalize rstN v k j=k1 at *
   have h1:=hr.lRes
   have h2:=hr.lOwn
   have hz:=v_g (l:=k1.Resets) (s:=(j:Int)) (by omega) (by omega)
   have ho:=v_g (l:=k1.Own) (s:=(j:Int)) (by omega) (by omega)
   rw[Int.toNat_natCast] at hz ho
   have go : ∀ (k' : Co) s1, k' = k1.rstOne v j → CoIn σ0 s1 id a_n (c_z v0 v1 v2 v3 c0 c1 c2 c3 c4 c) (b_p now dd pd) d0 d1 d2 d3 d4 d5 k' →
       (∃i:Nat,w64 ((j:Int) +1) =i∧i≤k.Resets.length∧CoIn σ0 s1 id a_n (c_z v0 v1 v2 v3 c0 c1 c2 c3 c4 c) (b_p now dd pd) d0 d1 d2 d3 d4 d5 (rstN v k i))∧k.Resets.length - (w64 ((j:Int) +1)).toNat < k.Resets.length - ((j:Nat) :Int).toNat:=fun k' s1 hk h=>by
     rw[a_o (by omega)]
     refine ⟨⟨j+1,rfl,by omega,?_⟩,c_w (by omega)⟩
     rw[hsu,←hk];exact h
   refine hI1.at.resets.load (a_c hz) c_int rfl ⟨_,rfl,bcd (fun e=>go k1 s (by rw[Co.rstOne,if_pos e]) hI1) (fun e=>?_)⟩
   refine ⟨trivial,_,_,_,rfl,_,a_d hI1.row,d0,rfl,hI1.at.own.load (a_c ho) c_int rfl ⟨_,rfl,bcn (fun e1=>?_) (fun e1=>?_)⟩⟩
   · refine ⟨trivial,_,_,_,rfl,_,a_d hI1.row,d5,rfl,hI1.at.resets.idxK c_int rfl (by rw[List.length_map];omega) ?_⟩
     exact hI1.putZ (y:=0) hz rfl (by simp) rfl fun s2 hI2 _=>go _ s2 (by rw[Co.rstOne,if_neg e,if_pos e1,Int.toNat_natCast]) hI2
   refine ⟨trivial,_,_,_,rfl,a_e fun i1 s1 hi1 _ he1 g1=>?_⟩
   have hI2:=hI1.mono he1
   have hc1:clr v.Occ [(j:Int)]=(lkG v.Occ j).clear:=by simp[clr]
   refine (h_v hI2.row (hv.mono hI2.ext) (l:= [(j:Int)]) (At.fresh g1 (by simp) rfl) fun x hx=>by rw[List.mem_singleton] at hx;subst hx;omega).use ⟨_,rfl,bc (fun e2=>?_) (fun e2=>go k1 s1 ?_ hI2)⟩
   · rw[hc1] at e2
     refine ⟨trivial,_,_,_,rfl,_,a_d hI2.row,v0,rfl,(hv.occ s1 hI2.ext).load (a_c (a_jx (s:=(j:Int)) (by omega) (by omega))) w_o rfl ⟨(lkG v.Occ j).Stamp,rfl,bcd (fun e3=>?_) (fun e3=>go k1 s1 ?_ hI2)⟩⟩
     · refine (m_u hI2 (s:=(j:Int)) (by omega) (by omega)).mono ?_
       rintro q s2 ⟨rfl,hI3⟩
       refine ⟨rfl,trivial,_,_,_,rfl,_,a_d hI3.row,d5,rfl,hI3.at.resets.idxK c_int rfl (by rw[List.length_map];simp only;omega) ?_⟩
       refine hI3.putZ (k:= { k1 with Own:=k1.Own.set ((j:Int)).toNat 0,Dirty:=true }) (y:=0) hz rfl (by simp) rfl fun s4 hI4 _=>go _ s4 ?_ hI4
       rw[Co.rstOne,if_neg e,if_neg (by simpa using e1),if_pos ⟨e2,e3⟩,Int.toNat_natCast]
     · rw[Co.rstOne,if_neg e,if_neg (by simpa using e1),if_neg (fun h=>e3 h.2)]
   · rw[hc1] at e2
     rw[Co.rstOne,if_neg e,if_neg (by simpa using e1),if_neg (fun h=>by rw[h.1] at e2;cases e2)]
 · have e:j=k.Resets.length:=by omega
   rw[e] at hI1
   exact ⟨rfl,hI1⟩
/-! the signals, as a call that is told -/
def a_ye (id:Nat)(row:List D)(d1:D)(rs:List Rs)(xs:List A)(s:Store) :Prop:=xs=[.one (.el (.osl id 0 1) 0 0)]∧s id= .live a_n [row]∧At Tryz.prog s c_h d1 (rs.map Rs.enc)
def a_sl (c:Cf)(rs:List Rs)(xs:List A)(s:Store)(r:RV)(s':Store) :Prop:=∃i,s i= .free∧r= .a (.one (.osl i 0 c.Sigs.length))∧s'=s.set i (.live a_h ((i_g c rs c.Rts.length).map Go.Fw.encI))
omit hc in
theorem set_set (s:Store)(i:Nat)(a b:SO) :(s.set i a).set i b=s.set i b:=by
 funext j
 by_cases e:j=i
 · subst e;rw[Store.set_same,Store.set_same]
 · rw[Store.set_ne _ _ e,Store.set_ne _ _ e,Store.set_ne _ _ e]
theorem a_at {post:List D}{rs:List Rs}(hok:c.check=0)(hl:rs.length=c.Rts.length)
   (hrow:σ id= .live a_n [c_z v0 v1 v2 v3 c0 c1 c2 c3 c4 c ++ ([d0,d1,d2,d3,d4,d5, .bool k.Dirty] ++ post)]) (hrs:At Tryz.prog σ c_h d1 (rs.map Rs.enc)) :
   DCalls Tryz.prog d_c [.one (.el (.osl id 0 1) 0 0)] σ (a_sl c rs [.one (.el (.osl id 0 1) 0 0)] σ):=by
 have hsm:=a_y hok
 obtain ⟨rows,hat,hlen,hrow4⟩:=g_h fun s=>(hc s).rts
 refine o_t _ σ _ ⟨trivial,_,_,_,rfl,_,a_d hrow,c2,rfl,(hc σ).sigs.lenK ⟨by omega,by omega,by rw[List.length_map];omega,a_e fun i s1 hi hs1 he1 g1=>?_⟩⟩
 rw[List.length_map,Int.toNat_natCast] at hs1 g1 ⊢
 have hne:id≠i:=fun e=>by rw[←e,hrow] at hi;cases hi
 refine ⟨trivial,_,_,_,rfl,_,a_d (a_v hrow he1),c4,rfl,(hat s1).lenK ?_⟩
 rw[hlen]
 refine ⟨fun n s=>∃j:Nat,n=j∧j≤c.Rts.length∧s=σ.set i (.live a_h ((i_g c rs j).map Go.Fw.encI)),fun n _=>c.Rts.length - n.toNat,⟨0,rfl,by omega,by rw[hs1,i_g,List.map_replicate];rfl⟩,?_⟩
 rintro n s ⟨j,rfl,hj,hs⟩
 have he:Ext σ s:=by rw[hs];exact Ext.new hi _
 have hg:s i= .live a_h ((i_g c rs j).map Go.Fw.encI):=by rw[hs];exact Store.set_same _ _ _
 refine bcd (fun hlt=>?_) (fun hge=>?_)
 · obtain ⟨x,hx⟩:=a_i (l:=c.Rts) (j:=j) (by omega)
   obtain ⟨row,hrw⟩:=a_i (l:=rows) (j:=j) (by omega)
   obtain ⟨q1,q2,q3,rfl,_⟩:=hrow4 j row x hrw hx
   obtain ⟨y,hy⟩:=a_i (l:=rs) (j:=j) (by omega)
   have hyG:rsG rs (j:Int) =y:=by unfold rsG;rw[e_p,hy];rfl
   have hxr:c.rt (j:Int) =x:=a_ue (by omega) (by rw[Int.toNat_natCast];exact hx)
   obtain ⟨a,ha⟩:=(b_k hok (List.mem_of_getElem? hx)).entry
   have hga:=a_l ha
   have hsu:i_g c rs (j+1) =if y.State=2 then (i_g c rs j).set x.Entry.toNat (max (e_8 (i_g c rs j) x.Entry) (if x.Shunt=true then 1 else 2)) else i_g c rs j:=by rw[i_g,hyG,hxr]
   have hal:=a_eq (c:=c) (rs:=rs) j
   have go:∀s2,s2=σ.set i (.live a_h ((i_g c rs (j+1)).map Go.Fw.encI))→(∃j':Nat,w64 ((j:Int) +1) =j'∧j'≤c.Rts.length∧s2=σ.set i (.live a_h ((i_g c rs j').map Go.Fw.encI)))∧c.Rts.length - (w64 ((j:Int) +1)).toNat < c.Rts.length - ((j:Nat) :Int).toNat:=fun s2 h=>by
     rw[a_o (by omega)]
     exact ⟨⟨j+1,rfl,by omega,h⟩,c_w (by omega)⟩
   refine (hat s).load hrw c_l rfl ⟨x.Entry,x.Exit,q1,q2,q3,x.Shunt,rfl,trivial,_,_,_,rfl,_,a_d (a_v hrow he),d1,rfl,(hrs.ext he).load (a_c hy) a_x rfl ⟨y.State,rfl,bcn (fun e=>go s ?_) (fun e=>?_)⟩⟩
   · rw[hsu,if_neg e];exact hs
   rw[if_pos e] at hsu
   have ho:=v_g (l:=i_g c rs j) hga.1 (by omega)
   have hatI:At Tryz.prog s a_h (.osl i 0 c.Sigs.length) ((i_g c rs j).map Go.Fw.encI):=At.fresh hg (by rw[List.length_map,hal];omega) (by rw[List.length_map,hal])
   have put:∀m:Int,m=max (e_8 (i_g c rs j) x.Entry) (if x.Shunt=true then 1 else 2)→a_j [iD m] s (.osl i 0 c.Sigs.length) x.Entry.toNat 0 (fun s2=>(∃j':Nat,w64 ((j:Int) +1) =j'∧j'≤c.Rts.length∧s2=σ.set i (.live a_h ((i_g c rs j').map Go.Fw.encI)))∧c.Rts.length - (w64 ((j:Int) +1)).toNat < c.Rts.length - ((j:Nat) :Int).toNat):=fun m hm=>by
     refine ⟨i,0,c.Sigs.length,a_h,(i_g c rs j).map Go.Fw.encI,Go.Fw.encI (e_8 (i_g c rs j) x.Entry),rfl,by omega,hg,by rw[Nat.zero_add];exact a_c ho,by simp[Go.Fw.encI],go _ ?_⟩
     rw[hsu,hs,set_set,Nat.zero_add,←hm,←map_set]
     rfl
   refine bc (fun e1=>?_) (fun e1=>?_)
   · refine hatI.load (a_c ho) c_int (Int.toNat_of_nonneg hga.1).symm ⟨_,rfl,hatI.idxK c_int (Int.toNat_of_nonneg hga.1).symm (by rw[List.length_map];omega) (put _ ?_)⟩
     rw[show (if x.Shunt=true then (1:Int) else 2) =1 from if_pos e1];split <;> omega
   · refine hatI.load (a_c ho) c_int (Int.toNat_of_nonneg hga.1).symm ⟨_,rfl,hatI.idxK c_int (Int.toNat_of_nonneg hga.1).symm (by rw[List.length_map];omega) (put _ ?_)⟩
     rw[show (if x.Shunt=true then (1:Int) else 2) =2 from if_neg (by rw[e1];decide)];split <;> omega
 · have e:j=c.Rts.length:=by omega
   subst e
   exact ⟨i,hi,rfl,hs⟩
theorem a_um {post:List D}{rs:List Rs}(hok:c.check=0)(hl:rs.length=c.Rts.length) :
   h_o Tryz.prog d_c (a_ye id (c_z v0 v1 v2 v3 c0 c1 c2 c3 c4 c ++ ([d0,d1,d2,d3,d4,d5, .bool k.Dirty] ++ post)) d1 rs) (a_sl c rs):=by
 refine ⟨?_,?_,?_,?_,?_⟩
 · rintro xs s ⟨rfl,h1,h2⟩
   exact (a_at hc hok hl h1 h2)
 · rintro xs s ⟨rfl,h1,h2⟩ ⟨N,hN⟩
   exact ⟨_,_,⟨N,hN N (Nat.le_refl _),rfl,rfl⟩,Fin.set' ⟨N,hN⟩ _ _⟩
 · rintro xs s r s' ⟨i,h3,rfl,rfl⟩ hf
   exact hf.set' _ _
 · rintro xs s i so hi hso ⟨rfl,h1,h2⟩
   have he:=Ext.new hi so
   refine ⟨⟨rfl,a_v h1 he,h2.ext he⟩,?_⟩
   rintro r s' ⟨i',g3,rfl,rfl⟩
   have hne:i'≠i:=fun e=>by subst e;rw[Store.set_same] at g3;exact hso g3
   rw[Store.set_ne _ _ hne] at g3
   refine ⟨s.set i' (.live a_h ((i_g c rs c.Rts.length).map Go.Fw.encI)),⟨i',g3,rfl,rfl⟩,?_,a_ge (Ne.symm hne) _ _⟩
   rw[Store.set_ne _ _ (Ne.symm hne)];exact hi
 · rintro xs s r s' _ ⟨i',h3,rfl,rfl⟩ j hj
   exact Store.set_ne _ _ (fun e=>hj (e ▸ h3))
end
end
section
variable {σ σ0:Store}
theorem n_u {k0 k1 k2 k3 k4 k5:D}{k:Co}(hk:CoAt σ k0 k1 k2 k3 k4 k5 k)(hf:CoFit k0 k1 k2 k3 k4 k5 k) :
   DCalls Tryz.prog c_2 [coA k0 k1 k2 k3 k4 k5 k.Dirty] σ fun r s=>∃d0 d1 d2 d3 d4 d5,r= .a (coA d0 d1 d2 d3 d4 d5 k.Dirty)∧CoOwn σ s d0 d1 d2 d3 d4 d5 k:=by
 refine a_cw k0 k1 k2 k3 k4 k5 k.Dirty σ _ ((d_1 hk.own hf.n0 (by rw[List.length_map];exact hf.b0)).mono ?_)
 rintro r s0 ⟨d0,rfl,o0⟩
 have e0:=o0.ext
 refine ⟨d0,rfl,(g_c (hk.routes.ext e0) hf.n1 (by rw[List.length_map];exact hf.b1)).mono ?_⟩
 rintro r s1 ⟨d1,rfl,o1⟩
 have e1:=e0.trans o1.ext
 refine ⟨d1,rfl,(e_n (hk.points.ext e1) hf.n2 (by rw[List.length_map];exact hf.b2)).mono ?_⟩
 rintro r s2 ⟨d2,rfl,o2⟩
 have e2:=e1.trans o2.ext
 refine ⟨d2,rfl,(e_n (hk.xs.ext e2) hf.n3 (by rw[List.length_map];exact hf.b3)).mono ?_⟩
 rintro r s3 ⟨d3,rfl,o3⟩
 have e3:=e2.trans o3.ext
 refine ⟨d3,rfl,(h_a (hk.lines.ext e3) hf.n4 (by rw[List.length_map];exact hf.b4)).mono ?_⟩
 rintro r s4 ⟨d4,rfl,o4⟩
 have e4:=e3.trans o4.ext
 refine ⟨d4,rfl,(d_1 (hk.resets.ext e4) hf.n5 (by rw[List.length_map];exact hf.b5)).mono ?_⟩
 rintro r s5 ⟨d5,rfl,o5⟩
 have x1:=o0.ext' o1.ext
 have x2:=x1.ext' o2.ext
 have x3:=x2.ext' o3.ext
 have x4:=x3.ext' o4.ext
 have y1:=o1.from e0
 have y2:=y1.ext' o2.ext
 have y3:=y2.ext' o3.ext
 have y4:=y3.ext' o4.ext
 have z2:=o2.from e1
 have z3:=z2.ext' o3.ext
 have z4:=z3.ext' o4.ext
 have u3:=o3.from e2
 have u4:=u3.ext' o4.ext
 have w4:=o4.from e3
 refine ⟨d5,rfl,d0,d1,d2,d3,d4,d5,rfl,x4.ext' o5.ext,y4.ext' o5.ext,z4.ext' o5.ext,u4.ext' o5.ext,w4.ext' o5.ext,o5.from e4,?_⟩
 simp only[List.pairwise_cons,List.mem_cons,List.not_mem_nil,or_false,forall_eq_or_imp,forall_eq,List.Pairwise.nil,and_true,false_imp_iff,implies_true]
 exact ⟨⟨o1.apart o0.at_,o2.apart x1.at_,o3.apart x2.at_,o4.apart x3.at_,o5.apart x4.at_⟩,⟨o2.apart y1.at_,o3.apart y2.at_,o4.apart y3.at_,o5.apart y4.at_⟩,⟨o3.apart z2.at_,o4.apart z3.at_,o5.apart z4.at_⟩,⟨o4.apart u3.at_,o5.apart u4.at_⟩,o5.apart w4.at_⟩
theorem a_ms (s:Store)(S:Nat→Prop) :∃τ:Store,(∀i,S i→τ i= .free)∧∀i,¬S i→τ i=s i:=by
 have h:∀i,∃b:SO,(S i→b= .free)∧(¬S i→b=s i):=fun i=>by
   by_cases hs:S i
   · exact ⟨.free,fun _=>rfl,fun h=>absurd hs h⟩
   · exact ⟨s i,fun h=>absurd h hs,fun _=>rfl⟩
 obtain ⟨f,hf⟩:=Classical.axiomOfChoice h
 exact ⟨f,fun i=>(hf i).1,fun i=>(hf i).2⟩
def Hid (id:Nat)(d0 d1 d2 d3 d4 d5:D)(i:Nat) :Prop:=i=id∨∃d ∈ [d0,d1,d2,d3,d4,d5],a_0 d=some i
theorem Own.base {τ s:Store}{el:TypeId}{d:D}{rs:List (List D)}(h:Own Tryz.prog σ0 s el d rs)(he:Ext τ s)(hn:∀i,a_0 d=some i→τ i= .free) :Own Tryz.prog τ s el d rs:=
 ⟨h.at_,he,fun id i len e=>hn id (by subst e;rfl),h.nsl,h.nz⟩
theorem a_g2 {τ s:Store}{S:Nat→Prop}(h1:∀i,S i→τ i= .free)(h2:∀i,¬S i→τ i=s i) :Ext τ s:=fun i hi=>by
 by_cases hs:S i
 · exact absurd (h1 i hs) hi
 · exact (h2 i hs).symm
theorem d_k {s:Store}{el:TypeId}{d:D}{rs:List (List D)}(h:At Tryz.prog s el d rs){i:Nat}(hi:a_0 d=some i) :s i≠ .free:=by
 cases d with
 | osl id a n=>
   have e:id=i:=by simpa[a_0] using hi
   subst e
   obtain ⟨t,rows,g1,_⟩:=h.rows
   rw[g1];intro e;cases e
 | _=>simp[a_0] at hi
section
variable {id:Nat} {t:TypeId} {pre post:List D} {d0 d1 d2 d3 d4 d5:D} {k:Co}
theorem CoIn.base {τ s:Store}(h:CoIn σ0 s id t pre post d0 d1 d2 d3 d4 d5 k)(he:Ext τ s)(hn:∀i,Hid id d0 d1 d2 d3 d4 d5 i→τ i= .free) :CoIn τ s id t pre post d0 d1 d2 d3 d4 d5 k:=
 ⟨hn id (.inl rfl),h.row,⟨Own.base h.co.own he fun i hi=>hn i (.inr ⟨d0,by simp,hi⟩),Own.base h.co.routes he fun i hi=>hn i (.inr ⟨d1,by simp,hi⟩),Own.base h.co.points he fun i hi=>hn i (.inr ⟨d2,by simp,hi⟩),
   Own.base h.co.xs he fun i hi=>hn i (.inr ⟨d3,by simp,hi⟩),Own.base h.co.lines he fun i hi=>hn i (.inr ⟨d4,by simp,hi⟩),Own.base h.co.resets he fun i hi=>hn i (.inr ⟨d5,by simp,hi⟩),h.co.apart⟩,h.ids⟩
theorem CoIn.hid {s:Store}(h:CoIn σ0 s id t pre post d0 d1 d2 d3 d4 d5 k){i:Nat}(hi:Hid id d0 d1 d2 d3 d4 d5 i) :s i≠ .free∧σ0 i= .free:=by
 rcases hi with rfl | ⟨d,hd,hi⟩
 · exact ⟨(by rw[h.row];intro e;cases e),h.new⟩
 · simp only[List.mem_cons,List.not_mem_nil,or_false] at hd
   rcases hd with rfl | rfl | rfl | rfl | rfl | rfl
   · exact ⟨d_k h.co.own.at_ hi,l_p h.co.own hi⟩
   · exact ⟨d_k h.co.routes.at_ hi,l_p h.co.routes hi⟩
   · exact ⟨d_k h.co.points.at_ hi,l_p h.co.points hi⟩
   · exact ⟨d_k h.co.xs.at_ hi,l_p h.co.xs hi⟩
   · exact ⟨d_k h.co.lines.at_ hi,l_p h.co.lines hi⟩
   · exact ⟨d_k h.co.resets.at_ hi,l_p h.co.resets hi⟩
theorem CoIn.keep {s s':Store}(h:CoIn σ0 s id t pre post d0 d1 d2 d3 d4 d5 k)(he:Ext σ0 s')(hs:∀i,Hid id d0 d1 d2 d3 d4 d5 i→s' i=s i) :CoIn σ0 s' id t pre post d0 d1 d2 d3 d4 d5 k:=by
 have al:∀{d:D} {el:TypeId} {rs:List (List D)},d ∈ [d0,d1,d2,d3,d4,d5]→Own Tryz.prog σ0 s el d rs→Own Tryz.prog σ0 s' el d rs:=fun hd g=>
   ⟨g.at_.same fun i a n e=>hs i (.inr ⟨_,hd,by subst e;rfl⟩),he,g.new,g.nsl,g.nz⟩
 exact ⟨h.new,by rw[hs id (.inl rfl)];exact h.row,⟨al (by simp) h.co.own,al (by simp) h.co.routes,al (by simp) h.co.points,al (by simp) h.co.xs,al (by simp) h.co.lines,al (by simp) h.co.resets,h.co.apart⟩,h.ids⟩
end
def a_vl (σ:Store)(v0 v1 v2 v3 c0 c1 c2 c3 c4:D)(c:Cf)(k:Co)(v:Vw)(now:Int)(r:RV)(s:Store) :Prop:=
 ((k.fits c=false∨v.fits c=false)∧r= .tup [.one .nilp,bA false]∧s=σ)∨
 (k.fits c=true∧v.fits c=true∧∃(id:Nat) (d0 d1 d2 d3 d4 d5 pd:D) (σ1:Store),r= .tup [.one (.el (.osl id 0 1) 0 0),bA true]∧Ext σ σ1∧
   CoIn σ1 s id a_n (c_z v0 v1 v2 v3 c0 c1 c2 c3 c4 c) (b_p now k.Dirty pd) d0 d1 d2 d3 d4 d5 k∧Paths σ1 pd c)
structure PathsTo (σ τ s:Store) (pd:D) (rows:List (List D)) (c:Cf) (j:Nat) (H:Nat→Prop) :Prop where
 ext:Ext σ τ
 own:Own Tryz.prog τ s m_7 pd rows
 len:rows.length=j
 rows:∀(i:Nat) x,i < j→c.Rts[i]? =some x→∃qd,rows[i]? =some [qd]∧At Tryz.prog τ a_h qd ((x.Path.map St.Sec).map Go.Fw.encI)
 apart:∀i,a_0 pd=some i→¬H i
section
variable {c0 c1 c2 c3 c4 v0 v1 v2 v3:D} {c:Cf} {v:Vw} (hc:∀s,CfAt s c0 c1 c2 c3 c4 c) (hv:VwB σ v0 v1 v2 v3 v)
include hc hv
theorem a_cd {k0 k1 k2 k3 k4 k5:D}{k:Co}(hk:CoAt σ k0 k1 k2 k3 k4 k5 k)(hkf:CoFit k0 k1 k2 k3 k4 k5 k)(now:Int) :
   DCalls Tryz.prog k_3 [cfA c0 c1 c2 c3 c4 c,coA k0 k1 k2 k3 k4 k5 k.Dirty, .agg [v0,v1,v2,v3],iA now] σ (a_vl σ v0 v1 v2 v3 c0 c1 c2 c3 c4 c k v now):=by
 refine a_fg _ _ _ _ _ _ _ _ _ k0 k1 k2 k3 k4 k5 k.Dirty v0 v1 v2 v3 now σ _ ?_
 intro R hR
 have novf:¬(v.Occ.length=c.Secs.length∧v.Pos.length=c.Secs.length∧v.Shut.length=c.Xs.length∧v.Lamp.length=c.Sigs.length)→a_vl σ v0 v1 v2 v3 c0 c1 c2 c3 c4 c k v now (.tup [.one .nilp, .one (.bool false)]) σ:=fun h=> .inl ⟨.inr (decide_eq_false h),rfl,rfl⟩
 refine (e_9 hc hk).use ⟨_,rfl,a_q (fun e=> .inl ⟨.inl e,rfl,rfl⟩) (fun hfit=>(hv.occ σ (.refl _)).lenK ((hc σ).secs.lenK ?_))⟩
 rw[List.length_map,List.length_map]
 refine bcn (fun e=>novf fun h=>e (by omega)) (fun e1=>(hv.pos σ (.refl _)).lenK ((hc σ).secs.lenK ?_))
 rw[List.length_map,List.length_map]
 refine bcn (fun e=>novf fun h=>e (by omega)) (fun e2=>(hv.shut σ (.refl _)).lenK ((hc σ).xs.lenK ?_))
 rw[List.length_map,List.length_map]
 refine bcn (fun e=>novf fun h=>e (by omega)) (fun e3=>(hv.lamp σ (.refl _)).lenK ((hc σ).sigs.lenK ?_))
 rw[List.length_map,List.length_map]
 refine bcn (fun e=>novf fun h=>e (by omega)) (fun e4=>hR σ ?_)
 have hvf:v.fits c=true:=decide_eq_true ⟨by omega,by omega,by omega,by omega⟩
 have hfi:=fits_iff.1 hfit
 have hok:=hfi.chk
 have hsm:=a_y hok
 clear novf hR
 refine (n_u hk hkf).mono ?_
 rintro r s1 ⟨d0,d1,d2,d3,d4,d5,rfl,hco⟩
 refine ⟨_,_,_,_,_,_,_,rfl,a_e fun id s2 hid _ he2 g2=>?_⟩
 obtain ⟨rows,hat,hlen,hrow⟩:=g_h fun s=>(hc s).rts
 have hidσ:σ id= .free:=by
   by_cases hf:σ id= .free
   · exact hf
   · have:=hco.own.ext id hf;rw[hid] at this;exact this.symm
 have hlv:∀d ∈ [d0,d1,d2,d3,d4,d5],a_0 d≠some id:=fun d hd hi=>by
   simp only[List.mem_cons,List.not_mem_nil,or_false] at hd
   rcases hd with rfl | rfl | rfl | rfl | rfl | rfl
   · exact d_k hco.own.at_ hi hid
   · exact d_k hco.routes.at_ hi hid
   · exact d_k hco.points.at_ hi hid
   · exact d_k hco.xs.at_ hi hid
   · exact d_k hco.lines.at_ hi hid
   · exact d_k hco.resets.at_ hi hid
 have hI0:CoIn σ s2 id a_n (c_z v0 v1 v2 v3 c0 c1 c2 c3 c4 c) (b_p now k.Dirty .nils) d0 d1 d2 d3 d4 d5 k:=⟨hidσ,g2,hco.ext' he2,hlv⟩
 obtain ⟨τ0,t1,t2⟩:=a_ms s2 (Hid id d0 d1 d2 d3 d4 d5)
 have hx0:=a_g2 t1 t2
 have hσ0:Ext σ τ0:=fun i hi=>by
   rw[t2 i (fun h=>hi (hI0.hid h).2)];exact hI0.ext i hi
 refine (hat s2).lenK ⟨fun n s=>∃(j:Nat) (pd:D) (τ:Store) (rs:List (List D)),n=j∧j≤c.Rts.length∧CoIn τ s id a_n (c_z v0 v1 v2 v3 c0 c1 c2 c3 c4 c) (b_p now k.Dirty pd) d0 d1 d2 d3 d4 d5 k∧PathsTo σ τ s pd rs c j (Hid id d0 d1 d2 d3 d4 d5),
   fun n _=>c.Rts.length - n.toNat,⟨0, .nils,τ0,[],rfl,by omega,hI0.base hx0 t1,hσ0, .nil _ hx0,rfl,fun i x h=>by omega,fun i h=>by cases h⟩,?_⟩
 rw[hlen]
 rintro n s ⟨j,pd,τ,rs,rfl,hj,hI,hP⟩
 refine bcd (fun hlt=>?_) (fun hge=>?_)
 · obtain ⟨x,hx⟩:=a_i (l:=c.Rts) (j:=j) (by omega)
   obtain ⟨row,hrw⟩:=a_i (l:=rows) (j:=j) (by omega)
   obtain ⟨q1,q2,q3,rfl,f1,f2,f3⟩:=hrow j row x hrw hx
   have hpl:=(b_k hok (List.mem_of_getElem? hx)).len
   refine (hat s).load hrw c_l rfl ⟨x.Entry,x.Exit,q1,q2,q3,x.Shunt,rfl,(f1 s).lenK ⟨fun d n s'=>∃i:Nat,n=i∧i≤x.Path.length∧Own Tryz.prog s s' a_h d (((x.Path.take i).map St.Sec).map Go.Fw.encI),fun _ n _=>x.Path.length - n.toNat,⟨0,rfl,by omega,by simpa using Own.nil (P:=Tryz.prog) (el:=a_h) s (Ext.refl s)⟩,?_⟩⟩
   rintro d9 n s' ⟨i,rfl,hi,ho⟩
   rw[List.length_map]
   refine bcd (fun hlt=>?_) (fun hge=>?_)
   · obtain ⟨y,hy⟩:=a_i (l:=x.Path) (j:=i) (by omega)
     refine (f1 s').load (a_c hy) i_l rfl ⟨y.Sec,y.In,y.Out,rfl,a_e fun i1 s3 hi1 _ he3 g3=>?_⟩
     refine (ho.ext' he3).append (At.fresh g3 (by simp) rfl) (by simp;omega) (by simp;omega) fun d' s4 ho' _ _=>?_
     rw[a_o (by omega)]
     refine ⟨⟨i+1,rfl,by omega,?_⟩,c_w (by omega)⟩
     rw[List.take_add_one,hy,List.map_append,List.map_append];exact ho'
   have e:i=x.Path.length:=by omega
   rw[e,List.take_length] at ho
   have hI1:=hI.mono ho.ext
   have hpo:=hP.own.ext' ho.ext
   obtain ⟨τ',t1,t2⟩:=a_ms s' (fun i=>Hid id d0 d1 d2 d3 d4 d5 i∨a_0 pd=some i)
   have hx:=a_g2 t1 t2
   have hττ:Ext τ τ':=fun i hi=>by
     rw[t2 i (fun h=>hi (h.elim (fun h=>(hI1.hid h).2) (fun h=>l_p hpo h)))];exact hpo.ext i hi
   have hI2:=hI1.base hx fun i h=>t1 i (.inl h)
   have hp2:=Own.base hpo hx fun i h=>t1 i (.inr h)
   have hd9:At Tryz.prog τ' a_h d9 ((x.Path.map St.Sec).map Go.Fw.encI):=ho.at_.same fun i a n e=>t2 i fun h=>by
     have hn:s i= .free:=l_p ho (by subst e;rfl)
     rcases h with h | h
     · exact (hI.hid h).1 hn
     · exact d_k hP.own.at_ h hn
   refine ⟨_,a_d hI1.row,pd,rfl,a_e fun i1 s5 hi1 _ he5 g5=>?_⟩
   refine (hp2.ext' he5).append (At.fresh g5 (by simp) rfl) (by simp[hP.len];omega) (by simp[hP.len];omega) fun pd' s6 ho6 h1 h2=>?_
   have hI5:=hI2.mono he5
   have hI6:=hI5.keep ho6.ext fun i hi=>h1 i (hI5.hid hi).1 fun a b e=>hP.apart i (by rw[e];rfl) hi
   have hap:∀i,a_0 pd'=some i→¬Hid id d0 d1 d2 d3 d4 d5 i:=fun i hi hh=>by
     cases pd' with
     | osl i' a b=>
       have e:i'=i:=by simpa[a_0] using hi
       subst e
       rcases h2 _ _ _ rfl with h | ⟨a',b',h⟩
       · exact (hI5.hid hh).1 h
       · exact hP.apart i' (by rw[h];rfl) hh
     | _=>simp[a_0] at hi
   refine b_c hI6.row (by simp) fun s7 h7 hs7=>?_
   rw[a_o (by omega)]
   have hpd7:=a_g ho6 hI6.new (fun h=>hap id h (.inl rfl)) hs7
   have al:∀{d:D} {el:TypeId} {rs:List (List D)},d ∈ [d0,d1,d2,d3,d4,d5]→Own Tryz.prog τ' s6 el d rs→Own Tryz.prog τ' s7 el d rs:=fun hd g=>a_g g hI6.new (hI6.ids _ hd) hs7
   refine ⟨⟨j+1,pd',τ',rs ++ [[d9]],rfl,by omega,⟨hI6.new,h7,⟨al (by simp) hI6.co.own,al (by simp) hI6.co.routes,al (by simp) hI6.co.points,al (by simp) hI6.co.xs,al (by simp) hI6.co.lines,al (by simp) hI6.co.resets,hI6.co.apart⟩,hI6.ids⟩,hP.ext.trans hττ,hpd7,by simp[hP.len],fun i y hi hy=>?_,hap⟩,c_w (by omega)⟩
   by_cases e:i < j
   · obtain ⟨qd,a1,a2⟩:=hP.rows i y e hy
     exact ⟨qd,by rw[List.getElem?_append_left (by rw[hP.len];exact e)];exact a1,a2.ext hττ⟩
   · have e:i=j:=by omega
     subst e
     have hxy:c.Rts[i]? =some x:=by assumption
     rw[hxy] at hy;cases hy
     exact ⟨d9,by rw[List.getElem?_append_right (Nat.le_of_eq hP.len),hP.len,Nat.sub_self];rfl,hd9⟩
 · have e:j=c.Rts.length:=by omega
   subst e
   obtain ⟨τ',t1,t2⟩:=a_ms s (Hid id d0 d1 d2 d3 d4 d5)
   have hx:=a_g2 t1 t2
   have hττ:Ext τ τ':=fun i hi=>by
     rw[t2 i (fun h=>hi (hI.hid h).2)];exact hI.ext i hi
   refine .inr ⟨hfit,hvf,id,d0,d1,d2,d3,d4,d5,pd,τ',rfl,hP.ext.trans hττ,hI.base hx t1,rs,hP.own.at_.same fun i a n e=>t2 i (hP.apart i (by subst e;rfl)),fun i x hx=>?_⟩
   obtain ⟨qd,a1,a2⟩:=hP.rows i x (List.getElem?_eq_some_iff.1 hx).1 hx
   exact ⟨qd,a1,a2.ext hττ⟩
end
end
section
variable {σ σ0:Store}
def a_sn (σ:Store)(p:Co × List Int × Int)(r:RV)(s:Store) :Prop:=
 ∃d0 d1 d2 d3 d4 d5 d6,r= .tup [coA d0 d1 d2 d3 d4 d5 p.1.Dirty, .one d6,iA p.2.2]∧CoOwn σ s d0 d1 d2 d3 d4 d5 p.1∧At Tryz.prog s a_h d6 (p.2.1.map Go.Fw.encI)∧∀id i len,d6= .osl id i len→σ id= .free
def a_wa (σ:Store)(p:Co × List Int × Int)(r:RV)(s:Store) :Prop:=
 s=σ∧∃d0 d1 d2 d3 d4 d5 d6,r= .tup [coA d0 d1 d2 d3 d4 d5 p.1.Dirty, .one d6,iA p.2.2]∧CoFz d0 d1 d2 d3 d4 d5 p.1∧∀s,At Tryz.prog s a_h d6 (p.2.1.map Go.Fw.encI)
theorem a_tg {f:FuncId}{xs:List A}{p:Co × List Int × Int}(h:DCalls Tryz.prog f xs σ (a_sn σ p)) :DCalls Tryz.prog f xs σ (a_wa σ p):=by
 refine h.ret ?_
 rintro r s ⟨d0,d1,d2,d3,d4,d5,d6,rfl,hco,ha,hn⟩
 obtain ⟨e0,e1,e2,e3,e4,e5,hfz,hz⟩:=a_qi hco
 obtain ⟨e6,hf6,h6⟩:=s_c ha hco.own.ext hn (h_h _ flat_co.1 _)
 refine ⟨.tup [coA e0 e1 e2 e3 e4 e5 p.1.Dirty, .one e6,iA p.2.2],σ, .pure hco.own.ext ⟨rfl,fun i x y h1 h2=>?_⟩,rfl,_,_,_,_,_,_,_,rfl,hz,h6⟩
 rcases i with _ | _ | _ | i
 · simp at h1 h2;subst h1 h2;exact hfz
 · simp at h1 h2;subst h1 h2;exact hf6
 · simp at h1 h2;subst h1 h2;exact .int _ _
 · simp at h1
section
variable {c0 c1 c2 c3 c4 v0 v1 v2 v3:D} {c:Cf} {v:Vw} (hc:∀s,CfAt s c0 c1 c2 c3 c4 c) (hz:u_s c4) (hv:VwB σ v0 v1 v2 v3 v)
include hc hz hv
theorem a_it {k0 k1 k2 k3 k4 k5:D}{k:Co}(hk:CoAt σ k0 k1 k2 k3 k4 k5 k)(hkf:CoFit k0 k1 k2 k3 k4 k5 k)(now:Int) :
   DCalls Tryz.prog g_r [cfA c0 c1 c2 c3 c4 c,coA k0 k1 k2 k3 k4 k5 k.Dirty, .agg [v0,v1,v2,v3],iA now] σ (a_sn σ (k.stepK c v now)):=by
 have cpy:∀(s:Store) (e:Int),Ext σ s→k.stepK c v now=(k,[],e)→DCalls Tryz.prog c_2 [coA k0 k1 k2 k3 k4 k5 k.Dirty] s fun r1 s1=>∃d1 d2 d3 d4 d5 d6:D,∃b1:Bool,r1= .a (.agg [d1,d2,d3,d4,d5,d6, .bool b1])∧a_sn σ (k.stepK c v now) (.tup [.agg [d1,d2,d3,d4,d5,d6, .bool b1], .one .nils,iA e]) s1:=fun s e he hs=>by
   refine (n_u (hk.ext' he) hkf).mono ?_
   rintro r s1 ⟨e0,e1,e2,e3,e4,e5,rfl,hco⟩
   refine ⟨_,_,_,_,_,_,_,rfl,?_⟩
   rw[hs]
   exact ⟨_,_,_,_,_,_,_,rfl,hco.from he, .nil,fun _ _ _ e=>by cases e⟩
 refine a_hq _ _ _ _ _ _ _ _ _ k0 k1 k2 k3 k4 k5 k.Dirty v0 v1 v2 v3 now σ _ ((a_cd hc hv hk hkf now).mono ?_)
 rintro r s (⟨hbad,rfl,rfl⟩ | ⟨hfit,hvf,id,d0,d1,d2,d3,d4,d5,pd,σ1,rfl,he1,hI,hP⟩)
 · exact ⟨_,_,rfl,a_q (fun _=>cpy _ 21 (.refl _) (by rw[Co.stepK,if_pos hbad])) (fun e=>by cases e)⟩
 have hn21:¬(k.fits c=false∨v.fits c=false):=by rw[hfit,hvf];simp
 have he:Ext σ s:=he1.trans hI.ext
 refine ⟨_,_,rfl,a_q (fun e=>by cases e) (fun _=>?_)⟩
 intro R hR
 have n32:tm 0 now=false→k.stepK c v now=(k,[],32):=fun h=>by rw[Co.stepK,if_neg hn21,if_pos h]
 refine bcd (fun e=>cpy _ 32 he (n32 (decide_eq_false (by omega)))) (fun e1=>bcd (fun e=>cpy _ 32 he (n32 (decide_eq_false (by omega)))) (fun e2=>hR _ _ _ _ _ _ _ s ?_))
 have hn:tm 0 now=true:=decide_eq_true ⟨by omega,by omega⟩
 have hS:k.stepK c v now=(k.stepY c v now,i_g c (k.stepY c v now).Routes c.Rts.length,0):=by rw[Co.stepK,if_neg hn21,if_neg (by rw[hn];decide)]
 clear n32 cpy hR
 have hfi:=fits_iff.1 hfit
 have hok:=hfi.chk
 have hsm:=a_y hok
 obtain ⟨rows,hat,hlen⟩:=j_s (hc s)
 refine hat.lenK ⟨fun n s=>∃j:Nat,n=j∧j≤c.Rts.length∧CoIn σ1 s id a_n (c_z v0 v1 v2 v3 c0 c1 c2 c3 c4 c) (b_p now k.Dirty pd) d0 d1 d2 d3 d4 d5 (routesR c v now k.Dirty k j),
   fun n _=>c.Rts.length - n.toNat,⟨0,rfl,by omega,hI⟩,?_⟩
 rw[hlen]
 rintro n s2 ⟨j,rfl,hj,hI2⟩
 refine bcd (fun hlt=>?_) (fun hge=>?_)
 · obtain ⟨x,hx⟩:=a_i (l:=c.Rts) (j:=j) (by omega)
   refine (a_eh hc hz (hv.mono he1) hvf hP hI2 (j_z hfi hn j) hn (r:=(j:Int)) (by rw[e_p];exact hx)).mono ?_
   rintro q s3 ⟨rfl,hI3⟩
   rw[a_o (by omega)]
   exact ⟨rfl,rfl,⟨j+1,rfl,by omega,hI3⟩,c_w (by omega)⟩
 have e:j=c.Rts.length:=by omega
 subst e
 have hf1:FitIs c (k.stepR c v now):=j_z hfi hn _
 refine (w_j hc (k:=k.stepR c v now) hI2 hf1).mono ?_
 rintro q s3 ⟨rfl,hI3⟩
 refine ⟨rfl,(a_ds (k:=k.stepX c v now) (hv.mono he1) hvf hI3 (v_w hfi hn)).mono ?_⟩
 rintro q s4 ⟨rfl,hI4⟩
 have hf4:=a_q4 (v:=v) hfi hn
 have hI4:CoIn σ1 s4 id a_n (c_z v0 v1 v2 v3 c0 c1 c2 c3 c4 c) (b_p now k.Dirty pd) d0 d1 d2 d3 d4 d5 (k.stepY c v now):=hI4
 rw[hS]
 generalize k.stepY c v now=k4 at *
 refine ⟨rfl,_,_,a_um hc (id:=id) (post:=b_p now k.Dirty pd) (k:=k4) (d0:=d0) (d1:=d1) (d2:=d2) (d3:=d3) (d4:=d4) (d5:=d5) (v0:=v0) (v1:=v1) (v2:=v2) (v3:=v3) hok hf4.lRts,trivial,_,_,_,rfl,_,a_d hI4.row,d0,d1,d2,d3,d4,d5,k4.Dirty,rfl,⟨rfl,hI4.row,hI4.at.routes⟩,?_⟩
 rintro r s5 ⟨i,hi,rfl,rfl⟩
 have he5:Ext s4 (s4.set i (.live a_h ((i_g c k4.Routes c.Rts.length).map Go.Fw.encI))):=Ext.new hi _
 have hal:=a_eq (c:=c) (rs:=k4.Routes) c.Rts.length
 refine ⟨_,rfl,d0,d1,d2,d3,d4,d5,_,rfl,(hI4.co.ext' he5).from he1,At.fresh (Store.set_same _ _ _) (by rw[List.length_map,hal];omega) (by rw[List.length_map,hal]),fun id' i' len' e=>?_⟩
 injection e with e
 subst e
 by_cases hf:σ i= .free
 · exact hf
 · have h1:=he1 i hf
   have h2:=hI4.ext i (by rw[h1];exact hf)
   rw[hi,h1] at h2;exact h2.symm
end
section
variable {c0 c1 c2 c3 c4 v0 v1 v2 v3:D} {c:Cf} {v:Vw} (hc:∀s,CfAt s c0 c1 c2 c3 c4 c) (hz:u_s c4) (hv:VwAt v0 v1 v2 v3 v)
include hc hz hv
theorem a_fe {k0 k1 k2 k3 k4 k5:D}{k:Co}(hk:CoAt σ k0 k1 k2 k3 k4 k5 k)(hkf:CoFit k0 k1 k2 k3 k4 k5 k)(now:Int) :
   DCalls Tryz.prog g_r [cfA c0 c1 c2 c3 c4 c,coA k0 k1 k2 k3 k4 k5 k.Dirty, .agg [v0,v1,v2,v3],iA now] σ (a_sn σ (k.stepK c v now)):=a_it hc hz (VwAt.b hv) hk hkf now
theorem a_i8 {k0 k1 k2 k3 k4 k5:D}{k:Co}(hk:CoAt σ k0 k1 k2 k3 k4 k5 k)(hkf:CoFit k0 k1 k2 k3 k4 k5 k)(now:Int) :
   DCalls Tryz.prog g_r [cfA c0 c1 c2 c3 c4 c,coA k0 k1 k2 k3 k4 k5 k.Dirty, .agg [v0,v1,v2,v3],iA now] σ (a_wa σ (k.stepK c v now)):=a_tg (a_fe hc hz hv hk hkf now)
end
end
end Go.Proofs.YtdmfnhbmhkgemaaGreat
namespace Go.Fw
section
def ofL (l:List UInt8) :ByteArray:=⟨l.toArray⟩
def y_4 (b:UInt8) :List D:= [.int .u8 b.toNat]
theorem a_d7 (l:List UInt8) :d_a (ofL l) =l.map y_4:=rfl
theorem y_i (l:List UInt8) :(ofL l).size=l.length:=by
 show l.toArray.size=_
 simp
theorem a_bt (l:List UInt8)(a b:Nat) :(ofL l).extract a b=ofL ((l.take b).drop a):=by
 apply ByteArray.ext
 simp[ofL,List.drop_take]
theorem a_oj (bs:ByteArray) :∀(m i:Nat) (r:List UInt8),bs.size - i=m→ByteArray.toList.loop bs i r=r.reverse ++ bs.data.toList.drop i:=by
 intro m
 induction m with
 | zero=>
   intro i r h
   have h':¬i < bs.size:=by omega
   rw[ByteArray.toList.loop,if_neg h',List.drop_eq_nil_of_le (by show bs.size≤i;omega),List.append_nil]
 | succ m ih=>
   intro i r h
   have h':i < bs.size:=by omega
   have h'':i < bs.data.toList.length:=h'
   rw[ByteArray.toList.loop,if_pos h',ih (i+1) _ (by omega),List.drop_eq_getElem_cons h'']
   have e:bs.get! i=bs.data.toList[i]:=by
     show bs.data[i]! =_
     rw[getElem!_pos bs.data i h']
     rfl
   rw[e];simp
theorem l_o (bs:ByteArray) :bs.toList=bs.data.toList:=by
 rw[ByteArray.toList,a_oj bs _ 0 [] rfl];simp
def m_e (n:Int)(s:Nat) :UInt8:=UInt8.ofNat ((n.fdiv (2 ^ s)) % 256).toNat
theorem a_qa (n:Int)(s:Nat) :y_4 (m_e n s) =[.int .u8 (IntKind.wrap .u8 (n.fdiv (2 ^ s)))]:=by
 have e:IntKind.wrap .u8 (n.fdiv (2 ^ s)) =(n.fdiv (2 ^ s)) % 256:=rfl
 rw[e]
 unfold y_4 m_e
 generalize n.fdiv (2 ^ s) =x
 have h1:0≤x % 256:=Int.emod_nonneg _ (by omega)
 have h2:x % 256 < 256:=Int.emod_lt_of_pos _ (by omega)
 obtain ⟨m,hm⟩:=Int.eq_ofNat_of_zero_le h1
 rw[hm] at h2 ⊢
 rw[Int.toNat_natCast,UInt8.toNat_ofNat',Nat.mod_eq_of_lt (by show m < 256;omega)]
def be:Nat→Int→List UInt8
 | 0,_=> []
 | k+1,n=>m_e n (8 * k) ::be k n
theorem f_q (k:Nat)(n:Int) :(be k n).length=k:=by
 induction k with
 | zero=>rfl
 | succ k ih=>rw[be,List.length_cons,ih]
def rdL (l:List UInt8)(x:Int) :Int:=l.foldl (fun x c=>x * 256+ (c.toNat:Int)) x
def rd (l:List UInt8) :Int:=rdL l 0
theorem a_ri {n:Nat}{s:Nat} :((m_e (n:Int) s).toNat:Int) =((n / 2 ^ s % 256:Nat) :Int):=by
 unfold m_e
 have e:(n:Int).fdiv (2 ^ s) =((n / 2 ^ s:Nat) :Int):=by
   rw[Int.fdiv_eq_ediv_of_nonneg _ (by exact Int.pow_nonneg (by omega))]
   simp
 rw[e]
 have h2:n / 2 ^ s % 256 < 256:=Nat.mod_lt _ (by omega)
 have e2:(((n / 2 ^ s:Nat) :Int) % 256).toNat=n / 2 ^ s % 256:=by omega
 rw[e2,UInt8.toNat_ofNat',Nat.mod_eq_of_lt (by show _ < 256;exact h2)]
theorem a_x6:∀(k:Nat) (n:Nat) (x:Int),rdL (be k (n:Int)) x=x * 256 ^ k+ ((n % 256 ^ k:Nat) :Int):=by
 intro k
 induction k with
 | zero=>intro n x;simp[be,rdL,Nat.mod_one]
 | succ k ih=>
   intro n x
   rw[be,rdL,List.foldl_cons]
   have:=ih n (x * 256+ ((m_e (n:Int) (8 * k)).toNat:Int))
   rw[rdL] at this
   rw[this,a_ri]
   have e:(2:Nat) ^ (8 * k) =256 ^ k:=by rw[Nat.pow_mul]
   rw[e]
   have e2:n % 256 ^ (k+1) =n % 256 ^ k+256 ^ k * (n / 256 ^ k % 256):=by rw[Nat.pow_succ,Nat.mod_mul]
   rw[e2,Int.pow_succ,Int.add_mul]
   simp only[Int.natCast_add,Int.natCast_mul,Int.natCast_pow]
   have e3:x * 256 * 256 ^ k=x * (256 ^ k * 256):=by rw[Int.mul_assoc,Int.mul_comm 256]
   have e4:((n / 256 ^ k % 256:Nat) :Int) * 256 ^ k=256 ^ k * ((n / 256 ^ k % 256:Nat) :Int):=Int.mul_comm _ _
   rw[e3,e4]
   simp only[Int.add_assoc]
   have:∀a b c:Int,a+ (b+c) =a+ (c+b):=fun a b c=>by omega
   exact this _ _ _
theorem a_yw {k:Nat}{n:Int}(h0:0≤n)(h1:n < 256 ^ k) :rd (be k n) =n:=by
 obtain ⟨m,rfl⟩:=Int.eq_ofNat_of_zero_le h0
 rw[rd,a_x6,Int.zero_mul,Int.zero_add]
 have:m < 256 ^ k:=by
   have e:((256 ^ k:Nat) :Int) =(256:Int) ^ k:=by simp
   omega
 rw[Nat.mod_eq_of_lt this]
theorem a_p6:∀(l:List UInt8) (x:Int),0≤x→0≤rdL l x∧rdL l x < (x+1) * 256 ^ l.length:=by
 intro l
 induction l with
 | nil=>intro x h;simp[rdL];omega
 | cons c l ih=>
   intro x h
   have hc:(c.toNat:Int) < 256:=by have:=c.toNat_lt;omega
   have:=ih (x * 256+c.toNat) (by omega)
   rw[rdL] at this ⊢
   rw[List.foldl_cons]
   refine ⟨this.1,Int.lt_of_lt_of_le this.2 ?_⟩
   rw[List.length_cons,Int.pow_succ]
   have e:(x+1) * (256 ^ l.length * 256) =((x+1) * 256) * 256 ^ l.length:=by rw[Int.mul_assoc,Int.mul_comm (256 ^ l.length)]
   rw[e]
   exact Int.mul_le_mul_of_nonneg_right (by omega) (Int.pow_nonneg (by omega))
theorem a_qu (a b:List UInt8)(x:Int) :rdL (a ++ b) x=rdL b (rdL a x):=by unfold rdL;rw[List.foldl_append]
theorem a_wu {x c:Int}(hx0:0≤x)(hx:x < 2 ^ 48)(hc0:0≤c)(hc:c < 256) :w64 (BitVec.toNat ((BitVec.ofInt 64 (w64 (x * (2 ^ 8)))) ||| (BitVec.ofInt 64 (w64 c))) :Int) =x * 256+c:=by
 obtain ⟨m,rfl⟩:=Int.eq_ofNat_of_zero_le hx0
 obtain ⟨b,rfl⟩:=Int.eq_ofNat_of_zero_le hc0
 rw[a_u (n:=(m:Int) * 2 ^ 8) (by omega) (by omega),a_u (n:=(b:Int)) (by omega) (by omega)]
 have e:(m:Int) * 2 ^ 8=((m * 256:Nat) :Int):=by simp
 rw[e,BitVec.ofInt_natCast,BitVec.ofInt_natCast,BitVec.toNat_or,BitVec.toNat_ofNat,BitVec.toNat_ofNat,Nat.mod_eq_of_lt (by omega),Nat.mod_eq_of_lt (by omega)]
 have:=Nat.shiftLeft_add_eq_or_of_lt (a:=m) (b:=b) (i:=8) (by omega)
 rw[Nat.shiftLeft_eq] at this
 have h256:(2:Nat) ^ 8=256:=rfl
 rw[h256] at this
 rw[←this,a_u (by omega) (by omega)]
 simp
structure Wr where
 e:Int
 out:List UInt8
 lim:Int
def Wr.note (w:Wr)(x:Int) :Wr:=if w.e=0 then { w with e:=x } else w
def Wr.put (w:Wr)(b:List UInt8) :Wr:=
 let v:=if (b.length:Int) > w.lim - w.out.length then w.note 2 else w
 if v.e=0 then { v with out:=v.out ++ b } else v
def Wr.num (w:Wr)(k:Nat)(n:Int) :Wr:=(if n < 0∨n.fdiv (2 ^ (8 * k))≠0 then w.note 32 else w).put (be k n)
theorem Wr.note_out (w:Wr)(x:Int) :(w.note x).out=w.out∧(w.note x).lim=w.lim:=by unfold Wr.note;split <;> exact ⟨rfl,rfl⟩
theorem Wr.put_out (w:Wr)(b:List UInt8) :(w.put b).out.length≤w.out.length+b.length∧(w.put b).lim=w.lim:=by
 unfold Wr.put
 have h:∀v:Wr,v.out=w.out∧v.lim=w.lim→(if v.e=0 then { v with out:=v.out ++ b } else v:Wr).out.length≤w.out.length+b.length∧(if v.e=0 then { v with out:=v.out ++ b } else v:Wr).lim=w.lim:=by
   intro v hv
   split
   · exact ⟨by simp[hv.1],hv.2⟩
   · exact ⟨by rw[hv.1];omega,hv.2⟩
 apply h
 split
 · exact w.note_out 2
 · exact ⟨rfl,rfl⟩
theorem Wr.num_out (w:Wr)(k:Nat)(n:Int) :(w.num k n).out.length≤w.out.length+k∧(w.num k n).lim=w.lim:=by
 unfold Wr.num
 have h:=Wr.put_out (if n < 0∨n.fdiv (2 ^ (8 * k))≠0 then w.note 32 else w) (be k n)
 rw[f_q] at h
 have e:(if n < 0∨n.fdiv (2 ^ (8 * k))≠0 then w.note 32 else w).out=w.out∧(if n < 0∨n.fdiv (2 ^ (8 * k))≠0 then w.note 32 else w).lim=w.lim:=by
   split
   · exact w.note_out 32
   · exact ⟨rfl,rfl⟩
 rw[e.1,e.2] at h
 exact h
theorem Wr.num_fit {w:Wr}{k:Nat}{n:Int}(he:w.e=0)(h0:0≤n)(h1:n < 256 ^ k)(hl:(w.out.length:Int) +k≤w.lim) :w.num k n=⟨0,w.out ++ be k n,w.lim⟩:=by
 have hd:n.fdiv (2 ^ (8 * k)) =0:=by
   obtain ⟨m,rfl⟩:=Int.eq_ofNat_of_zero_le h0
   rw[Int.fdiv_eq_ediv_of_nonneg _ (Int.pow_nonneg (by omega)),Int.pow_mul]
   exact Int.ediv_eq_zero_of_lt (by omega) h1
 unfold Wr.num
 rw [if_neg (by rintro (h | h); · omega
                · exact h hd)]
 simp only[Wr.put,f_q]
 rw[if_neg (show ¬((k:Int) > w.lim - w.out.length) by omega)]
 simp only[he,if_true]
structure Rd where
 e:Int
 l:List UInt8
def Rd.short (r:Rd)(n:Nat) :Rd:=if r.l.length < n then (if r.e=0 then { r with e:=1 } else r) else r
def Rd.num (r:Rd)(n:Nat) :Int × Rd:=if (r.short n).e=0 then (rd ((r.short n).l.take n),⟨0,(r.short n).l.drop n⟩) else (0,r.short n)
theorem Rd.short_l (r:Rd)(n:Nat) :(r.short n).l=r.l:=by unfold Rd.short;split <;> (try split) <;> rfl
theorem Rd.num_be {k:Nat}{n:Int}(h0:0≤n)(h1:n < 256 ^ k)(l:List UInt8) :(⟨0,be k n ++ l⟩ :Rd).num k=(n,⟨0,l⟩):=by
 have hs:(⟨0,be k n ++ l⟩ :Rd).short k=⟨0,be k n ++ l⟩:=by
   unfold Rd.short
   rw[if_neg (by simp[f_q])]
 unfold Rd.num
 rw[hs]
 simp only[if_true]
 rw[List.take_left' (f_q k n),List.drop_left' (f_q k n),a_yw h0 h1]
end
end Go.Fw
namespace Go.Proofs.YtdmfnhbmhkgemaaGreat
open Go.Fw Go.Proofs Go.RowKit
section
variable {σ σ0:Store}
theorem f_u {s:Store}{el:TypeId}{d:D}{rs:List (List D)}(h:At Tryz.prog s el d rs){i:Nat}(hi:a_0 d=some i) :s i≠ .free:=by
 cases d with
 | osl id a n=>
   have e:id=i:=by simpa[a_0] using hi
   subst e
   obtain ⟨t,rows,g1,_⟩:=h.rows
   rw[g1];intro e;cases e
 | _=>simp[a_0] at hi
abbrev pO (id:Nat) :D:= .el (.osl id 0 1) 0 0
structure WrIn (σ0 s:Store) (id:Nat) (w:Wr) :Prop where
 new:σ0 id= .free
 cell:∃d,s id= .live d_6 [[iD w.e,d,iD w.lim]]∧Own Tryz.prog σ0 s f_v d (w.out.map y_4)∧a_0 d≠some id
theorem WrIn.ext {s:Store}{id:Nat}{w:Wr}(h:WrIn σ0 s id w) :Ext σ0 s:=by
 obtain ⟨d,_,h,_⟩:=h.cell;exact h.ext
theorem WrIn.ext' {s s':Store}{id:Nat}{w:Wr}(h:WrIn σ0 s id w)(he:Ext s s') :WrIn σ0 s' id w:=by
 obtain ⟨d,h1,h2,h3⟩:=h.cell
 exact ⟨h.new,d,by rw[he id (by rw[h1];intro e;cases e)];exact h1,h2.ext' he,h3⟩
theorem a_pm (n:Int)(hn:0≤n) :DCalls Tryz.prog w_6 [iA n] σ fun r s=>∃id,r= .a (.one (pO id))∧WrIn σ s id ⟨0,[],n⟩:=by
 refine a_rs n σ _ (a_e fun id s hid _ he hs=>?_)
 rw[if_neg (by omega)] at hs
 exact ⟨id,rfl,hid, .nils,hs, .nil _ he,by intro e;cases e⟩
theorem j_n {s:Store}{id:Nat}{t:TypeId}{e:Int}{rest:List D}(h:s id= .live t [iD e::rest])(x:Int) :
   DCalls Tryz.prog b_t [.one (pO id),iA x] s fun r s'=>r= .tup []∧s' id= .live t [iD (if e=0 then x else e) ::rest]∧∀i,i≠id→s' i=s i:=by
 refine t_g (pO id) x s _ ⟨trivial,_,_,_,rfl,_,a_d h,e,rfl,bce (fun e0=>⟨trivial,_,_,_,rfl,b_c h (by simp) fun s' hs ho=>⟨rfl,?_,ho⟩⟩) (fun e0=>⟨rfl,by rw[if_neg e0];exact h,fun _ _=>rfl⟩)⟩
 rw[hs,if_pos e0];rfl
theorem e_5 {s:Store}{id:Nat}{t:TypeId}{e:Int}{rest:List D}(h:s id= .live t [iD e::rest]) :
   Pure Tryz.prog a_6 [.one (pO id)] s (.a (bA (e == 0))):=
 s_8 (pO id) s _ ⟨trivial,_,_,_,rfl,_,a_d h,e,rfl,rfl,rfl⟩
theorem a_hf {s:Store}{id:Nat}{w:Wr}(h:WrIn σ0 s id w){b:D}{l:List UInt8}(hb:At Tryz.prog s f_v b (l.map y_4))(hs:w.out.length+l.length≤2 ^ 40)(hlim:0≤w.lim∧w.lim≤2 ^ 60) :
   DCalls Tryz.prog h_5 [.one (pO id), .one b] s fun r s'=>r= .tup []∧WrIn σ0 s' id (w.put l):=by
 obtain ⟨hn,d,h1,h2,h3⟩:=h
 have lay : ∀ (s1 : Store) (e : Int), s1 id = .live d_6 [[iD e, d, iD w.lim]] → (∀ i, i ≠ id → s1 i = s i) → e = 0 →
     ((a_f (pO id))∧∃(s4:D) (i4 off4:Nat),(pO id=(.el s4 i4 off4:D))∧∃row2:List D,Row s1 s4 i4 row2∧∃d1:D,((List.drop (off4+1) row2).take 1=[d1])∧a_z Tryz.prog s1 f_v 1 d1 b fun d2 s2=>
       (a_f (pO id))∧∃(s5:D) (i5 off5:Nat),(pO id=(.el s5 i5 off5:D))∧a_j [d2] s2 s5 i5 (off5+1) fun s3=>(RV.tup []=RV.tup []∧WrIn σ0 s3 id ⟨e,w.out ++ l,w.lim⟩)):=by
   intro s1 e hs1 ho1 he
   have hd1:Own Tryz.prog σ0 s1 f_v d (w.out.map y_4):=a_g h2 hn h3 ho1
   have hb1:At Tryz.prog s1 f_v b (l.map y_4):=hb.same fun i a m e=>ho1 i fun e2=>by
     subst e
     obtain ⟨t,rows,g1,g2,g3,g4⟩:=hb.rows
     rw[e2,h1] at g1
     injection g1 with g1 _
     rw[←g1] at g2
     rw[a_h7,c_uint8] at g2
     cases g2
   refine ⟨trivial,_,_,_,rfl,_,a_d hs1,d,rfl,hd1.append hb1 (by simp;omega) (by simp;omega) fun d2 s2 o2 k2 i2=>⟨trivial,_,_,_,rfl,?_⟩⟩
   have hs2:s2 id= .live d_6 [[iD e,d,iD w.lim]]:=by
     rw[k2 id (by rw[hs1];intro e;cases e) (fun a b e=>h3 (by rw[e];rfl)),hs1]
   have hd2:a_0 d2≠some id:=fun hi=>by
     cases d2 with
     | osl j a m=>
       have:j=id:=by simpa[a_0] using hi
       subst this
       rcases i2 j a m rfl with g | ⟨a',b',g⟩
       · rw[hs1] at g;cases g
       · exact h3 (by rw[g];rfl)
     | _=>simp[a_0] at hi
   rw[←List.map_append] at o2
   refine b_c hs2 (by simp) fun s3 hs3 ho3=>⟨rfl,hn,d2,by rw[hs3];rfl,a_g o2 hn hd2 ho3,hd2⟩
 have hl:=hb.size
 have ho:=h2.at_.size
 rw[List.length_map] at hl ho
 have hrow:s id= .live d_6 [iD w.e::[d,iD w.lim]]:=h1
 refine x_2 (pO id) b s _ (hb.lenK ⟨trivial,_,_,_,rfl,_,a_d h1,w.lim,rfl,trivial,_,_,_,rfl,_,a_d h1,d,rfl,h2.at_.lenK ?_⟩)
 rw[List.length_map,List.length_map,a_u (by omega) (by omega)]
 unfold Wr.put
 refine bcd (fun hg=>?_) (fun hg=>?_)
 · simp only[gt_iff_lt] at hg
   rw[if_pos (show (l.length:Int) > w.lim - w.out.length from hg)]
   refine ⟨trivial,_,_,_,rfl,(j_n hrow 2).mono ?_⟩
   rintro r s1 ⟨rfl,hs1,ho1⟩
   have hnote:(w.note 2) =⟨if w.e=0 then 2 else w.e,w.out,w.lim⟩:=by unfold Wr.note;split <;> rfl
   refine ⟨rfl,trivial,_,_,_,rfl,(e_5 hs1).use ⟨_,rfl,?_⟩⟩
   have hne:(if w.e=0 then (2:Int) else w.e)≠0:=by split <;> omega
   rw[show ((if w.e=0 then (2:Int) else w.e) == 0) =false from by simpa using hne]
   refine bc (fun e=>by cases e) (fun _=>⟨rfl,?_⟩)
   simp only[hnote]
   rw[if_neg hne]
   exact ⟨hn,d,hs1,a_g h2 hn h3 ho1,h3⟩
 · simp only[gt_iff_lt] at hg
   rw[if_neg (show ¬((l.length:Int) > w.lim - w.out.length) from hg)]
   refine ⟨trivial,_,_,_,rfl,(e_5 hrow).use ⟨_,rfl,bce (fun e0=>?_) (fun e0=>⟨rfl,?_⟩)⟩⟩
   · have:=lay s w.e h1 (fun _ _=>rfl) e0
     simp only[e0,if_true] at this ⊢
     exact this
   · simp only
     rw[if_neg e0]
     exact ⟨hn,d,h1,h2,h3⟩
theorem wu64 {n:Int}(h0:0≤n)(h1:n < 2 ^ 63) :IntKind.wrap .u64 n=n:=by
 show n % 18446744073709551616=n
 omega
theorem WrIn.newList {s:Store}{id:Nat}{w:Wr}(h:WrIn σ0 s id w){i:Nat}{so:SO}(hi:s i= .free)(hso:so≠ .free) :
   ∃τ,WrIn τ (s.set i so) id w∧Ext σ0 τ∧τ i=so:=by
 obtain ⟨hn,d,h1,h2,h3⟩:=h
 have hne:i≠id:=fun e=>by rw[e,h1] at hi;cases hi
 have hd:a_0 d≠some i:=fun e=>f_u h2.at_ e hi
 have he:Ext s (s.set i so):=Ext.new hi so
 have h2':=h2.ext' he
 refine ⟨fun j=>if j=id∨a_0 d=some j then .free else (s.set i so) j,⟨by simp,d,?_,⟨h2'.at_,fun j hj=>?_,fun j a b e=>?_,h2.nsl,h2.nz⟩,h3⟩,fun j hj=>?_,?_⟩
 · rw[Store.set_ne _ _ (Ne.symm hne)];exact h1
 · by_cases hc:j=id∨a_0 d=some j
   · exact absurd (if_pos hc) hj
   · exact (if_neg hc).symm
 · subst e;simp[a_0]
 · have c1:j≠id:=fun e=>hj (by rw[e];exact hn)
   have c2:a_0 d≠some j:=fun e=>hj (m_s h2 e)
   exact (if_neg (show ¬(j=id∨a_0 d=some j) from fun g=>g.elim c1 c2)).trans (h2'.ext j hj)
 · exact (if_neg (show ¬(i=id∨a_0 d=some i) from fun g=>g.elim hne hd)).trans (Store.set_same _ _ _)
theorem j_g {s:Store}{id:Nat}{w:Wr}(h:WrIn σ0 s id w){k:Nat}(hk:1≤k∧k≤4){d:D}{ns:List Int}(hd:At Tryz.prog σ0 a_h d (ns.map Go.Fw.encI))(hs:w.out.length+4 * ns.length≤2 ^ 40)(hlim:0≤w.lim∧w.lim≤2 ^ 60)(bits:Int)(hb:bits=8 * k) :
   DCalls Tryz.prog c_8 [.one (pO id),iA bits, .one d] s fun r s'=>r= .tup []∧WrIn σ0 s' id (ns.foldl (fun w n=>w.num k n) w):=by
 have hl:=hd.size
 rw[List.length_map] at hl
 have hfl:∀(l:List Int) (w:Wr),(l.foldl (fun w n=>w.num k n) w).out.length≤w.out.length+k * l.length∧(l.foldl (fun w n=>w.num k n) w).lim=w.lim:=by
   intro l
   induction l with
   | nil=>intro w;simp
   | cons n l ih=>
     intro w
     have h1:=ih (w.num k n)
     have h2:=w.num_out k n
     rw[List.foldl_cons]
     refine ⟨Nat.le_trans h1.1 ?_,h1.2.trans h2.2⟩
     rw[List.length_cons,Nat.mul_add];omega
 refine t_i (pO id) bits d s _ ((hd.ext h.ext).lenK ⟨fun n s'=>∃j:Nat,n=j∧j≤ns.length∧WrIn σ0 s' id ((ns.take j).foldl (fun w n=>w.num k n) w),fun n _=>ns.length - n.toNat,⟨0,rfl,by omega,h⟩,?_⟩)
 rintro _ s' ⟨j,rfl,hj,hw⟩
 rw[List.length_map]
 refine bcd (fun hlt=>?_) (fun hge=>?_)
 rotate_left
 · have e:j=ns.length:=by omega
   subst e
   rw[List.take_length] at hw
   exact ⟨rfl,hw⟩
 have hlt:j < ns.length:=by omega
 obtain ⟨x,hx⟩:=a_i (l:=ns) (j:=j) hlt
 have htake:(ns.take (j+1)).foldl (fun w n=>w.num k n) w=((ns.take j).foldl (fun w n=>w.num k n) w).num k x:=by
   rw[List.take_add_one,hx,Option.toList_some,List.foldl_append];rfl
 have hout:=hfl (ns.take j) w
 generalize (ns.take j).foldl (fun w n=>w.num k n) w=w1 at *
 have hol:w1.out.length+4≤2 ^ 40:=by
   have:=hout.1
   rw[List.length_take,Nat.min_eq_left hj] at this
   have h4:k * j≤4 * j:=Nat.mul_le_mul_right _ hk.2
   omega
 refine (hd.ext hw.ext).load (a_c hx) c_int rfl ⟨x,rfl,?_⟩
 intro R hR
 have go:∀s1,WrIn σ0 s1 id (if x < 0∨x.fdiv (2 ^ (8 * k))≠0 then w1.note 32 else w1)→R s1:=fun s1 hw1=>hR s1 (by
   have hnote:∀c:Prop,[Decidable c]→(if c then w1.note 32 else w1).out=w1.out∧(if c then w1.note 32 else w1).lim=w1.lim:=fun c _=>by
     split
     · exact w1.note_out 32
     · exact ⟨rfl,rfl⟩
   have hn2:=hnote (x < 0∨x.fdiv (2 ^ (8 * k))≠0)
   refine ⟨fun d2 n2 s2=>∃(m:Nat) (p:List UInt8),m≤k∧n2=8 * m - 8∧p ++ be m x=be k x∧Own Tryz.prog s1 s2 f_v d2 (p.map y_4),fun _ n2 _=>(n2+8).toNat,⟨k,[],Nat.le_refl _,by rw[hb,a_u (by omega) (by omega)],rfl, .nil _ (.refl _)⟩,?_⟩
   rintro d2 _ s2 ⟨m,p,hm,rfl,hp,ho⟩
   have hpl:p.length+m=k:=by
     have:=congrArg List.length hp
     rwa [List.length_append,f_q,f_q] at this
   refine bcd (fun hge0=>?_) (fun hlt0=>?_)
   · obtain ⟨m',rfl⟩ :∃m',m=m'+1:=⟨m - 1,by omega⟩
     rw[wu64 (by omega) (by omega)]
     refine ⟨by omega,a_e fun i3 s3 hi3 _ he3 hs3=>(ho.ext' he3).append (At.fresh (rs:= [y_4 (m_e x (8 * m'))]) (by rw[hs3,a_qa,show min (8 * ((m'+1:Nat) :Int) - 8).toNat 64=8 * m' by omega]) (by simp) rfl) (by simp;omega) (by simp;omega) fun d3 s4 o4 _ _=>?_⟩
     rw[a_u (by omega) (by omega)]
     have e1:p.map y_4 ++ [y_4 (m_e x (8 * m'))]=(p ++ [m_e x (8 * m')]).map y_4:=by simp
     rw[e1] at o4
     refine ⟨⟨m',p ++ [m_e x (8 * m')],by omega,by omega,?_,o4⟩,by show (8 * ((m'+1:Nat) :Int) - 8 - 8+8).toNat < (8 * ((m'+1:Nat) :Int) - 8+8).toNat;omega⟩
     rw[←hp,be,List.append_assoc];rfl
   · have hm0:m=0:=by omega
     subst hm0
     rw[be,List.append_nil] at hp
     subst hp
     refine (a_hf (hw1.ext' ho.ext) ho.at_ (by rw[hn2.1,f_q];omega) (by rw[hn2.2,hout.2];exact hlim)).mono ?_
     rintro r s3 ⟨rfl,hw3⟩
     refine ⟨rfl,?_⟩
     rw[a_o (by omega)]
     refine ⟨⟨j+1,rfl,hlt,?_⟩,c_w hlt⟩
     rw[htake];exact hw3)
 have note:∀c:x < 0∨x.fdiv (2 ^ (8 * k))≠0,(a_f (pO id))∧∃(s:D) (i off:Nat),(pO id=(.el s i off:D))∧DCalls Tryz.prog b_t [.one (.el s i (off+0)),iA 32] s' fun r s1=>(r= .tup [])∧R s1:=fun c=>by
   obtain ⟨hn,wd,h1,h2,h3⟩:=hw
   refine ⟨trivial,_,_,_,rfl,(j_n (e:=w1.e) (rest:= [wd,iD w1.lim]) h1 32).mono ?_⟩
   rintro r s1 ⟨rfl,hs1,ho1⟩
   refine ⟨rfl,go s1 ?_⟩
   rw[if_pos c]
   have hnote:(w1.note 32) =⟨if w1.e=0 then 32 else w1.e,w1.out,w1.lim⟩:=by unfold Wr.note;split <;> rfl
   rw[hnote]
   exact ⟨hn,wd,hs1,a_g h2 hn h3 ho1,h3⟩
 refine bcd (fun hneg=>note (.inl hneg)) (fun hnn=>?_)
 have hsh:Int.fdiv x (2 ^ (min (IntKind.wrap .u64 bits).toNat 64)) =x.fdiv (2 ^ (8 * k)):=by
   rw[wu64 (by omega) (by omega)]
   congr 2;omega
 rw[hsh]
 refine ⟨by rw[wu64 (by omega) (by omega)];omega,bcn (fun hf=>note (.inr hf)) (fun hf=>go s' ?_)⟩
 rw [if_neg (by rintro (c | c); · omega
                · exact c hf)]
 exact hw
theorem a_ec {s:Store}{id:Nat}{w:Wr}(h:WrIn σ0 s id w){d:D}{ns:List Int}(hd:At Tryz.prog σ0 a_h d (ns.map Go.Fw.encI))(hs:w.out.length+4 * ns.length≤2 ^ 40)(hlim:0≤w.lim∧w.lim≤2 ^ 60) :
   DCalls Tryz.prog g_8 [.one (pO id), .one d] s fun r s'=>r= .tup []∧WrIn σ0 s' id (ns.foldl (fun w n=>w.num 1 n) w):=
 w_2 _ d s _ ((j_g h (k:=1) (by omega) hd hs hlim 8 rfl).mono fun r s' ⟨h1,h2⟩=>⟨h1,rfl,h2⟩)
theorem a_gc {s:Store}{id:Nat}{w:Wr}(h:WrIn σ0 s id w){d:D}{ns:List Int}(hd:At Tryz.prog σ0 a_h d (ns.map Go.Fw.encI))(hs:w.out.length+4 * ns.length≤2 ^ 40)(hlim:0≤w.lim∧w.lim≤2 ^ 60) :
   DCalls Tryz.prog g_9 [.one (pO id), .one d] s fun r s'=>r= .tup []∧WrIn σ0 s' id (ns.foldl (fun w n=>w.num 2 n) w):=
 w_f _ d s _ ((j_g h (k:=2) (by omega) hd hs hlim 16 rfl).mono fun r s' ⟨h1,h2⟩=>⟨h1,rfl,h2⟩)
theorem a_gl {s:Store}{id:Nat}{w:Wr}(h:WrIn σ0 s id w){d:D}{ns:List Int}(hd:At Tryz.prog σ0 a_h d (ns.map Go.Fw.encI))(hs:w.out.length+4 * ns.length≤2 ^ 40)(hlim:0≤w.lim∧w.lim≤2 ^ 60) :
   DCalls Tryz.prog g_2 [.one (pO id), .one d] s fun r s'=>r= .tup []∧WrIn σ0 s' id (ns.foldl (fun w n=>w.num 4 n) w):=
 w_r _ d s _ ((j_g h (k:=4) (by omega) hd hs hlim 32 rfl).mono fun r s' ⟨h1,h2⟩=>⟨h1,rfl,h2⟩)
theorem a_gi {s:Store}{id:Nat}{w:Wr}(h:WrIn σ0 s id w) :
   Pure Tryz.prog g_0 [.one (pO id)] s (.tup [.one (.str (ofL (if w.e=0 then w.out else []))),iA w.e]):=by
 obtain ⟨hn,d,h1,h2,h3⟩:=h
 have hrow:s id= .live d_6 [iD w.e::[d,iD w.lim]]:=h1
 refine w_k (pO id) s _ ⟨trivial,_,_,_,rfl,(e_5 hrow).use ⟨_,rfl,a_q (fun e=>?_) (fun e=>?_)⟩⟩
 · have hne:w.e≠0:=by simpa using e
   refine ⟨trivial,_,_,_,rfl,_,a_d h1,w.e,rfl,?_⟩
   rw[if_neg hne];exact ⟨rfl,rfl⟩
 · have he:w.e=0:=by simpa using e
   refine ⟨trivial,_,_,_,rfl,_,a_d h1,d,rfl,ofL w.out,?_,?_⟩
   · rw[a_d7];exact h2.at_.rows
   · rw[if_pos he,he];exact ⟨rfl,rfl⟩
def p_a (s:Store)(id:Nat)(r:Rd) :Prop:=s id= .live u_h [[iD r.e, .str (ofL r.l)]]
theorem a_lm (l:List UInt8) :DCalls Tryz.prog q_8 [.one (.str (ofL l))] σ fun r s=>∃id,r= .a (.one (pO id))∧σ id= .free∧p_a s id ⟨0,l⟩∧Ext σ s∧∀i,i≠id→s i=σ i:=
 a_ne _ σ _ (a_e fun id s hid hset he hs=>⟨id,rfl,hid,hs,he,fun i hi=>by rw[hset,Store.set_ne _ _ hi]⟩)
theorem a_eu {s:Store}{id:Nat}{r:Rd}(h:p_a s id r){n:Nat}(hn:n≤2 ^ 20)(hl:r.l.length≤2 ^ 60) :
   DCalls Tryz.prog g_6 [.one (pO id),iA 0,iA n] s fun rr s'=>rr= .a (.one (.str (ofL (if (r.short n).e=0 then r.l.take n else []))))∧
     p_a s' id (if (r.short n).e=0 then ⟨0,r.l.drop n⟩ else r.short n)∧∀i,i≠id→s' i=s i:=by
 have rest : ∀ (s1 : Store) (q : Rd), p_a s1 id q → (∀ i, i ≠ id → s1 i = s i) → q = r.short n → (q.e = 0 → n ≤ q.l.length) →
     DCalls Tryz.prog a_6 [.one (pO id)] s1 fun r1 s2=>∃b,r1= .a (bA b)∧a_b (!b) (RV.a (.one (.str (ByteArray.mk (List.toArray [])))) = .a (.one (.str (ofL (if (r.short n).e=0 then r.l.take n else []))))∧
       p_a s2 id (if (r.short n).e=0 then ⟨0,r.l.drop n⟩ else r.short n)∧∀i,i≠id→s2 i=s i)
       ((a_f (pO id))∧∃(s3:D) (i2 off2:Nat),(pO id=(.el s3 i2 off2:D))∧∃row1:List D,Row s2 s3 i2 row1∧∃s4:ByteArray,((List.drop (off2+1) row1).take 1=[.str s4])∧((0:Int)≤0)∧((0:Int)≤(w64 (0+ (n:Int))))∧((w64 (0+ (n:Int)))≤(ByteArray.size s4:Int))∧
         (a_f (pO id))∧∃(s5:D) (i3 off3:Nat),(pO id=(.el s5 i3 off3:D))∧∃row2:List D,Row s2 s5 i3 row2∧∃s6:ByteArray,((List.drop (off3+1) row2).take 1=[.str s6])∧((0:Int)≤(w64 (0+ (n:Int))))∧((w64 (0+ (n:Int)))≤(ByteArray.size s6:Int))∧
         (a_f (pO id))∧∃(s7:D) (i4 off4:Nat),(pO id=(.el s7 i4 off4:D))∧a_j [.str (ByteArray.extract s6 (Int.toNat (w64 (0+ (n:Int)))) (ByteArray.size s6))] s2 s7 i4 (off4+1) fun s'=>
           (RV.a (.one (.str (ByteArray.extract s4 (Int.toNat 0) (Int.toNat (w64 (0+ (n:Int))))))) = .a (.one (.str (ofL (if (r.short n).e=0 then r.l.take n else []))))∧
           p_a s' id (if (r.short n).e=0 then ⟨0,r.l.drop n⟩ else r.short n)∧∀i,i≠id→s' i=s i)):=by
   intro s1 q hq ho hqe hql
   refine (e_5 hq).use ⟨_,rfl,a_q (fun e=>?_) (fun e=>?_)⟩
   · have hne:(r.short n).e≠0:=by rw[←hqe];simpa using e
     rw[if_neg hne,if_neg hne,←hqe]
     exact ⟨rfl,hq,ho⟩
   · have he:q.e=0:=by simpa using e
     have hlq:=hql he
     have hqr:q.l=r.l:=by rw[hqe,Rd.short_l]
     have hw:w64 (0+ (n:Int)) =n:=by rw[a_u (by omega) (by omega)];omega
     rw[hw,if_pos (by rw[←hqe];exact he),if_pos (by rw[←hqe];exact he)]
     refine ⟨trivial,_,_,_,rfl,_,a_d hq,ofL q.l,rfl,by omega,by omega,by rw[y_i];omega,trivial,_,_,_,rfl,_,a_d hq,ofL q.l,rfl,by omega,by rw[y_i];omega,trivial,_,_,_,rfl,b_c hq (by simp) fun s' hs' ho'=>⟨?_,?_,fun i hi=>(ho' i hi).trans (ho i hi)⟩⟩
     · rw[Int.toNat_natCast,a_bt,hqr];rfl
     · unfold p_a
       rw[hs',Int.toNat_natCast,y_i,a_bt,List.take_length,hqr,he]
       rfl
 refine v_8 (pO id) 0 n s _ ⟨trivial,_,_,_,rfl,_,a_d h,ofL r.l,rfl,?_⟩
 rw[y_i,a_u (by omega) (by omega)]
 refine bcd (fun hg=>?_) (fun hg=>?_)
 · simp only[gt_iff_lt] at hg
   have hsh:r.short n=⟨if r.e=0 then 1 else r.e,r.l⟩:=by
     unfold Rd.short
     rw[if_pos (by omega)]
     split <;> rfl
   refine ⟨trivial,_,_,_,rfl,(j_n (e:=r.e) (rest:= [.str (ofL r.l)]) h 1).mono ?_⟩
   rintro r1 s1 ⟨rfl,hs1,ho1⟩
   refine ⟨rfl,trivial,_,_,_,rfl,rest s1 ⟨if r.e=0 then 1 else r.e,r.l⟩ hs1 ho1 hsh.symm fun e=>?_⟩
   simp only at e
   split at e
   · cases e
   · rename_i hc;exact absurd e hc
 · simp only[gt_iff_lt] at hg
   have hsh:r.short n=r:=by unfold Rd.short;rw[if_neg (by omega)]
   exact ⟨trivial,_,_,_,rfl,rest s r h (fun _ _=>rfl) hsh.symm fun _=>by omega⟩
theorem j_e {s:Store}{id:Nat}{r:Rd}(h:p_a s id r){n:Nat}(hn:n≤4)(hl:r.l.length≤2 ^ 60) :
   DCalls Tryz.prog c_6 [.one (pO id),iA n] s fun rr s'=>rr= .a (iA (r.num n).1)∧p_a s' id (r.num n).2∧∀i,i≠id→s' i=s i:=by
 refine s_3 (pO id) n s _ ((a_eu h (by omega) hl).mono ?_)
 rintro rr s1 ⟨rfl,h1,ho1⟩
 have hnum:r.num n=(rd (if (r.short n).e=0 then r.l.take n else []),if (r.short n).e=0 then ⟨0,r.l.drop n⟩ else r.short n):=by
   unfold Rd.num
   split
   · rw[Rd.short_l]
   · rfl
 rw[hnum]
 have hll:(if (r.short n).e=0 then r.l.take n else []).length≤4:=by
   split
   · rw[List.length_take];omega
   · simp
 generalize (if (r.short n).e=0 then r.l.take n else []) =l at *
 refine ⟨_,rfl,?_⟩
 rw[a_d7]
 have hat:∀s,At Tryz.prog s f_v (.sl 1 (l.map y_4)) (l.map y_4):=fun s=>⟨⟨rfl, .inr c_uint8.symm⟩,by rw[List.length_map];omega,fun es rows e=>by injection e with e1 e2;rw[←e1];exact c_uint8.symm⟩
 refine (hat s1).lenK ⟨fun x n2 s2=>s2=s1∧∃j:Nat,n2=j∧j≤l.length∧x=rd (l.take j),fun _ n2 _=>l.length - n2.toNat,⟨rfl,0,rfl,by omega,rfl⟩,?_⟩
 rintro _ _ s2 ⟨rfl,j,rfl,hj,rfl⟩
 rw[List.length_map]
 refine bcd (fun hlt=>?_) (fun hge=>?_)
 · have hlt:j < l.length:=by omega
   obtain ⟨c,hc⟩:=a_i (l:=l) (j:=j) hlt
   refine (hat s2).load (a_c hc) c_uint8 rfl ⟨(c.toNat:Int),rfl,?_⟩
   have hx:=a_p6 (l.take j) 0 (by omega)
   have h256:(256:Int) ^ (l.take j).length≤256 ^ 4:=by
     have e:∀m:Nat,(256:Int) ^ m=((256 ^ m:Nat) :Int):=fun m=>by simp
     rw[e,e]
     exact Int.ofNat_le.2 (Nat.pow_le_pow_right (by omega) (by rw[List.length_take];omega))
   have hb:rd (l.take j) < 2 ^ 48:=by
     unfold rd
     have:=hx.2
     have h4:(256:Int) ^ 4=4294967296:=by decide
     rw[h4] at h256
     omega
   have hor:=a_wu (x:=rd (l.take j)) (c:=(c.toNat:Int)) hx.1 hb (by omega) (by have:=c.toNat_lt;omega)
   rw[a_o (by omega)]
   refine ⟨⟨rfl,j+1,rfl,hlt,?_⟩,c_w hlt⟩
   rw[hor,List.take_add_one,hc,Option.toList_some,rd,rd,a_qu];rfl
 · have e:j=l.length:=by omega
   subst e
   rw[List.take_length]
   exact ⟨rfl,h1,ho1⟩
theorem r_n {s:Store}{id:Nat}{r:Rd}(h:p_a s id r)(hl:r.l.length≤2 ^ 60) :DCalls Tryz.prog e_1 [.one (pO id)] s fun rr s'=>rr= .a (iA (r.num 1).1)∧p_a s' id (r.num 1).2∧∀i,i≠id→s' i=s i:=
 v_x _ s _ ((j_e h (n:=1) (by omega) hl).mono fun rr s' ⟨h1,h2⟩=>⟨_,h1,rfl,h2⟩)
theorem a_gd {s:Store}{id:Nat}{r:Rd}(h:p_a s id r)(hl:r.l.length≤2 ^ 60) :DCalls Tryz.prog g_z [.one (pO id)] s fun rr s'=>rr= .a (iA (r.num 2).1)∧p_a s' id (r.num 2).2∧∀i,i≠id→s' i=s i:=
 w_0 _ s _ ((j_e h (n:=2) (by omega) hl).mono fun rr s' ⟨h1,h2⟩=>⟨_,h1,rfl,h2⟩)
theorem k_6 {s:Store}{id:Nat}{r:Rd}(h:p_a s id r)(hl:r.l.length≤2 ^ 60) :DCalls Tryz.prog d_r [.one (pO id)] s fun rr s'=>rr= .a (iA (r.num 4).1)∧p_a s' id (r.num 4).2∧∀i,i≠id→s' i=s i:=
 w_n _ s _ ((j_e h (n:=4) (by omega) hl).mono fun rr s' ⟨h1,h2⟩=>⟨_,h1,rfl,h2⟩)
theorem a_hr {s:Store}{id:Nat}{r:Rd}(h:p_a s id r) :Pure Tryz.prog h_i [.one (pO id)] s (.a (iA (if r.e=0∧r.l≠[] then 3 else r.e))):=by
 refine y_g (pO id) s _ ⟨trivial,_,_,_,rfl,(e_5 (e:=r.e) (rest:= [.str (ofL r.l)]) h).use ⟨_,rfl,bce (fun e=>?_) (fun e=>?_)⟩⟩
 · refine ⟨trivial,_,_,_,rfl,_,a_d h,ofL r.l,rfl,a_q (fun hs=>?_) (fun hs=>?_)⟩
   · have hne : r.l ≠ [] := fun hl => by
       rw[l_o,l_o,hl] at hs
       cases hs
     rw[if_pos ⟨e,hne⟩]
     exact ⟨rfl,rfl⟩
   · have hl : r.l = [] := by
       have:=eq_of_beq hs
       rw[l_o,l_o] at this
       exact this
     refine ⟨trivial,_,_,_,rfl,_,a_d h,r.e,rfl,?_⟩
     rw[if_neg (fun g=>g.2 hl)];exact ⟨rfl,rfl⟩
 · refine ⟨trivial,_,_,_,rfl,_,a_d h,r.e,rfl,?_⟩
   rw[if_neg (fun g=>e g.1)];exact ⟨rfl,rfl⟩
end
end Go.Proofs.YtdmfnhbmhkgemaaGreat
namespace Go.Fw
section
def ownW (w:Wr)(o:Int) :Wr:=w.num 2 ((if 1048576 < o then 1048576 else o) +2)
def rtW (w:Wr)(r:Rs) :Wr:=(w.num 1 r.State).num 1 r.Next
def lnW (w:Wr)(l:Ls) :Wr:=((w.num 4 l.Ask).num 4 l.Done).num 4 l.Grant
def Co.saveW (k:Co) :Wr:=((k.Lines.drop 1).take 3).foldl lnW (k.Routes.foldl rtW (k.Own.foldl ownW ⟨0,[],2 * (k.Own.length:Int) +2 * k.Routes.length+36⟩))
def Co.saveC (k:Co) :List UInt8 × Int:=if k.Lines.length < 4 then ([],32) else (if k.saveW.e=0 then k.saveW.out else [],k.saveW.e)
def u_d:Nat→Rd→List Int × Rd
 | 0,r=>([],r)
 | n+1,r=>(((r.num 2).1 - 2) :: (u_d n (r.num 2).2).1,(u_d n (r.num 2).2).2)
def u_y:Nat→Rd→List Rs × Rd
 | 0,r=>([],r)
 | n+1,r=>(⟨(r.num 1).1,0,((r.num 1).2.num 1).1,0⟩ :: (u_y n ((r.num 1).2.num 1).2).1,(u_y n ((r.num 1).2.num 1).2).2)
def ln3 (a b g:Int) :Ls:=⟨a,b,g,g,0,0,0,0⟩
def u_v:Nat→Rd→List Ls × Rd
 | 0,r=>([],r)
 | n+1,r=>(ln3 (r.num 4).1 ((r.num 4).2.num 4).1 (((r.num 4).2.num 4).2.num 4).1:: (u_v n (((r.num 4).2.num 4).2.num 4).2).1,(u_v n (((r.num 4).2.num 4).2.num 4).2).2)
def Cf.loadQ (c:Cf)(now:Int)(l:List UInt8) :Co × Rd:=
 let a:=u_d c.Secs.length ⟨0,l⟩
 let b:=u_y c.Rts.length a.2
 let d:=u_v 3 b.2
 (⟨a.1,b.1,(b_j c now).Points,(b_j c now).Xs,⟨0,0,0,0,0,0,0,0⟩ ::d.1,(b_j c now).Resets,true⟩,d.2)
def f_j (x:Rs) :Rs:=if x.State=0 then ⟨0,0,0,0⟩ else ⟨5,0,x.Next,0⟩
def zCo:Co:=⟨[],[],[],[],[],[],false⟩
def Cf.loadC (c:Cf)(now:Int)(l:List UInt8) :Co × Int:=
 if (c.loadQ now l).2.e=0∧(c.loadQ now l).2.l=[]∧(c.loadQ now l).1.fits c=true∧tm 0 now=true then
   (let q:=(c.loadQ now l).1; ⟨q.Own,q.Routes.map f_j,q.Points,q.Xs,q.Lines,q.Resets,false⟩,0) else (zCo,3)
theorem Rd.num_len (r:Rd)(n:Nat) :(r.num n).2.l.length≤r.l.length:=by
 unfold Rd.num
 split
 · show ((r.short n).l.drop n).length≤_
   rw[List.length_drop,Rd.short_l];omega
 · rw[Rd.short_l];exact Nat.le_refl _
/-! what fits is written -/
def ownB (o:Int) :List UInt8:=be 2 (o+2)
def rtB (r:Rs) :List UInt8:=be 1 r.State ++ be 1 r.Next
def lnB (l:Ls) :List UInt8:=be 4 l.Ask ++ (be 4 l.Done ++ be 4 l.Grant)
def Co.saveB (k:Co) :List UInt8:=(k.Own.map ownB).flatten ++ (k.Routes.map rtB).flatten ++ (((k.Lines.drop 1).take 3).map lnB).flatten
theorem n_o {α:Type}{f:α→List UInt8}{m:Nat}(h:∀x,(f x).length=m) :∀l:List α,(l.map f).flatten.length=m * l.length:=by
 intro l
 induction l with
 | nil=>simp
 | cons x l ih=>rw[List.map_cons,List.flatten_cons,List.length_append,h,ih,List.length_cons,Nat.mul_add];omega
theorem z_c (o:Int) :(ownB o).length=2:=f_q _ _
theorem a_la (r:Rs) :(rtB r).length=2:=by unfold rtB;rw[List.length_append,f_q,f_q]
theorem a_sr (l:Ls) :(lnB l).length=12:=by unfold lnB;rw[List.length_append,List.length_append,f_q,f_q,f_q]
theorem a_fc {α:Type}{f:Wr→α→Wr}{g:α→List UInt8}{m:Nat}{p:α→Prop}(hg:∀x,(g x).length=m)
   (hf:∀(w:Wr) x,p x→w.e=0→(w.out.length:Int) +m≤w.lim→f w x=⟨0,w.out ++ g x,w.lim⟩) :∀(l:List α) (w:Wr),(∀x ∈ l,p x)→w.e=0→(w.out.length:Int) +m * l.length≤w.lim→
     l.foldl f w=⟨0,w.out ++ (l.map g).flatten,w.lim⟩:=by
 intro l
 induction l with
 | nil=>intro w _ he _;cases w;simp at he ⊢;exact he
 | cons x l ih=>
   intro w hp he hl
   rw[List.length_cons] at hl
   have e:(m:Int) * ((l.length+1:Nat) :Int) =m * l.length+m:=by rw[Int.natCast_add,Int.mul_add];simp
   rw[e] at hl
   have hm0:(0:Int)≤m * l.length:=Int.mul_nonneg (by omega) (by omega)
   rw[List.foldl_cons,hf w x (hp x (by simp)) he (by omega),ih _ (fun y hy=>hp y (by simp[hy])) rfl (by simp only[List.length_append,hg];omega)]
   simp[List.append_assoc]
theorem a_u8 {c:Cf}{k:Co}(h:FitIs c k) :k.saveW=⟨0,k.saveB,2 * (k.Own.length:Int) +2 * k.Routes.length+36⟩:=by
 have hR:c.Rts.length≤12:=(a_y h.chk).2.2.1
 have tm0:∀{n:Int},tm 0 n=true→0≤n∧n < 256 ^ 4:=fun h=>by
   have:=of_decide_eq_true h
   have e:(256:Int) ^ 4=4294967296:=by decide
   rw[e];omega
 have o1:=a_fc (f:=ownW) (g:=ownB) (m:=2) (p:=fun o=> -2≤o∧o≤12) z_c (fun w x hx he hl=>by
   have := Wr.num_fit (w := w) (k := 2) (n := x + 2) he (by omega) (by have e : (256 : Int) ^ 2 = 65536 := by decide
                                                                       rw[e];omega) hl
   unfold ownW ownB
   rw[if_neg (by omega)];exact this) k.Own ⟨0,[],2 * (k.Own.length:Int) +2 * k.Routes.length+36⟩ (fun o ho=>by have:=h.own o ho;omega) rfl (by simp;omega)
 have o2:=a_fc (f:=rtW) (g:=rtB) (m:=2) (p:=fun r=>(0≤r.State∧r.State≤5)∧0≤r.Next∧r.Next < 256) a_la (fun w x hx he hl=>by
   have e:(256:Int) ^ 1=256:=by decide
   have h1:=Wr.num_fit (w:=w) (k:=1) (n:=x.State) he hx.1.1 (by rw[e];omega) (by omega)
   unfold rtW rtB
   rw[h1,Wr.num_fit (w:=⟨0,w.out ++ be 1 x.State,w.lim⟩) (k:=1) (n:=x.Next) rfl hx.2.1 (by rw[e];omega) (by simp[f_q];omega)]
   simp[List.append_assoc]) k.Routes ⟨0,(k.Own.map ownB).flatten,2 * (k.Own.length:Int) +2 * k.Routes.length+36⟩ (fun r hr=>by
     obtain ⟨i,hi⟩:=List.mem_iff_getElem?.1 hr
     obtain ⟨y,hy⟩:=a_i (l:=c.Rts) (j:=i) (by have:=(List.getElem?_eq_some_iff.1 hi).1;have:=h.lRts;omega)
     have:=h.rts i r y hi hy
     simp only[Rs.fits,Bool.and_eq_true,decide_eq_true_eq] at this
     have hp:y.Path.length≤8:=(b_k h.chk (List.mem_of_getElem? hy)).len.2
     exact ⟨this.1.1,this.1.2.1,by have:=this.1.2.2;omega⟩) rfl (by simp[n_o z_c];omega)
 have o3:=a_fc (f:=lnW) (g:=lnB) (m:=12) (p:=fun l=>(0≤l.Ask∧l.Ask < 256 ^ 4)∧(0≤l.Done∧l.Done < 256 ^ 4)∧(0≤l.Grant∧l.Grant < 256 ^ 4)) a_sr (fun w x hx he hl=>by
   have h1:=Wr.num_fit (w:=w) (k:=4) (n:=x.Ask) he hx.1.1 hx.1.2 (by omega)
   have h2:=Wr.num_fit (w:=⟨0,w.out ++ be 4 x.Ask,w.lim⟩) (k:=4) (n:=x.Done) rfl hx.2.1.1 hx.2.1.2 (by simp[f_q];omega)
   have h3:=Wr.num_fit (w:=⟨0,w.out ++ be 4 x.Ask ++ be 4 x.Done,w.lim⟩) (k:=4) (n:=x.Grant) rfl hx.2.2.1 hx.2.2.2 (by simp[f_q];omega)
   unfold lnW lnB
   rw[h1,h2,h3]
   simp[List.append_assoc]) ((k.Lines.drop 1).take 3) ⟨0,(k.Own.map ownB).flatten ++ (k.Routes.map rtB).flatten,2 * (k.Own.length:Int) +2 * k.Routes.length+36⟩ (fun l hl=>by
     have:=h.lns l (List.mem_of_mem_drop (List.mem_of_mem_take hl))
     simp only[Ls.fits,Bool.and_eq_true] at this
     exact ⟨tm0 this.1.1,tm0 this.1.2.1,tm0 this.1.2.2.1⟩) rfl (by
     simp only[List.length_append,n_o z_c,n_o a_la,List.length_take,List.length_drop]
     omega)
 unfold Co.saveW
 rw[o1]
 simp only[List.nil_append]
 rw[o2,o3]
 rfl
theorem a_tr {c:Cf}{k:Co}(h:FitIs c k) :k.saveC=(k.saveB,0):=by
 unfold Co.saveC
 rw[if_neg (by rw[h.lLn];omega),a_u8 h]
 rfl
theorem a_qy:∀(l:List Int) (t:List UInt8),(∀o ∈ l,-2≤o∧o≤12)→u_d l.length ⟨0,(l.map ownB).flatten ++ t⟩ =(l,⟨0,t⟩):=by
 intro l
 induction l with
 | nil=>intro t _;rfl
 | cons o l ih=>
   intro t h
   have ho:=h o (by simp)
   have e:(⟨0,((o::l).map ownB).flatten ++ t⟩ :Rd).num 2=(o+2,⟨0,(l.map ownB).flatten ++ t⟩):=by
     rw[List.map_cons,List.flatten_cons,List.append_assoc]
     exact Rd.num_be (by omega) (by have e : (256 : Int) ^ 2 = 65536 := by decide
                                    rw[e];omega) _
   rw[List.length_cons,u_d,e,ih t fun y hy=>h y (by simp[hy])]
   simp only[Prod.mk.injEq,List.cons.injEq,and_true]
   omega
theorem a_q0:∀(l:List Rs) (t:List UInt8),(∀r ∈ l,(0≤r.State∧r.State≤5)∧0≤r.Next∧r.Next < 256)→u_y l.length ⟨0,(l.map rtB).flatten ++ t⟩ =(l.map fun r=>⟨r.State,0,r.Next,0⟩,⟨0,t⟩):=by
 intro l
 induction l with
 | nil=>intro t _;rfl
 | cons r l ih=>
   intro t h
   have hr:=h r (by simp)
   have e1:(256:Int) ^ 1=256:=by decide
   have e:(⟨0,((r::l).map rtB).flatten ++ t⟩ :Rd).num 1=(r.State,⟨0,be 1 r.Next ++ ((l.map rtB).flatten ++ t)⟩):=by
     rw[List.map_cons,List.flatten_cons,List.append_assoc,rtB,List.append_assoc]
     exact Rd.num_be (by omega) (by rw[e1];omega) _
   have e2:=Rd.num_be (k:=1) hr.2.1 (by rw[e1];omega) ((l.map rtB).flatten ++ t)
   rw[List.length_cons,u_y,e]
   simp only
   rw[e2,ih t fun y hy=>h y (by simp[hy])]
   rfl
theorem a_rh:∀(l:List Ls) (t:List UInt8),(∀x ∈ l,(0≤x.Ask∧x.Ask < 256 ^ 4)∧(0≤x.Done∧x.Done < 256 ^ 4)∧(0≤x.Grant∧x.Grant < 256 ^ 4))→
   u_v l.length ⟨0,(l.map lnB).flatten ++ t⟩ =(l.map fun x=>ln3 x.Ask x.Done x.Grant,⟨0,t⟩):=by
 intro l
 induction l with
 | nil=>intro t _;rfl
 | cons x l ih=>
   intro t h
   have hx:=h x (by simp)
   have e:(⟨0,((x::l).map lnB).flatten ++ t⟩ :Rd).num 4=(x.Ask,⟨0,be 4 x.Done ++ (be 4 x.Grant ++ ((l.map lnB).flatten ++ t))⟩):=by
     rw[List.map_cons,List.flatten_cons,List.append_assoc,lnB,List.append_assoc,List.append_assoc]
     exact Rd.num_be hx.1.1 hx.1.2 _
   have e2:=Rd.num_be hx.2.1.1 hx.2.1.2 (be 4 x.Grant ++ ((l.map lnB).flatten ++ t))
   have e3:=Rd.num_be hx.2.2.1 hx.2.2.2 ((l.map lnB).flatten ++ t)
   rw[List.length_cons,u_v,e]
   simp only
   rw[e2]
   simp only
   rw[e3,ih t fun y hy=>h y (by simp[hy])]
   rfl
def Co.backK (c:Cf)(k:Co)(now:Int) :Co:=
 ⟨k.Own,k.Routes.map (fun r=>f_j ⟨r.State,0,r.Next,0⟩),(b_j c now).Points,(b_j c now).Xs,⟨0,0,0,0,0,0,0,0⟩ :: ((k.Lines.drop 1).take 3).map (fun x=>ln3 x.Ask x.Done x.Grant),(b_j c now).Resets,false⟩
theorem a_td {c:Cf}{k:Co}(h:FitIs c k){now:Int}(hn:tm 0 now=true) :c.loadC now k.saveB=(k.backK c now,0):=by
 have hR:c.Rts.length≤12:=(a_y h.chk).2.2.1
 have tm0:∀{n:Int},tm 0 n=true→0≤n∧n < 256 ^ 4:=fun h=>by
   have:=of_decide_eq_true h
   have e:(256:Int) ^ 4=4294967296:=by decide
   rw[e];omega
 have b1:=a_qy k.Own ((k.Routes.map rtB).flatten ++ (((k.Lines.drop 1).take 3).map lnB).flatten) fun o ho=>by have:=h.own o ho;omega
 have hrt:∀r ∈ k.Routes,(0≤r.State∧r.State≤5)∧0≤r.Next∧r.Next < 256:=fun r hr=>by
   obtain ⟨i,hi⟩:=List.mem_iff_getElem?.1 hr
   obtain ⟨y,hy⟩:=a_i (l:=c.Rts) (j:=i) (by have:=(List.getElem?_eq_some_iff.1 hi).1;have:=h.lRts;omega)
   have:=h.rts i r y hi hy
   simp only[Rs.fits,Bool.and_eq_true,decide_eq_true_eq] at this
   have hp:y.Path.length≤8:=(b_k h.chk (List.mem_of_getElem? hy)).len.2
   exact ⟨this.1.1,this.1.2.1,by have:=this.1.2.2;omega⟩
 have b2:=a_q0 k.Routes (((k.Lines.drop 1).take 3).map lnB).flatten hrt
 have hln:∀x ∈ (k.Lines.drop 1).take 3,(0≤x.Ask∧x.Ask < 256 ^ 4)∧(0≤x.Done∧x.Done < 256 ^ 4)∧(0≤x.Grant∧x.Grant < 256 ^ 4):=fun x hx=>by
   have:=h.lns x (List.mem_of_mem_drop (List.mem_of_mem_take hx))
   simp only[Ls.fits,Bool.and_eq_true] at this
   exact ⟨tm0 this.1.1,tm0 this.1.2.1,tm0 this.1.2.2.1⟩
 have b3:=a_rh ((k.Lines.drop 1).take 3) [] hln
 rw[List.append_nil] at b3
 have l3:((k.Lines.drop 1).take 3).length=3:=by rw[List.length_take,List.length_drop,h.lLn];rfl
 rw[h.lOwn] at b1
 rw[h.lRts] at b2
 rw[l3] at b3
 have hq:c.loadQ now k.saveB=(⟨k.Own,k.Routes.map (fun r=>⟨r.State,0,r.Next,0⟩),(b_j c now).Points,(b_j c now).Xs,⟨0,0,0,0,0,0,0,0⟩ :: ((k.Lines.drop 1).take 3).map (fun x=>ln3 x.Ask x.Done x.Grant),(b_j c now).Resets,true⟩,⟨0,[]⟩):=by
   unfold Cf.loadQ Co.saveB
   rw[List.append_assoc,b1]
   simp only
   rw[b2]
   simp only
   rw[b3]
 have hf:Co.fits c ⟨k.Own,k.Routes.map (fun r=>⟨r.State,0,r.Next,0⟩),(b_j c now).Points,(b_j c now).Xs,⟨0,0,0,0,0,0,0,0⟩ :: ((k.Lines.drop 1).take 3).map (fun x=>ln3 x.Ask x.Done x.Grant),(b_j c now).Resets,true⟩ =true:=by
   have hnew:=fits_iff.1 (a_ev h.chk hn)
   refine fits_iff.2 ⟨h.chk,h.lOwn,hnew.lPts,hnew.lRes,by rw[List.length_map];exact h.lRts,hnew.lXs,by rw[List.length_cons,List.length_map,l3],h.own,fun i x r hi hr=>?_,hnew.pts,hnew.xs,fun l hl=>?_,hnew.res⟩
   · simp only[List.getElem?_map,Option.map_eq_some_iff] at hi
     obtain ⟨y,hy,rfl⟩:=hi
     have:=h.rts i y r hy hr
     simp only[Rs.fits,Bool.and_eq_true,decide_eq_true_eq] at this ⊢
     exact ⟨this.1,by decide⟩
   · simp only[List.mem_cons,List.mem_map] at hl
     rcases hl with rfl | ⟨x,hx,rfl⟩
     · decide
     · have:=h.lns x (List.mem_of_mem_drop (List.mem_of_mem_take hx))
       simp only[Ls.fits,Bool.and_eq_true,ln3] at this ⊢
       exact ⟨⟨this.1.1,this.1.2.1,this.1.2.2.1,this.1.2.2.1,by decide,by decide,by decide⟩,by decide⟩
 unfold Cf.loadC
 rw[hq,if_pos ⟨rfl,rfl,hf,hn⟩]
 simp only[Prod.mk.injEq,and_true,Co.backK,List.map_map]
 rfl
end
end Go.Fw
namespace Go.Proofs.YtdmfnhbmhkgemaaGreat
open Go.Fw Go.Proofs Go.RowKit
section
variable {σ σ0:Store}
theorem z_9 {α β:Type}(f:β→α→β)(l:List α)(b:β)(j:Nat)(x:α)(hx:l[j]? =some x) :(l.take (j+1)).foldl f b=f ((l.take j).foldl f b) x:=by
 rw[List.take_add_one,hx,Option.toList_some,List.foldl_append];rfl
theorem q_l {α:Type}{f:Wr→α→Wr}{m:Nat}(hf:∀w x,(f w x).out.length≤w.out.length+m∧(f w x).lim=w.lim) :∀(l:List α) (w:Wr),(l.foldl f w).out.length≤w.out.length+m * l.length∧(l.foldl f w).lim=w.lim:=by
 intro l
 induction l with
 | nil=>intro w;simp
 | cons x l ih=>
   intro w
   have h1:=ih (f w x)
   have h2:=hf w x
   rw[List.foldl_cons]
   refine ⟨Nat.le_trans h1.1 ?_,h1.2.trans h2.2⟩
   rw[List.length_cons,Nat.mul_add];omega
theorem a_oy (w:Wr)(o:Int) :(ownW w o).out.length≤w.out.length+2∧(ownW w o).lim=w.lim:=w.num_out 2 _
theorem a_sa (w:Wr)(r:Rs) :(rtW w r).out.length≤w.out.length+2∧(rtW w r).lim=w.lim:=by
 have h1:=w.num_out 1 r.State
 have h2:=(w.num 1 r.State).num_out 1 r.Next
 unfold rtW
 exact ⟨by omega,h2.2.trans h1.2⟩
theorem a_w4 (w:Wr)(l:Ls) :(lnW w l).out.length≤w.out.length+12∧(lnW w l).lim=w.lim:=by
 have h1:=w.num_out 4 l.Ask
 have h2:=(w.num 4 l.Ask).num_out 4 l.Done
 have h3:=((w.num 4 l.Ask).num 4 l.Done).num_out 4 l.Grant
 unfold lnW
 exact ⟨by omega,h3.2.trans (h2.2.trans h1.2)⟩
theorem a_gg {f:FuncId}{m:Nat}{s:Store}{id:Nat}{w:Wr}(h:WrIn σ0 s id w){ns:List Int}{n:Nat}(hn:n=ns.length)
   (hf:∀{τ s:Store} {w:Wr} {d:D} {ns:List Int},WrIn τ s id w→At Tryz.prog τ a_h d (ns.map Go.Fw.encI)→w.out.length+4 * ns.length≤2 ^ 40→0≤w.lim∧w.lim≤2 ^ 60→DCalls Tryz.prog f [.one (pO id), .one d] s fun r s'=>r= .tup []∧WrIn τ s' id (ns.foldl (fun w n=>w.num m n) w))
   (hs:w.out.length+4 * ns.length≤2 ^ 40) (hlim:0≤w.lim∧w.lim≤2 ^ 60) {K:Store→Prop} (hK:∀s',WrIn σ0 s' id (ns.foldl (fun w n=>w.num m n) w)→K s') :
   Fw.newObj s (.live a_h (ns.map Go.Fw.encI)) fun i s1=>DCalls Tryz.prog f [.one (pO id), .one (.osl i 0 n)] s1 fun r s2=>(r= .tup [])∧K s2:=by
 refine a_e fun i s1 hi hset he hs1=>?_
 obtain ⟨τ,h1,h2,h3⟩:=h.newList (so:= .live a_h (ns.map Go.Fw.encI)) hi (by intro e;cases e)
 rw[←hset] at h1
 refine (hf h1 (At.fresh h3 (by rw[List.length_map];omega) (by rw[List.length_map];exact hn)) hs hlim).mono ?_
 rintro r s2 ⟨rfl,h4⟩
 refine ⟨rfl,hK s2 ?_⟩
 obtain ⟨q1,d,q2,q3,q4⟩:=h4
 refine ⟨?_,d,q2,Own.from h2 q3,q4⟩
 by_cases hf:σ0 id= .free
 · exact hf
 · have:=h2 id hf;rw[q1] at this;exact this.symm
theorem a_id {k0 k1 k2 k3 k4 k5:D}{k:Co}(hk:CoAt σ k0 k1 k2 k3 k4 k5 k)(h1:k.Own.length≤2 ^ 30)(h2:k.Routes.length≤2 ^ 30)(hI:∀o ∈ k.Own,-2 ^ 63≤o) :
   Pure Tryz.prog o_k [coA k0 k1 k2 k3 k4 k5 k.Dirty] σ (.tup [.one (.str (ofL k.saveC.1)),iA k.saveC.2]):=by
 refine .of ?_ (.tup [.str (ofL k.saveC.1),iD k.saveC.2] (by simp only[List.mem_cons,List.not_mem_nil,or_false];rintro d (rfl | rfl) <;> constructor))
 have hl4:=hk.lines.size
 rw[List.length_map] at hl4
 refine a_l7 k0 k1 k2 k3 k4 k5 k.Dirty σ _ (hk.lines.lenK ?_)
 rw[List.length_map]
 refine bcd (fun hlt=>?_) (fun hge=>?_)
 · rw[Co.saveC,if_pos (by omega)]
   exact ⟨rfl, .refl _⟩
 have hge:¬k.Lines.length < 4:=by omega
 refine hk.own.lenK (hk.routes.lenK ?_)
 rw[List.length_map,List.length_map]
 have hlim:w64 (w64 (w64 (2 * (k.Own.length:Int)) +w64 (2 * (k.Routes.length:Int))) +36) =2 * (k.Own.length:Int) +2 * k.Routes.length+36:=by
   rw[a_u (n:=2 * (k.Own.length:Int)) (by omega) (by omega),a_u (n:=2 * (k.Routes.length:Int)) (by omega) (by omega),a_u (n:=2 * (k.Own.length:Int) +2 * (k.Routes.length:Int)) (by omega) (by omega),a_u (by omega) (by omega)]
 rw[hlim]
 refine (a_pm _ (by omega)).mono ?_
 rintro r s ⟨id,rfl,hw⟩
 refine ⟨_,rfl,(hk.own.ext hw.ext).lenK ?_⟩
 rw[List.length_map]
 generalize hw0:(⟨0,[],2 * (k.Own.length:Int) +2 * k.Routes.length+36⟩ :Wr) =w0 at hw
 have l0:w0.out.length=0∧w0.lim=2 * (k.Own.length:Int) +2 * k.Routes.length+36:=by rw[←hw0];exact ⟨rfl,rfl⟩
 refine ⟨fun n s=>∃j:Nat,n=j∧j≤k.Own.length∧WrIn σ s id ((k.Own.take j).foldl ownW w0),fun n _=>k.Own.length - n.toNat,⟨0,rfl,by omega,hw⟩,?_⟩
 rintro _ s1 ⟨j,rfl,hj,hw1⟩
 refine bcd (fun hlt=>?_) (fun hge1=>?_)
 · have hlt:j < k.Own.length:=by omega
   obtain ⟨o,ho⟩:=a_i (l:=k.Own) (j:=j) hlt
   have hof:=q_l a_oy (k.Own.take j) w0
   rw[List.length_take,Nat.min_eq_left hj] at hof
   refine (hk.own.ext hw1.ext).load (a_c ho) c_int rfl ⟨o,rfl,?_⟩
   have hoI:=hI o (List.mem_of_getElem? ho)
   have hwo:w64 ((if (1048576:Int) < o then 1048576 else o) +2) =(if 1048576 < o then 1048576 else o) +2:=by
     rw[a_u] <;> split <;> omega
   rw[hwo]
   refine a_gg (m:=2) (ns:= [(if 1048576 < o then 1048576 else o) +2]) hw1 rfl (fun h hd hs hl=>a_gc h hd hs hl) (by simp;omega) (by rw[hof.2];omega) fun s2 hw2=>?_
   rw[a_o (by omega)]
   exact ⟨⟨j+1,rfl,hlt,by rw[z_9 _ _ _ _ _ ho];exact hw2⟩,c_w hlt⟩
 have e:j=k.Own.length:=by omega
 subst e
 rw[List.take_length] at hw1
 have hof:=q_l a_oy k.Own w0
 generalize hw1e:k.Own.foldl ownW w0=w1 at hw1 hof
 refine (hk.routes.ext hw1.ext).lenK ⟨fun n s=>∃j:Nat,n=j∧j≤k.Routes.length∧WrIn σ s id ((k.Routes.take j).foldl rtW w1),fun n _=>k.Routes.length - n.toNat,⟨0,rfl,by omega,hw1⟩,?_⟩
 rintro _ s2 ⟨j,rfl,hj,hw2⟩
 rw[List.length_map]
 refine bcd (fun hlt=>?_) (fun hge2=>?_)
 · have hlt:j < k.Routes.length:=by omega
   obtain ⟨o,ho⟩:=a_i (l:=k.Routes) (j:=j) hlt
   have hrf:=q_l a_sa (k.Routes.take j) w1
   rw[List.length_take,Nat.min_eq_left hj] at hrf
   refine (hk.routes.ext hw2.ext).load (a_c ho) a_x rfl ⟨o.State,o.Since,o.Next,o.Mark,rfl,?_⟩
   refine a_gg (m:=1) (ns:= [o.State,o.Next]) hw2 rfl (fun h hd hs hl=>a_ec h hd hs hl) (by simp;omega) (by rw[hrf.2,hof.2];omega) fun s3 hw3=>?_
   rw[a_o (by omega)]
   exact ⟨⟨j+1,rfl,hlt,by rw[z_9 _ _ _ _ _ ho];exact hw3⟩,c_w hlt⟩
 have e:j=k.Routes.length:=by omega
 subst e
 rw[List.take_length] at hw2
 have hrf:=q_l a_sa k.Routes w1
 generalize hw2e:k.Routes.foldl rtW w1=w2 at hw2 hrf
 have hk4:=hk.lines.ext hw2.ext
 have hsub:=hk4.sub (lo:=1) (hi:=4) (by omega) (by rw[List.length_map];omega)
 rw[←List.map_drop,←List.map_take] at hsub
 have hsl:((k.Lines.drop 1).take (4 - 1)).length=3:=by rw[List.length_take,List.length_drop];omega
 refine hk4.sliceK (lo:=1) (hi:=4) c_a rfl rfl (by omega) (by rw[List.length_map];omega) (hsub.lenK ⟨fun n s=>∃j:Nat,n=j∧j≤3∧WrIn σ s id ((((k.Lines.drop 1).take 3).take j).foldl lnW w2),fun n _=>3 - n.toNat,⟨0,rfl,by omega,hw2⟩,?_⟩)
 rintro _ s3 ⟨j,rfl,hj,hw3⟩
 rw[List.length_map,hsl]
 have hsub3:At Tryz.prog s3 d_g (g_f k4 1 4) (((k.Lines.drop 1).take 3).map Ls.enc):=by
   have:=(hk.lines.ext hw3.ext).sub (lo:=1) (hi:=4) (by omega) (by rw[List.length_map];omega)
   rw[←List.map_drop,←List.map_take] at this;exact this
 refine bcd (fun hlt=>?_) (fun hge3=>?_)
 · have hlt:j < 3:=by omega
   obtain ⟨o,ho⟩:=a_i (l:=(k.Lines.drop 1).take 3) (j:=j) (by rw[hsl];exact hlt)
   have hlf:=q_l a_w4 (((k.Lines.drop 1).take 3).take j) w2
   rw[List.length_take,hsl,Nat.min_eq_left hj] at hlf
   refine hsub3.load (a_c ho) c_a rfl ⟨o.Ask,o.Done,o.Grant,o.Told,o.PAsk,o.PDone,o.PGrant,o.Since,rfl,?_⟩
   refine a_gg (m:=4) (ns:= [o.Ask,o.Done,o.Grant]) hw3 rfl (fun h hd hs hl=>a_gl h hd hs hl) (by simp only[List.length_cons,List.length_nil];omega) (by rw[hlf.2,hrf.2,hof.2];omega) fun s4 hw4=>?_
   rw[a_o (by omega)]
   exact ⟨⟨j+1,rfl,hlt,by rw[z_9 _ _ _ _ _ ho];exact hw4⟩,c_w hlt⟩
 have e:j=3:=by omega
 subst e
 rw[List.take_take,Nat.min_self] at hw3
 have hsave:((k.Lines.drop 1).take 3).foldl lnW w2=k.saveW:=by rw[Co.saveW,←hw2e,←hw1e,←hw0]
 rw[hsave] at hw3
 refine (a_gi hw3).use ⟨_,_,rfl,?_⟩
 rw[Co.saveC,if_neg hge]
 exact ⟨rfl,hw3.ext⟩
/-! ### Load -/
theorem CoOwn.other {s s':Store}{d0 d1 d2 d3 d4 d5:D}{k:Co}{id:Nat}(h:CoOwn σ0 s d0 d1 d2 d3 d4 d5 k)(hn:σ0 id= .free)(hi:∀d ∈ [d0,d1,d2,d3,d4,d5],a_0 d≠some id)(hs:∀i,i≠id→s' i=s i) :CoOwn σ0 s' d0 d1 d2 d3 d4 d5 k:=
 ⟨a_g h.own hn (hi _ (by simp)) hs,a_g h.routes hn (hi _ (by simp)) hs,a_g h.points hn (hi _ (by simp)) hs,a_g h.xs hn (hi _ (by simp)) hs,a_g h.lines hn (hi _ (by simp)) hs,a_g h.resets hn (hi _ (by simp)) hs,h.apart⟩
theorem a_dz {α:Type}(a b:List α)(x y:α) :(a ++ x::b).set a.length y=a ++ y::b:=by
 rw[List.set_append_right _ _ (Nat.le_refl _),Nat.sub_self];rfl
theorem a_if {c0 c1 c2 c3 c4:D}{c:Cf}(h:∀s,CfAt s c0 c1 c2 c3 c4 c)(now:Int)(h1:c.Secs.length≤2 ^ 20)(h2:c.Xs.length≤2 ^ 20)(h3:c.Rts.length≤2 ^ 20){l:List UInt8}(hl:l.length≤2 ^ 60) :
   DCalls Tryz.prog o_1 [cfA c0 c1 c2 c3 c4 c,iA now, .one (.str (ofL l))] σ (CoPost σ (c.loadC now l)):=by
 refine a_mu _ _ _ _ _ _ _ _ _ now (ofL l) σ _ ((o_3 h now h1 h2 h3).mono ?_)
 rintro r s0 ⟨k0,k1,k2,k3,k4,k5,rfl,hk0⟩
 refine ⟨_,_,_,_,_,_,_,rfl,(a_lm l).mono ?_⟩
 rintro r s1 ⟨id,rfl,hid0,hr1,he1,ho1⟩
 have hid:σ id= .free:=by
   by_cases hf:σ id= .free
   · exact hf
   · have:=hk0.own.ext id hf;rw[hid0] at this;exact this.symm
 have hne:∀d ∈ [k0,k1,k2,k3,k4,k5],a_0 d≠some id:=by
   intro d hd hi
   simp only[List.mem_cons,List.not_mem_nil,or_false] at hd
   rcases hd with rfl | rfl | rfl | rfl | rfl | rfl
   · exact f_u hk0.own.at_ hi hid0
   · exact f_u hk0.routes.at_ hi hid0
   · exact f_u hk0.points.at_ hi hid0
   · exact f_u hk0.xs.at_ hi hid0
   · exact f_u hk0.lines.at_ hi hid0
   · exact f_u hk0.resets.at_ hi hid0
 have hk1:=hk0.other hid hne ho1
 have eO:(b_j c now).Own=List.replicate c.Secs.length (-1):=rfl
 have eR:(b_j c now).Routes=List.replicate c.Rts.length ⟨0,0,0,0⟩:=rfl
 have eL:(b_j c now).Lines=List.replicate 4 ⟨0,0,0,0,0,0,0,0⟩:=rfl
 have eD:(b_j c now).Dirty=true:=rfl
 have nO:(b_j c now).Own.length=c.Secs.length:=by simp[b_j]
 have nR:(b_j c now).Routes.length=c.Rts.length:=by simp[b_j]
 generalize hkk:b_j c now=k at *
 refine ⟨_,rfl,hk1.own.at_.lenK ?_⟩
 rw[List.length_map,nO]
 refine ⟨fun n s => ∃ (j : Nat) (a : List Int) (q : Rd), n = j ∧ j ≤ c.Secs.length ∧ a.length = j ∧ CoOwn σ s k0 k1 k2 k3 k4 k5 { k with Own := a ++ List.replicate (c.Secs.length - j) (-1) } ∧ p_a s id q ∧ q.l.length ≤ l.length ∧
     u_d c.Secs.length ⟨0,l⟩ =(a ++ (u_d (c.Secs.length - j) q).1,(u_d (c.Secs.length - j) q).2),fun n _=>c.Secs.length - n.toNat,⟨0,[],⟨0,l⟩,rfl,by omega,rfl,by rw[List.nil_append,Nat.sub_zero,←eO];exact hk1,hr1,Nat.le_refl _,rfl⟩,?_⟩
 rintro _ s2 ⟨j,a,q,rfl,hj,ha,hk2,hr2,hq,hrd⟩
 refine bcd (fun hlt=>?_) (fun hge=>?_)
 · have hlt:j < c.Secs.length:=by omega
   obtain ⟨m,hm⟩ :∃m,c.Secs.length - j=m+1:=⟨c.Secs.length - j - 1,by omega⟩
   have hm':c.Secs.length - (j+1) =m:=by omega
   rw[hm] at hk2 hrd
   rw[List.replicate_succ] at hk2
   refine (a_gd hr2 (by omega)).mono ?_
   rintro r s3 ⟨rfl,hr3,ho3⟩
   have hk3:=hk2.other hid hne ho3
   have hb:=a_p6
   have hn2:0≤(q.num 2).1∧(q.num 2).1 < 2 ^ 60:=by
     unfold Rd.num
     split
     · have:=a_p6 ((q.short 2).l.take 2) 0 (by omega)
       refine ⟨this.1,Int.lt_of_lt_of_le this.2 ?_⟩
       have e:∀m:Nat,(0+1:Int) * (256:Int) ^ m=((256 ^ m:Nat) :Int):=fun m=>by simp
       rw[e]
       have:256 ^ ((q.short 2).l.take 2).length≤256 ^ 2:=Nat.pow_le_pow_right (by omega) (by rw[List.length_take];omega)
       omega
     · exact ⟨Int.le_refl 0,by show (0:Int) < 2 ^ 60;decide⟩
   refine ⟨_,rfl,?_⟩
   rw[a_u (n:=(q.num 2).1 - 2) (by omega) (by omega)]
   refine hk3.own.at_.idxK (j:=j) c_int rfl (by simp;omega) (hk3.putO (k:= { k with Own:=a ++ -1::List.replicate m (-1) }) (j:=j) (x:= -1) (y:=(q.num 2).1 - 2) (by show (a ++ -1::List.replicate m (-1))[j]? =_;rw[←ha,List.getElem?_append_right (Nat.le_refl _),Nat.sub_self];rfl) (by omega) (by simp) rfl fun s4 hk4 ho4=>⟨by trivial,?_⟩)
   rw[a_o (by omega)]
   refine ⟨⟨j+1,a ++ [(q.num 2).1 - 2],(q.num 2).2,rfl,hlt,by simp[ha],?_,(ho4 id (hne _ (by simp))).trans hr3,Nat.le_trans (q.num_len 2) hq,?_⟩,c_w hlt⟩
   · rw[hm']
     have e:(a ++ -1::List.replicate m (-1)).set j ((q.num 2).1 - 2) =a ++ [(q.num 2).1 - 2] ++ List.replicate m (-1):=by rw[←ha,a_dz];simp
     rw[←e];exact hk4
   · rw[hm',hrd,u_d,List.append_assoc];rfl
 have e:j=c.Secs.length:=by omega
 subst e
 rw[Nat.sub_self,List.replicate_zero,List.append_nil] at hk2
 rw[Nat.sub_self,u_d,List.append_nil] at hrd
 refine hk2.routes.at_.lenK ?_
 rw[List.length_map,nR]
 refine ⟨fun n s => ∃ (j : Nat) (b : List Rs) (p : Rd), n = j ∧ j ≤ c.Rts.length ∧ b.length = j ∧ CoOwn σ s k0 k1 k2 k3 k4 k5 { k with Own := a, Routes := b ++ List.replicate (c.Rts.length - j) ⟨0, 0, 0, 0⟩ } ∧ p_a s id p ∧ p.l.length ≤ l.length ∧
     u_y c.Rts.length q=(b ++ (u_y (c.Rts.length - j) p).1,(u_y (c.Rts.length - j) p).2),fun n _=>c.Rts.length - n.toNat,⟨0,[],q,rfl,by omega,rfl,by rw[List.nil_append,Nat.sub_zero,←eR];exact hk2,hr2,hq,rfl⟩,?_⟩
 rintro _ s3 ⟨j,b,p,rfl,hj,hb,hk3,hr3,hp,hrt⟩
 refine bcd (fun hlt=>?_) (fun hge=>?_)
 · have hlt:j < c.Rts.length:=by omega
   obtain ⟨m,hm⟩ :∃m,c.Rts.length - j=m+1:=⟨c.Rts.length - j - 1,by omega⟩
   have hm':c.Rts.length - (j+1) =m:=by omega
   rw[hm] at hk3 hrt
   rw[List.replicate_succ] at hk3
   refine (r_n hr3 (by omega)).mono ?_
   rintro r s4 ⟨rfl,hr4,ho4⟩
   refine ⟨_,rfl,(r_n hr4 (by have:=p.num_len 1;omega)).mono ?_⟩
   rintro r s5 ⟨rfl,hr5,ho5⟩
   have hk5:=(hk3.other hid hne ho4).other hid hne ho5
   refine ⟨_,rfl,hk5.routes.at_.idxK (j:=j) a_x rfl (by simp;omega) (hk5.putR (k:= { k with Own:=a,Routes:=b ++ ⟨0,0,0,0⟩ ::List.replicate m ⟨0,0,0,0⟩ }) (j:=j) (x:=⟨0,0,0,0⟩) (y:=⟨(p.num 1).1,0,((p.num 1).2.num 1).1,0⟩) (by show (b ++ (⟨0,0,0,0⟩ :Rs) ::List.replicate m ⟨0,0,0,0⟩)[j]? =_;rw[←hb,List.getElem?_append_right (Nat.le_refl _),Nat.sub_self];rfl) (by omega) (by simp) rfl fun s6 hk6 ho6=>⟨by trivial,?_⟩)⟩
   rw[a_o (by omega)]
   refine ⟨⟨j+1,b ++ [⟨(p.num 1).1,0,((p.num 1).2.num 1).1,0⟩],((p.num 1).2.num 1).2,rfl,hlt,by simp[hb],?_,(ho6 id (hne _ (by simp))).trans hr5,Nat.le_trans ((p.num 1).2.num_len 1) (Nat.le_trans (p.num_len 1) hp),?_⟩,c_w hlt⟩
   · rw[hm']
     have e:(b ++ (⟨0,0,0,0⟩ :Rs) ::List.replicate m ⟨0,0,0,0⟩).set j ⟨(p.num 1).1,0,((p.num 1).2.num 1).1,0⟩ =b ++ [⟨(p.num 1).1,0,((p.num 1).2.num 1).1,0⟩] ++ List.replicate m ⟨0,0,0,0⟩:=by rw[←hb,a_dz];simp
     rw[←e];exact hk6
   · rw[hm',hrt,u_y,List.append_assoc];rfl
 have e:j=c.Rts.length:=by omega
 subst e
 rw[Nat.sub_self,List.replicate_zero,List.append_nil] at hk3
 rw[Nat.sub_self,u_y,List.append_nil] at hrt
 have hL4:(k.Lines.map Ls.enc).length=4:=by rw[eL];rfl
 refine hk3.lines.at_.sliceFromK (lo:=1) c_a rfl (by rw[hL4];omega) ?_
 rw[hL4]
 have hsub:=hk3.lines.at_.sub (lo:=1) (hi:=4) (by omega) (by rw[hL4];omega)
 refine hsub.lenK ?_
 have hsl:(((k.Lines.map Ls.enc).drop 1).take (4 - 1)).length=3:=by rw[List.length_take,List.length_drop,hL4];rfl
 rw[hsl]
 obtain ⟨N,hN⟩ :∃N:Nat,N=3:=⟨3,rfl⟩
 refine ⟨fun n s => ∃ (j : Nat) (d : List Ls) (p' : Rd), n = j ∧ j ≤ N ∧ d.length = j ∧ CoOwn σ s k0 k1 k2 k3 k4 k5 { k with Own := a, Routes := b, Lines := ⟨0, 0, 0, 0, 0, 0, 0, 0⟩ :: (d ++ List.replicate (N - j) ⟨0, 0, 0, 0, 0, 0, 0, 0⟩) } ∧ p_a s id p' ∧ p'.l.length ≤ l.length ∧
     u_v N p=(d ++ (u_v (N - j) p').1,(u_v (N - j) p').2),fun n _=>3 - n.toNat,⟨0,[],p,rfl,by omega,rfl,by rw[List.nil_append,Nat.sub_zero,←List.replicate_succ,hN,←eL];exact hk3,hr3,hp,rfl⟩,?_⟩
 rintro _ s4 ⟨j,d,p',rfl,hj,hd,hk4,hr4,hp',hln⟩
 refine bcd (fun hlt=>?_) (fun hge=>?_)
 · have hlt:j < N:=by omega
   obtain ⟨m,hm⟩ :∃m,N - j=m+1:=⟨N - j - 1,by omega⟩
   have hm':N - (j+1) =m:=by omega
   rw[hm] at hk4 hln
   rw[List.replicate_succ] at hk4
   refine (k_6 hr4 (by omega)).mono ?_
   rintro r s5 ⟨rfl,hr5,ho5⟩
   have n1:=p'.num_len 4
   refine ⟨_,rfl,(k_6 hr5 (by omega)).mono ?_⟩
   rintro r s6 ⟨rfl,hr6,ho6⟩
   have n2:=(p'.num 4).2.num_len 4
   refine ⟨_,rfl,(k_6 hr6 (by omega)).mono ?_⟩
   rintro r s7 ⟨rfl,hr7,ho7⟩
   have n3:=((p'.num 4).2.num 4).2.num_len 4
   have hk7:=((hk4.other hid hne ho5).other hid hne ho6).other hid hne ho7
   refine ⟨_,rfl,?_⟩
   rw[a_o (by omega)]
   refine hk7.lines.at_.idxK (j:=j+1) c_a rfl (by simp;omega) (hk7.putL (k:= { k with Own:=a,Routes:=b,Lines:=⟨0,0,0,0,0,0,0,0⟩ :: (d ++ ⟨0,0,0,0,0,0,0,0⟩ ::List.replicate m ⟨0,0,0,0,0,0,0,0⟩) }) (j:=j+1) (x:=⟨0,0,0,0,0,0,0,0⟩) (y:=ln3 (p'.num 4).1 ((p'.num 4).2.num 4).1 (((p'.num 4).2.num 4).2.num 4).1) (by show ((⟨0,0,0,0,0,0,0,0⟩ :Ls) :: (d ++ ⟨0,0,0,0,0,0,0,0⟩ ::List.replicate m ⟨0,0,0,0,0,0,0,0⟩))[j+1]? =_;rw[List.getElem?_cons_succ,←hd,List.getElem?_append_right (Nat.le_refl _),Nat.sub_self];rfl) (by omega) (by simp) rfl fun s8 hk8 ho8=>⟨by trivial,?_⟩)
   refine ⟨⟨j+1,d ++ [ln3 (p'.num 4).1 ((p'.num 4).2.num 4).1 (((p'.num 4).2.num 4).2.num 4).1],(((p'.num 4).2.num 4).2.num 4).2,rfl,hlt,by simp[hd],?_,(ho8 id (hne _ (by simp))).trans hr7,by omega,?_⟩,c_w (by omega)⟩
   · rw[hm']
     have e : ((⟨0, 0, 0, 0, 0, 0, 0, 0⟩ : Ls) :: (d ++ ⟨0, 0, 0, 0, 0, 0, 0, 0⟩ :: List.replicate m ⟨0, 0, 0, 0, 0, 0, 0, 0⟩)).set (j + 1) (ln3 (p'.num 4).1 ((p'.num 4).2.num 4).1 (((p'.num 4).2.num 4).2.num 4).1) =
         ⟨0,0,0,0,0,0,0,0⟩ :: (d ++ [ln3 (p'.num 4).1 ((p'.num 4).2.num 4).1 (((p'.num 4).2.num 4).2.num 4).1] ++ List.replicate m ⟨0,0,0,0,0,0,0,0⟩):=by rw[List.set_cons_succ,←hd,a_dz];simp
     rw[←e];exact hk8
   · rw[hm',hln,u_v,List.append_assoc];rfl
 have e:j=N:=by omega
 subst e
 rw[Nat.sub_self,List.replicate_zero,List.append_nil] at hk4
 rw[Nat.sub_self,u_v,List.append_nil] at hln
 subst hN
 have hQ:c.loadQ now l=(⟨a,b,k.Points,k.Xs,⟨0,0,0,0,0,0,0,0⟩ ::d,k.Resets,true⟩,p'):=by
   simp only[Cf.loadQ,hkk,hrd,hrt,hln]
 have hkq:CoOwn σ s4 k0 k1 k2 k3 k4 k5 ⟨a,b,k.Points,k.Xs,⟨0,0,0,0,0,0,0,0⟩ ::d,k.Resets,true⟩:=⟨hk4.own,hk4.routes,hk4.points,hk4.xs,hk4.lines,hk4.resets,hk4.apart⟩
 have bad : ∀ s, Ext σ s → ¬ (p'.e = 0 ∧ p'.l = [] ∧ Co.fits c ⟨a, b, k.Points, k.Xs, ⟨0, 0, 0, 0, 0, 0, 0, 0⟩ :: d, k.Resets, true⟩ = true ∧ tm 0 now = true) →
     CoPost σ (c.loadC now l) (.tup [.agg [.nils, .nils, .nils, .nils, .nils, .nils, .bool false],iA 3]) s:=fun s he hn=>by
   rw[Cf.loadC,hQ,if_neg hn]
   have ap:∀l:List D,(∀d ∈ l,d= .nils)→l.Pairwise Apart:=by
     intro l
     induction l with
     | nil=>intro _;exact .nil
     | cons x l ih=>intro h;exact .cons (fun y hy id h1=>by rw[h x (by simp)] at h1;cases h1) (ih fun d hd=>h d (by simp[hd]))
   exact ⟨.nils, .nils, .nils, .nils, .nils, .nils,rfl, .nil _ he, .nil _ he, .nil _ he, .nil _ he, .nil _ he, .nil _ he,ap _ (by simp)⟩
 intro R hR
 refine (a_hr hr4).use ⟨_,rfl,bcn (fun e=>bad s4 hkq.own.ext fun g=>?_) (fun e=>?_)⟩
 · rw[if_neg (fun g2=>g2.2 g.2.1)] at e;exact e g.1
 have hp0:p'.e=0∧p'.l=[]:=by
   by_cases h2:p'.e=0∧p'.l≠[]
   · rw[if_pos h2] at e;cases e
   · rw[if_neg h2] at e
     exact ⟨e,Classical.byContradiction fun h3=>h2 ⟨e,h3⟩⟩
 refine (e_9 h hkq.at).use ⟨_,rfl,a_q (fun e=>bad s4 hkq.own.ext fun g=>by rw[g.2.2.1] at e;cases e) (fun hfit=>a_e fun id5 s5 hid5 _ he5 hs5=>?_)⟩
 have hk5:=hkq.ext' he5
 refine (e_j (l:= [now]) 0 (by omega) (At.fresh (rs:= [Go.Fw.encI now]) hs5 (by simp) rfl)).use ⟨_,rfl,?_⟩
 rw[show ([now].all fun n=>decide (0≤n∧n≤4294967295+0)) =tm 0 now by simp[tm]]
 refine a_q (fun e=>bad s5 hk5.own.ext fun g=>by rw[g.2.2.2] at e;cases e) (fun htm=>⟨by trivial,hR _ _ _ _ _ _ _ s5 ?_⟩)
 refine hk5.routes.at_.lenK ?_
 rw[List.length_map,hb]
 refine ⟨fun n s=>∃j:Nat,n=j∧j≤c.Rts.length∧CoOwn σ s k0 k1 k2 k3 k4 k5 ⟨a,(b.take j).map f_j ++ b.drop j,k.Points,k.Xs,⟨0,0,0,0,0,0,0,0⟩ ::d,k.Resets,true⟩,fun n _=>c.Rts.length - n.toNat,⟨0,rfl,by omega,by simpa using hk5⟩,?_⟩
 rintro _ s6 ⟨j,rfl,hj,hk6⟩
 refine bcd (fun hlt=>?_) (fun hge=>?_)
 · have hlt:j < c.Rts.length:=by omega
   obtain ⟨x,hx⟩:=a_i (l:=b) (j:=j) (by omega)
   have hln1:((b.take j).map f_j).length=j:=by rw[List.length_map,List.length_take];omega
   have hdx:b.drop j=x::b.drop (j+1):=by
     have hlt':=(List.getElem?_eq_some_iff.1 hx)
     rw[List.drop_eq_getElem_cons hlt'.1,hlt'.2]
   have hxj:((b.take j).map f_j ++ b.drop j)[j]? =some x:=by
     rw[List.getElem?_append_right (by omega),hln1,Nat.sub_self,hdx];rfl
   have next : ∀ y : Rs, y = f_j x → ∀ s7, CoOwn σ s7 k0 k1 k2 k3 k4 k5 ⟨a, ((b.take j).map f_j ++ b.drop j).set j y, k.Points, k.Xs, ⟨0, 0, 0, 0, 0, 0, 0, 0⟩ :: d, k.Resets, true⟩ →
       (∃j':Nat,w64 ((j:Int) +1) =j'∧j'≤c.Rts.length∧CoOwn σ s7 k0 k1 k2 k3 k4 k5 ⟨a,(b.take j').map f_j ++ b.drop j',k.Points,k.Xs,⟨0,0,0,0,0,0,0,0⟩ ::d,k.Resets,true⟩)∧c.Rts.length - (w64 ((j:Int) +1)).toNat < c.Rts.length - (j:Int).toNat:=fun y hy s7 h7=>by
     rw[a_o (by omega)]
     refine ⟨⟨j+1,rfl,hlt,?_⟩,c_w hlt⟩
     have e:((b.take j).map f_j ++ b.drop j).set j y=(b.take (j+1)).map f_j ++ b.drop (j+1):=by
       rw[hdx,hy]
       have:=a_dz ((b.take j).map f_j) (b.drop (j+1)) x (f_j x)
       rw[hln1] at this
       rw[this,List.take_add_one,hx];simp
     rw[←e];exact h7
   refine hk6.routes.at_.load (a_c hxj) a_x rfl ⟨x.State,x.Since,x.Next,x.Mark,rfl,bce (fun h0=>?_) (fun h0=>?_)⟩
   · exact hk6.routes.at_.idxK (j:=j) a_x rfl (by simp;omega) (hk6.putR (k:=⟨a,(b.take j).map f_j ++ b.drop j,k.Points,k.Xs,⟨0,0,0,0,0,0,0,0⟩ ::d,k.Resets,true⟩) (j:=j) (x:=x) (y:=⟨0,0,0,0⟩) hxj (by omega) (by simp) rfl fun s7 h7 _=>⟨by trivial,next _ (by rw[f_j,if_pos h0]) s7 h7⟩)
   · exact hk6.routes.at_.idxK (j:=j) a_x rfl (by simp;omega) (hk6.putR (k:=⟨a,(b.take j).map f_j ++ b.drop j,k.Points,k.Xs,⟨0,0,0,0,0,0,0,0⟩ ::d,k.Resets,true⟩) (j:=j) (x:=x) (y:=⟨5,0,x.Next,0⟩) hxj (by omega) (by simp) rfl fun s7 h7 _=>⟨by trivial,next _ (by rw[f_j,if_neg h0]) s7 h7⟩)
 have e:j=c.Rts.length:=by omega
 subst e
 rw[←hb,List.take_length,List.drop_length,List.append_nil] at hk6
 rw[Cf.loadC,hQ,if_pos ⟨hp0.1,hp0.2,hfit,htm⟩]
 exact ⟨_,_,_,_,_,_,rfl,hk6.own,hk6.routes,hk6.points,hk6.xs,hk6.lines,hk6.resets,hk6.apart⟩
end
end Go.Proofs.YtdmfnhbmhkgemaaGreat
namespace Go.Fw
section
/-! movers behind commands -/
theorem w_l {now:Int} :∀{l:List Nd} {w:List Mv} {s:Int},(∀n ∈ l,0≤n.Sec)→s ∉ l.map Nd.Sec→a_k (j_w now l w) s=a_k w s
 | [],w,s,_,_=>rfl
 | n::l,w,s,h,hs=>by
   unfold j_w
   rw[List.foldl_cons]
   have ih:=w_l (now:=now) (l:=l) (w:=w.set n.Sec.toNat (g_k ((a_k w n.Sec).getD ⟨0,0⟩) now n.Pos)) (s:=s) (fun x hx=>h x (by simp[hx])) (fun e=>hs (by simp[List.mem_map] at e ⊢;exact .inr e))
   unfold j_w at ih
   rw[ih,c_i (h n (by simp)) (fun e=>hs (by simp[e]))]
theorem a_ns {now:Int} :∀{l:List Nd} {w:List Mv},(l.map Nd.Sec).Nodup→(∀n ∈ l,0≤n.Sec∧n.Sec < w.length)→∀n ∈ l,d_y (j_w now l w) n.Sec=n.Pos
 | x::l,w,hnd,hr,n,hn=>by
   rw[List.map_cons,List.nodup_cons] at hnd
   have h0:=hr x (by simp)
   rcases List.mem_cons.1 hn with rfl | hn'
   · have e:=w_l (now:=now) (l:=l) (w:=w.set n.Sec.toNat (g_k ((a_k w n.Sec).getD ⟨0,0⟩) now n.Pos)) (s:=n.Sec) (fun y hy=>(hr y (by simp[hy])).1) hnd.1
     unfold j_w at e ⊢
     rw[List.foldl_cons]
     unfold d_y
     rw[e,d_e h0.1 h0.2]
     exact z_d _ _ _
   · have ih:=a_ns (now:=now) (l:=l) (w:=w.set x.Sec.toNat (g_k ((a_k w x.Sec).getD ⟨0,0⟩) now x.Pos)) hnd.2 (fun y hy=>by rw[List.length_set];exact hr y (by simp[hy])) n hn'
     unfold j_w at ih ⊢
     rw[List.foldl_cons];exact ih
theorem a_gp {now:Int} :∀{l:List Int} {w:List Mv} {i:Int},(∀j ∈ l,0≤j)→0≤i→d_y w i=1→d_y (xsC now l w) i=1
 | [],w,i,_,_,h=>h
 | j::l,w,i,hl,hi,h=>by
   have ih:=a_gp (now:=now) (l:=l) (w:=w.set j.toNat (g_k ((a_k w j).getD ⟨0,0⟩) now 1)) (i:=i) (fun x hx=>hl x (by simp[hx])) hi (by
     unfold d_y
     rw[k_8 (hl j (by simp))]
     split
     · exact z_d _ _ _
     · exact h)
   unfold xsC at ih ⊢
   rw[List.foldl_cons];exact ih
theorem a_sj {now:Int} :∀{l:List Int} {w:List Mv},(∀j ∈ l,0≤j∧j < w.length)→∀i ∈ l,d_y (xsC now l w) i=1
 | j::l,w,hl,i,hi=>by
   have h0:=hl j (by simp)
   rcases List.mem_cons.1 hi with rfl | hi'
   · have e := a_gp (now := now) (l := l) (w := w.set i.toNat (g_k ((a_k w i).getD ⟨0, 0⟩) now 1)) (i := i) (fun x hx => (hl x (by simp [hx])).1) h0.1 (by
       unfold d_y;rw[d_e h0.1 h0.2];exact z_d _ _ _)
     unfold xsC at e ⊢
     rw[List.foldl_cons];exact e
   · have ih:=a_sj (now:=now) (l:=l) (w:=w.set j.toNat (g_k ((a_k w j).getD ⟨0,0⟩) now 1)) (fun x hx=>by rw[List.length_set];exact hl x (by simp[hx])) i hi'
     unfold xsC at ih ⊢
     rw[List.foldl_cons];exact ih
theorem s_h (c:Cf) :∀l:List St,List.Sublist ((l.filterMap (e_m c)).map Nd.Sec) (l.map St.Sec)
 | []=> .slnil
 | s::l=>by
   have ih:=s_h c l
   cases hn:e_m c s with
   | none=>rw[List.filterMap_cons_none hn];exact ih.cons _
   | some n=>
     rw[List.filterMap_cons_some hn,List.map_cons,List.map_cons]
     have:n.Sec=s.Sec:=by
       unfold e_m at hn
       split at hn
       · cases hn
       · split at hn
         · cases hn
         · split at hn
           · cases hn
           · injection hn with hn;rw[←hn]
     rw[this];exact ih.cons_cons _
theorem a_nf {c:Cf}{r:Rt}(h:RtOk c r) :((c.needs r).map Nd.Sec).Nodup:=by
 unfold Cf.needs
 rw[List.map_append,List.nodup_append]
 refine ⟨(s_h c r.Path).nodup h.dup,h.fl.2,fun a ha b hb e=>?_⟩
 subst e
 have ha:=(s_h c r.Path).subset ha
 obtain ⟨s,hs,rfl⟩:=List.mem_map.1 ha
 obtain ⟨n,hn,hn2⟩:=List.mem_map.1 hb
 have:=(h.fl.1 n hn).path
 unfold d_n at this
 rw[List.any_eq_false] at this
 exact this s hs (by simp[hn2])
structure OneIs (c:Cf) (k:Co) (a:Nat) :Prop where
 fit:k.fits c=true
 own:∀s ∈ c.lockL a,a_k k.Own s=some ((a:Int) +1)
 owns:∀o ∈ k.Own,o=0∨o=(a:Int) +1
 st:c_3 k a=1
 oth:∀j:Nat,j≠a→c_3 k j=0
 pts:∀n ∈ c.Needs a,d_y k.Points n.Sec=n.Pos
 xs:∀i ∈ c.Cross a,d_y k.Xs i=1
 lns:∀l:Nat,((k.Lines[l]?).getD zLs).Done=0∧0≤((k.Lines[l]?).getD zLs).Ask∧((k.Lines[l]?).getD zLs).Told=0∧((k.Lines[l]?).getD zLs).Grant=0
theorem a_d4 {c:Cf}{a:Int}{x:Rt}(hx:a_k c.Rts a=some x){s:St}(hs:s ∈ x.Path) :s.Sec ∈ c.lockL a:=by
 unfold Cf.lockL;rw[hx];exact mem_lockR.2 (.inr (.inl (List.mem_map.2 ⟨s,hs,rfl⟩)))
end
section
theorem a_ry {x:Rs}{r:Rt}(h:Rs.fits (x,r) =true) :Rs.fits (f_j ⟨x.State,0,x.Next,0⟩,r) =true:=by
 simp only[Rs.fits,Bool.and_eq_true,decide_eq_true_eq] at h ⊢
 unfold f_j
 simp only
 split
 · exact ⟨⟨by decide,by simp⟩,by decide⟩
 · exact ⟨⟨by show (0:Int)≤5∧(5:Int)≤5;decide,h.1.2⟩,by show tm 0 0=true∧tm 0 0=true;decide⟩
theorem a_tt {c:Cf}{k:Co}(h:FitIs c k){now:Int}(hn:tm 0 now=true) :(k.backK c now).fits c=true:=by
 have hnew:=fits_iff.1 (a_ev h.chk hn)
 have l3:((k.Lines.drop 1).take 3).length=3:=by rw[List.length_take,List.length_drop,h.lLn];rfl
 refine fits_iff.2 ⟨h.chk,h.lOwn,hnew.lPts,hnew.lRes,by show (k.Routes.map _).length=_;rw[List.length_map];exact h.lRts,hnew.lXs,by show (_:: ((k.Lines.drop 1).take 3).map _:List Ls).length=4;rw[List.length_cons,List.length_map,l3],h.own,fun i x r hi hr=>?_,hnew.pts,hnew.xs,fun l hl=>?_,hnew.res⟩
 · have hi:(k.Routes.map (fun r=>f_j ⟨r.State,0,r.Next,0⟩))[i]? =some x:=hi
   rw[List.getElem?_map,Option.map_eq_some_iff] at hi
   obtain ⟨y,hy,rfl⟩:=hi
   exact a_ry (h.rts i y r hy hr)
 · have hl:l ∈ (⟨0,0,0,0,0,0,0,0⟩ :Ls) :: ((k.Lines.drop 1).take 3).map (fun x=>ln3 x.Ask x.Done x.Grant):=hl
   simp only[List.mem_cons,List.mem_map] at hl
   rcases hl with rfl | ⟨x,hx,rfl⟩
   · decide
   · have:=h.lns x (List.mem_of_mem_drop (List.mem_of_mem_take hx))
     simp only[Ls.fits,Bool.and_eq_true,ln3] at this ⊢
     exact ⟨⟨this.1.1,this.1.2.1,this.1.2.2.1,this.1.2.2.1,by decide,by decide,by decide⟩,by decide⟩
end
section
structure Inv (c:Cf) (k:Co) :Prop where
 fit:FitIs c k
 own:∀(r:Nat) x,c.Rts[r]? =some x→∀s ∈ x.Path.drop (e_h k r x.Path.length),a_m k s.Sec=(r:Int) +1
 idle:∀(s:Int) (r:Nat),a_m k s=(r:Int) +1→c_3 k r≠0
 pts:∀(r:Nat) x,c.Rts[r]? =some x→f_5 (c_3 k r) =true→∀n ∈ c.needs x,a_m k n.Sec=(r:Int) +1→d_y k.Points n.Sec=n.Pos
 gat:∀(r:Nat) x,c.Rts[r]? =some x→c_3 k r≠0→∀i ∈ c_o x.Path c.Xs 0,a_m k (xAt c i) =(r:Int) +1→d_y k.Xs i=1
 lns:∀line:Nat,0≤c.lineSec line→(lnG k.Lines line).Done≤(lnG k.Lines line).Ask∧(lnG k.Lines line).Told≤(lnG k.Lines line).Grant∧(a_m k (c.lineSec line) = -2→(lnG k.Lines line).Ask=(lnG k.Lines line).Done)
theorem y_7 (w:List Ls)(l:Nat) :lnG w l=(w[l]?).getD zLs:=by unfold lnG;rw[e_p]
theorem Inv.mild {c:Cf}{k k':Co}(h:Inv c k)(hf:FitIs c k')(o:∀s,0 < a_m k' s→a_m k' s=a_m k s)
   (a:∀(r:Nat) x,c.Rts[r]? =some x→e_h k r x.Path.length≤e_h k' r x.Path.length)
   (b:∀(r:Nat) x,c.Rts[r]? =some x→∀s ∈ x.Path.drop (e_h k' r x.Path.length),a_m k s.Sec=(r:Int) +1→a_m k' s.Sec=a_m k s.Sec)
   (i:∀r:Nat,c_3 k r≠0→c_3 k' r≠0∨∀s,a_m k' s≠(r:Int) +1)
   (p:∀r:Nat,f_5 (c_3 k' r) =true→f_5 (c_3 k r) =true∧∀s,0 < a_m k' s→d_y k'.Points s=d_y k.Points s)
   (g1:∀r:Nat,c_3 k' r≠0→c_3 k r≠0)
   (g2:∀i x,i ∈ c_o (x:Rt).Path c.Xs 0→0 < a_m k' (xAt c i)→d_y k.Xs i=1→d_y k'.Xs i=1)
   (l:∀line:Nat,0≤c.lineSec line→(lnG k'.Lines line).Done≤(lnG k'.Lines line).Ask∧(lnG k'.Lines line).Told≤(lnG k'.Lines line).Grant∧(a_m k' (c.lineSec line) = -2→(lnG k'.Lines line).Ask=(lnG k'.Lines line).Done)) :Inv c k' where
 fit:=hf
 own r x hx s hs:=by
   have hin:s ∈ x.Path.drop (e_h k r x.Path.length):=(List.drop_sublist_drop_left x.Path (a r x hx)).subset hs
   have:=h.own r x hx s hin
   rw[b r x hx s hs this];exact this
 idle s r hs:=by
   have h1:=h.idle s r (by rw[←o s (by omega)];exact hs)
   rcases i r h1 with h2 | h2
   · exact h2
   · exact absurd hs (h2 s)
 pts r x hx hr n hn ho:=by
   obtain ⟨h1,h2⟩:=p r hr
   rw[h2 _ (by omega)]
   exact h.pts r x hx h1 n hn (by rw[←o _ (by omega)];exact ho)
 gat r x hx hr i hi ho:=g2 i x hi (by omega) (h.gat r x hx (g1 r hr) i hi (by rw[←o _ (by omega)];exact ho))
 lns:=l
/-! what the parts of a state read as -/
theorem h_n (k:Co)(r:Int) :c_3 k r=(rsG k.Routes r).State:=by
 unfold c_3 rsG;cases a_k k.Routes r <;> rfl
theorem a_s6 (k:Co)(r:Int) :q_m k r=(rsG k.Routes r).Next:=by
 unfold q_m rsG;cases a_k k.Routes r <;> rfl
theorem a_s2 (k:Co)(r len:Nat) :e_h k r len=if f_5 (rsG k.Routes r).State=true then 0 else if inL [4,5] (rsG k.Routes r).State=true then (rsG k.Routes r).Next.toNat else len:=by
 unfold e_h;rw[h_n,a_s6]
theorem i_v {l:List Rs}{r t:Int}{x:Rs}(hr:0≤r)(hl:r < l.length) :rsG (l.set r.toNat x) t=if t=r then x else rsG l t:=by
 unfold rsG
 rw[k_8 hr]
 by_cases e:t=r
 · rw[if_pos ⟨e,hl⟩,if_pos e];rfl
 · rw[if_neg (fun h=>e h.1),if_neg e]
theorem s_u {k:Co}{s t o:Int}{w:List Int}(hw:w=k.Own.set s.toNat o)(hs:0≤s)(hl:s < k.Own.length) :(a_k w t).getD 0=if t=s then o else a_m k t:=by
 unfold a_m
 rw[hw,k_8 hs]
 by_cases e:t=s
 · rw[if_pos ⟨e,hl⟩,if_pos e];rfl
 · rw[if_neg (fun h=>e h.1),if_neg e]
theorem a_my {w:List Ls}{l t:Int}{x:Ls}(hl:0≤l)(h:l < w.length) :lnG (w.set l.toNat x) t=if t=l then x else lnG w t:=by
 unfold lnG
 rw[k_8 hl]
 by_cases e:t=l
 · rw[if_pos ⟨e,h⟩,if_pos e];rfl
 · rw[if_neg (fun h=>e h.1),if_neg e]
theorem f_w (n:Int) :f_5 n=true↔n=1∨n=2∨n=3:=by
 unfold f_5 inL
 simp only[decide_eq_true_eq,List.mem_cons,List.not_mem_nil,or_false]
theorem a_nr (n:Int) :inL [4,5] n=true↔n=4∨n=5:=by
 unfold inL
 simp only[decide_eq_true_eq,List.mem_cons,List.not_mem_nil,or_false]
def frm (x:Rs)(len:Nat) :Nat:=if f_5 x.State=true then 0 else if inL [4,5] x.State=true then x.Next.toNat else len
theorem e_a (k:Co)(r len:Nat) :e_h k r len=frm (rsG k.Routes r) len:=a_s2 k r len
theorem Inv.route {c:Cf}{k:Co}{r:Int}{y:Rs}{d:Bool}(h:Inv c k)(hf:FitIs c { k with Routes:=k.Routes.set r.toNat y,Dirty:=d })(hr:0≤r)(hl:r < k.Routes.length)(h0:(rsG k.Routes r).State≠0)(hy:y.State≠0)
   (hrun:f_5 y.State=true→f_5 (rsG k.Routes r).State=true) (hfr:∀x,c.Rts[r.toNat]? =some x→frm (rsG k.Routes r) x.Path.length≤frm y x.Path.length) :Inv c { k with Routes:=k.Routes.set r.toNat y,Dirty:=d } :=by
 have hs:∀t:Int,c_3 { k with Routes:=k.Routes.set r.toNat y,Dirty:=d } t=if t=r then y.State else c_3 k t:=fun t=>by
   rw[h_n,h_n,i_v hr hl];split <;> rfl
 refine h.mild hf (fun s _=>rfl) (fun q x hx=>?_) (fun q x hx s hs _=>rfl) (fun q hq=> .inl ?_) (fun q hq=>⟨?_,fun _ _=>rfl⟩) (fun q hq=>?_) (fun _ _ _ _ hc=>hc) h.lns
 · rw[e_a,e_a]
   show frm _ _≤frm (rsG (k.Routes.set r.toNat y) q) _
   rw[i_v hr hl]
   split
   · rename_i e
     have:=hfr x (by rw[←e];exact hx)
     rw[e];exact this
   · exact Nat.le_refl _
 · rw[hs];split
   · exact hy
   · exact hq
 · rw[hs] at hq
   split at hq
   · rename_i e;rw[h_n,e];exact hrun hq
   · exact hq
 · rw[hs] at hq
   split at hq
   · rename_i e;rw[h_n,e];exact h0
   · exact hq
theorem a_pj (k:Co)(r to now:Int) :k.leadY r to now= { k with Routes:=k.Routes.set r.toNat (if to=4 then ⟨to,now,(rsG k.Routes r).Next,0⟩ else { rsG k.Routes r with State:=to }),Dirty:=if to=4 then true else k.Dirty } :=by
 unfold Co.leadY
 simp only
 split
 · rfl
 · rfl
theorem Inv.lead {c:Cf}{k:Co}{r to now:Int}{fr:List Int}(h:Inv c k)(hn:tm 0 now=true)(he:k.leadE r fr=0)(ht:(to=4∧(fr=[1,2,3]∨fr=[5]))∨(to=1∧fr=[3])) :Inv c (k.leadY r to now):=by
 have hf:=fits_iff.1 (a_tz (fits_iff.2 h.fit) hn (by rcases ht with ⟨rfl,_⟩ | ⟨rfl,_⟩ <;> omega:0≤to∧to≤5) he)
 unfold Co.leadE at he
 split at he
 · cases he
 rename_i x hx
 have hg:=a_l hx
 have hl:=(List.getElem?_eq_some_iff.1 hg.2.2).1
 have hrx:rsG k.Routes r=x:=by unfold rsG;rw[hx];rfl
 have hin:inL fr x.State=true:=by
   cases hi:inL fr x.State with
   | true=>rfl
   | false=>rw[if_pos hi] at he;cases he
 rw[a_pj] at hf ⊢
 have h123:inL [1,2,3] x.State=true→f_5 x.State=true:=fun h=>h
 have h3:inL [3] x.State=true→x.State=3:=fun h=>by unfold inL at h;simpa[eq_comm] using h
 have h5:inL [5] x.State=true→x.State=5:=fun h=>by unfold inL at h;simpa[eq_comm] using h
 rcases ht with ⟨rfl,hfr⟩ | ⟨rfl,rfl⟩
 · rw[if_pos rfl,if_pos rfl] at hf ⊢
   refine h.route hf hg.1 (by omega) ?_ (by simp) (fun e=>by simp[f_5,inL] at e) (fun z hz=>?_)
   · rw[hrx]
     rcases hfr with rfl | rfl
     · have:=(f_w _).1 (h123 hin);omega
     · have:=h5 hin;omega
   · rw[hrx]
     rcases hfr with rfl | rfl
     · have:=h123 hin
       unfold frm;rw[if_pos this];exact Nat.zero_le _
     · have e5:=h5 hin
       unfold frm
       rw[if_neg (by rw[e5];decide),if_pos (by rw[e5];decide),if_neg (show ¬f_5 4=true by decide),if_pos (show inL [4,5] 4=true by decide)]
       exact Nat.le_refl _
 · have e3:=h3 hin
   rw[if_neg (by decide),if_neg (by decide)] at hf ⊢
   refine h.route hf hg.1 (by omega) (by rw[hrx];omega) (by simp) (fun _=>by rw[hrx,e3];decide) (fun z hz=>?_)
   rw[hrx]
   unfold frm
   rw[if_pos (by rw[e3];decide)]
   exact Nat.zero_le _
end
section
variable {c:Cf} {k:Co} {v:Vw} {now:Int}
theorem a_vm {r:Int}{x:Rt}(hr:0≤r)(hx:c.Rts[r.toNat]? =some x) :c.pathS r=x.Path.map St.Sec:=by unfold Cf.pathS;rw[a_ue hr hx]
theorem Inv.goOn (h:Inv c k)(hn:tm 0 now=true){r:Int}(hr:0≤r)(hl:r < k.Routes.length)(h4:(rsG k.Routes r).State=4) :Inv c (k.goOn c v now r)∧(rsG (k.goOn c v now r).Routes r).State=4:=by
 have hf:=s_v (v:=v) h.fit hn hr
 obtain ⟨x,hx⟩:=a_i (l:=c.Rts) (j:=r.toNat) (by have:=h.fit.lRts;omega)
 have hp:=a_vm hr hx
 unfold Co.goOn at hf ⊢
 cases hgp:a_k (c.pathS r) (rsG k.Routes r).Next with
 | none=>simp only;exact ⟨h,h4⟩
 | some s=>
   rw[hgp] at hf
   simp only at hf ⊢
   have hgs:=a_l hgp
   have hsr:=y_v h.fit.chk hgs.2.2
   have hfrm:∀(y:Rs) (n:Nat),y.State=4→frm y n=y.Next.toNat:=fun y n hy=>by
     unfold frm;rw[if_neg (by rw[hy];decide),if_pos (by rw[hy];decide)]
   split at hf
   · rename_i ho
     rw[if_pos ho]
     refine ⟨h.route (d:=k.Dirty) (y:= { rsG k.Routes r with Next:=(rsG k.Routes r).Next+1 }) hf hr hl (by rw[h4];decide) (by show (rsG k.Routes r).State≠0;rw[h4];decide) (fun e=>e) (fun z hz=>?_),?_⟩
     · rw[hfrm _ _ h4,hfrm _ _ (show ({ rsG k.Routes r with Next:=(rsG k.Routes r).Next+1 } :Rs).State=4 from h4)]
       show (rsG k.Routes r).Next.toNat≤((rsG k.Routes r).Next+1).toNat
       omega
     · show (rsG (k.Routes.set r.toNat _) r).State=4
       rw[i_v hr hl,if_pos rfl];exact h4
   · rename_i ho
     have ho:e_8 k.Own s=r+1:=Classical.byContradiction ho
     have hos:a_m k s=r+1:=ho
     rw[if_neg (fun g=>g ho)]
     split at hf
     · rename_i hcl
       rw[if_pos hcl]
       have hlo:s < k.Own.length:=by have:=h.fit.lOwn;omega
       have hown:∀t,a_m { k with Own:=k.Own.set s.toNat 0,Dirty:=true,Routes:=k.Routes.set r.toNat { rsG k.Routes r with Next:=(rsG k.Routes r).Next+1,Mark:=now } } t=if t=s then 0 else a_m k t:=fun t=>s_u rfl hsr.1 hlo
       have hst:∀t,c_3 { k with Own:=k.Own.set s.toNat 0,Dirty:=true,Routes:=k.Routes.set r.toNat { rsG k.Routes r with Next:=(rsG k.Routes r).Next+1,Mark:=now } } t=c_3 k t:=fun t=>by
         rw[h_n,h_n,i_v hr hl]
         split
         · rename_i e;rw[e]
         · rfl
       refine ⟨h.mild hf (fun t ht=>?_) (fun q z hz=>?_) (fun q z hz st hst' hoq=>?_) (fun q hq=> .inl (by rw[hst];exact hq)) (fun q hq=>⟨by rw[hst] at hq;exact hq,fun _ _=>rfl⟩) (fun q hq=>by rw[hst] at hq;exact hq) (fun _ _ _ _ hc=>hc) (fun line hline=>?_),?_⟩
       · rw[hown] at ht ⊢
         split at ht
         · omega
         · rename_i e;rw[if_neg e]
       · rw[e_a,e_a]
         show _≤frm (rsG (k.Routes.set r.toNat _) q) _
         rw[i_v hr hl]
         split
         · rename_i e
           rw[e,hfrm _ _ h4,hfrm _ _ (show ({ rsG k.Routes r with Next:=(rsG k.Routes r).Next+1,Mark:=now } :Rs).State=4 from h4)]
           show (rsG k.Routes r).Next.toNat≤((rsG k.Routes r).Next+1).toNat
           omega
         · exact Nat.le_refl _
       · rw[hown,if_neg]
         intro e
         rw[e,hos] at hoq
         have hqr:(q:Int) =r:=by omega
         have hzx:z=x:=by
           have:c.Rts[r.toNat]? =some z:=by rw[←hqr];exact hz
           rw[hx] at this;injection this with this;exact this.symm
         subst hzx
         rw[e_a] at hst'
         have e2:(rsG (k.Routes.set r.toNat ({ rsG k.Routes r with Next:=(rsG k.Routes r).Next+1,Mark:=now } :Rs)) q) = { rsG k.Routes r with Next:=(rsG k.Routes r).Next+1,Mark:=now } :=by rw[i_v hr hl,if_pos hqr]
         have hst':st ∈ z.Path.drop (frm (rsG (k.Routes.set r.toNat ({ rsG k.Routes r with Next:=(rsG k.Routes r).Next+1,Mark:=now } :Rs)) q) z.Path.length):=hst'
         rw[e2,hfrm _ _ (show ({ rsG k.Routes r with Next:=(rsG k.Routes r).Next+1,Mark:=now } :Rs).State=4 from h4)] at hst'
         obtain ⟨i,hi⟩:=List.mem_iff_getElem?.1 hst'
         rw[List.getElem?_drop] at hi
         have hnd:=a_q5 h.fit.chk r
         rw[hp] at hnd
         have hi1:(z.Path.map St.Sec)[((rsG k.Routes r).Next+1).toNat+i]? =some s:=by
           rw[List.getElem?_map]
           have hi:z.Path[((rsG k.Routes r).Next+1).toNat+i]? =some st:=hi
           rw[hi,←e];rfl
         have hi2:=hgs.2.2
         rw[hp] at hi2
         have hlt1:=(List.getElem?_eq_some_iff.1 hi1)
         have hlt2:=(List.getElem?_eq_some_iff.1 hi2)
         have:=(List.getElem_inj (h₀:=hlt1.1) (h₁:=hlt2.1) hnd).1 (by rw[hlt1.2,hlt2.2])
         have:=hgs.1
         omega
       · obtain ⟨h1,h2,h3⟩:=h.lns line hline
         refine ⟨h1,h2,fun e=>?_⟩
         rw[hown] at e
         split at e
         · omega
         · exact h3 e
       · show (rsG (k.Routes.set r.toNat _) r).State=4
         rw[i_v hr hl,if_pos rfl];exact h4
     · rename_i hcl
       rw[if_neg hcl]
       exact ⟨h,h4⟩
theorem a_p2 {o:Int}{l:List Int}(s:Int)(ho:o≠0) :(a_k (b_6 o l) s).getD 0=if (a_k l s).getD 0=o then 0 else (a_k l s).getD 0:=by
 unfold b_6
 rw[z_a]
 cases a_k l s with
 | none=>simp
 | some z=>simp only[Option.map_some,Option.getD_some]
theorem a_vq {n:Int}{w:List Ls}(hn:0≤n)(hl:n < w.length)(l:Int) :lnG (i_4 n w) l=if n > 0∧l=n then { lnG w n with Done:=(lnG w n).Ask } else lnG w l:=by
 unfold i_4
 by_cases h:n > 0
 · rw[if_pos h,a_my hn hl]
   by_cases e:l=n
   · rw[if_pos e,if_pos ⟨h,e⟩]
   · rw[if_neg e,if_neg (fun g=>e g.2)]
 · rw[if_neg h,if_neg (fun g=>h g.1)]
theorem Inv.endR (h:Inv c k){r:Int}(hr:0≤r)(hl:r < k.Routes.length) :Inv c (k.endR c r):=by
 have hf:=a_jk h.fit hr
 have hown:∀t,a_m (k.endR c r) t=if a_m k t=r+1 then 0 else a_m k t:=fun t=>a_p2 t (by omega)
 have hrs:∀t,rsG (k.endR c r).Routes t=if t=r then ⟨0,0,0,0⟩ else rsG k.Routes t:=fun t=>i_v hr hl
 have hst:∀t,c_3 (k.endR c r) t=if t=r then 0 else c_3 k t:=fun t=>by rw[h_n,h_n,hrs];split <;> rfl
 have hln:=x_r h.fit.chk (c.rt r).Path
 refine h.mild hf (fun t ht=>?_) (fun q z hz=>?_) (fun q z hz st hst' hoq=>?_) (fun q hq=>?_) (fun q hq=>⟨?_,fun _ _=>rfl⟩) (fun q hq=>?_) (fun _ _ _ _ hc=>hc) (fun line hline=>?_)
 · rw[hown] at ht ⊢
   split at ht
   · omega
   · rename_i e;rw[if_neg e]
 · rw[e_a,e_a,hrs]
   split
   · rename_i e
     have hlt:=(List.getElem?_eq_some_iff.1 hz).1
     obtain ⟨y,hy⟩:=a_i (l:=k.Routes) (j:=q) (by have:=h.fit.lRts;omega)
     have hfit:=h.fit.rts q y z hy hz
     have hyq:rsG k.Routes q=y:=by unfold rsG;rw[e_p,hy];rfl
     rw[hyq]
     simp only[Rs.fits,Bool.and_eq_true,decide_eq_true_eq] at hfit
     unfold frm
     rw[if_neg (show ¬f_5 (⟨0,0,0,0⟩ :Rs).State=true by decide),if_neg (show ¬inL [4,5] (⟨0,0,0,0⟩ :Rs).State=true by decide)]
     split
     · omega
     split
     · omega
     · exact Nat.le_refl _
   · exact Nat.le_refl _
 · rw[hown,if_neg]
   intro e
   rw[e] at hoq
   have hqr:(q:Int) =r:=by omega
   rw[e_a,hrs,if_pos hqr] at hst'
   unfold frm at hst'
   rw[if_neg (show ¬f_5 (⟨0,0,0,0⟩ :Rs).State=true by decide),if_neg (show ¬inL [4,5] (⟨0,0,0,0⟩ :Rs).State=true by decide),List.drop_length] at hst'
   cases hst'
 · by_cases e:(q:Int) =r
   · refine .inr fun s hs=>?_
     rw[hown] at hs
     split at hs
     · omega
     · rename_i hne;exact hne (by rw[hs,e])
   · refine .inl ?_
     rw[hst,if_neg e];exact hq
 · rw[hst] at hq
   split at hq
   · cases hq
   · exact hq
 · rw[hst] at hq
   split at hq
   · exact absurd rfl hq
   · exact hq
 · obtain ⟨h1,h2,h3⟩:=h.lns line hline
   have hd:=a_vq (w:=k.Lines) (n:=c.lineR r) hln.1 (by have:=h.fit.lLn;unfold Cf.lineR;omega) (line:Int)
   show (lnG (i_4 (c.lineR r) k.Lines) line).Done≤(lnG (i_4 (c.lineR r) k.Lines) line).Ask∧(lnG (i_4 (c.lineR r) k.Lines) line).Told≤(lnG (i_4 (c.lineR r) k.Lines) line).Grant∧(a_m (k.endR c r) (c.lineSec line) = -2→(lnG (i_4 (c.lineR r) k.Lines) line).Ask=(lnG (i_4 (c.lineR r) k.Lines) line).Done)
   rw[hd]
   split
   · rename_i e
     rw[e.2] at h1 h2
     exact ⟨Int.le_refl _,h2,fun _=>rfl⟩
   · refine ⟨h1,h2,fun e=>h3 ?_⟩
     rw[hown] at e
     split at e
     · omega
     · exact e
theorem Inv.routeR (h:Inv c k)(hn:tm 0 now=true){d:Bool}{r:Int}(hr:0≤r)(hl:r < k.Routes.length) :Inv c (k.routeR c v now d r):=by
 have hf:=a_b2 (v:=v) (d:=d) h.fit hn hr
 unfold Co.routeR at hf ⊢
 split
 · rename_i hc
   rw[if_pos hc] at hf
   refine h.route (d:=k.Dirty) hf hr hl (by omega) (by simp) (fun e=>by simp[f_5,inL] at e) (fun z hz=>?_)
   unfold frm
   rw[if_pos ((f_w _).2 (by omega))]
   exact Nat.zero_le _
 · rename_i hc0
   rw[if_neg hc0] at hf
   split
   · rename_i hc
     rw[if_pos hc] at hf
     refine h.route (d:=k.Dirty) hf hr hl (by omega) (by simp) (fun e=>(f_w _).2 (by omega)) (fun z hz=>?_)
     unfold frm
     rw[if_pos ((f_w _).2 (by omega))]
     exact Nat.zero_le _
   · rename_i hc1
     rw[if_neg hc1] at hf
     split
     · rename_i hc
       rw[if_pos hc] at hf
       refine h.route (d:=k.Dirty) hf hr hl (by omega) (by simp) (fun e=>(f_w _).2 (by omega)) (fun z hz=>?_)
       unfold frm
       rw[if_pos ((f_w _).2 (by omega))]
       exact Nat.zero_le _
     · rename_i hc2
       split
       · rename_i h4
         obtain ⟨hg,hg4⟩:=h.goOn (v:=v) hn hr hl h4
         have hgl:r < (k.goOn c v now r).Routes.length:=by have:=hg.fit.lRts;have:=h.fit.lRts;omega
         unfold Co.endingR
         split
         · exact h
         · split
           · exact hg.endR hr hgl
           · exact hg
       · exact h
theorem Inv.routesR (h:Inv c k)(hn:tm 0 now=true){d:Bool} :∀n:Nat,n≤c.Rts.length→Inv c (routesR c v now d k n)
 | 0,_=>h
 | n+1,hl=>by
   have ih:=Inv.routesR h hn (d:=d) n (by omega)
   exact ih.routeR hn (by omega) (by have:=ih.fit.lRts;omega)
theorem Inv.stepX (h:Inv c k)(hn:tm 0 now=true) :Inv c (k.stepX c v now):=by
 have hR:Inv c (k.stepR c v now):=h.routesR hn _ (Nat.le_refl _)
 have hf:=v_w (v:=v) h.fit hn
 unfold Co.stepX at hf ⊢
 generalize k.stepR c v now=q at *
 refine hR.mild hf (fun _ _=>rfl) (fun _ _ _=>Nat.le_refl _) (fun _ _ _ _ _ _=>rfl) (fun _ hq=> .inl hq) (fun _ hq=>⟨hq,fun _ _=>rfl⟩) (fun _ hq=>hq) (fun i x hi ho hc=>?_) hR.lns
 obtain ⟨i',s,e3,hs,_⟩:=g_y _ _ _ _ hi
 rw[Nat.zero_add] at e3
 subst e3
 have hlt:=(List.getElem?_eq_some_iff.1 hs).1
 have hll:q.Xs.length=c.Xs.length:=hR.fit.lXs
 obtain ⟨m,hm⟩:=a_i (l:=xsN c q.Own now q.Xs c.Xs.length) (j:=i') (by rw[y_p];omega)
 have hg:=a_sq (own:=q.Own) (now:=now) hll c.Xs.length (by omega) i' s m hlt hs hm
 rw[a_sm rfl hs] at ho
 have ho:0 < a_m q s:=ho
 show d_y (xsN c q.Own now q.Xs c.Xs.length) (i':Int) =1
 rw[s_p rfl hm,hg,if_neg]
 intro e
 have e:a_m q s=0:=e
 omega
theorem Inv.rstOne (h:Inv c k){s:Nat}(hl:s < k.Resets.length) :Inv c (k.rstOne v s):=by
 have hf:=a_bx (v:=v) (s:=(s:Int)) h.fit
 have same:∀w:List Int,FitIs c { k with Resets:=w }→Inv c { k with Resets:=w } :=fun w hw=>
   h.mild hw (fun _ _=>rfl) (fun _ _ _=>Nat.le_refl _) (fun _ _ _ _ _ _=>rfl) (fun _ hq=> .inl hq) (fun _ hq=>⟨hq,fun _ _=>rfl⟩) (fun _ hq=>hq) (fun _ _ _ _ hc=>hc) h.lns
 unfold Co.rstOne at hf ⊢
 split
 · exact h
 · rename_i h1
   rw[if_neg h1] at hf
   split
   · rename_i h2
     rw[if_pos h2] at hf
     exact same _ hf
   · rename_i h2
     rw[if_neg h2] at hf
     have ho:a_m k s= -1:=Classical.byContradiction h2
     split
     · rename_i h3
       rw[if_pos h3] at hf
       have hlo:(s:Int) < k.Own.length:=by have:=h.fit.lOwn;have:=h.fit.lRes;omega
       have hown:∀t,a_m { k with Own:=k.Own.set (s:Int).toNat 0,Dirty:=true,Resets:=k.Resets.set (s:Int).toNat 0 } t=if t=s then 0 else a_m k t:=fun t=>s_u rfl (by omega) hlo
       refine h.mild hf (fun t ht=>?_) (fun _ _ _=>Nat.le_refl _) (fun q z hz st hst hoq=>?_) (fun _ hq=> .inl hq) (fun _ hq=>⟨hq,fun _ _=>rfl⟩) (fun _ hq=>hq) (fun _ _ _ _ hc=>hc) (fun line hline=>?_)
       · rw[hown] at ht ⊢
         split at ht
         · omega
         · rename_i e;rw[if_neg e]
       · rw[hown,if_neg]
         intro e
         rw[e,ho] at hoq;omega
       · obtain ⟨h1,h2,h3⟩:=h.lns line hline
         refine ⟨h1,h2,fun e=>?_⟩
         rw[hown] at e
         split at e
         · omega
         · exact h3 e
     · exact h
theorem Inv.rstN (h:Inv c k) :∀n:Nat,n≤c.Secs.length→Inv c (rstN v k n)
 | 0,_=>h
 | n+1,hl=>by
   have ih:=Inv.rstN h n (by omega)
   exact ih.rstOne (by have:=ih.fit.lRes;omega)
theorem Inv.stepY (h:Inv c k)(hn:tm 0 now=true) :Inv c (k.stepY c v now):=by
 have hX:=h.stepX (v:=v) hn
 exact hX.rstN _ (by rw[hX.fit.lRes];exact Nat.le_refl _)
end
section
variable {c:Cf} {k:Co} {v:Vw} {now:Int}
theorem Inv.oneLine (h:Inv c k){l s:Nat}{o o':Int}{x y:Ls}{d:Bool}(hls:c.lineSec l=s)(hx:k.Lines[l]? =some x)(ho:k.Own[s]? =some o)
   (hcs:o'=o∨(o≤0∧(o'=0∨o'= -2))) (hAD:y.Done≤y.Ask) (hT:y.Told≤y.Grant) (h2:o'= -2→y.Ask=y.Done) (hy:Ls.fits y=true) :
   Inv c { k with Own:=k.Own.set s o',Lines:=k.Lines.set l y,Dirty:=d } :=by
 have hlo:=(List.getElem?_eq_some_iff.1 ho).1
 have hll:=(List.getElem?_eq_some_iff.1 hx).1
 have hos:a_m k (s:Int) =o:=d_w rfl ho
 have hown:∀t,a_m { k with Own:=k.Own.set s o',Lines:=k.Lines.set l y,Dirty:=d } t=if t=(s:Int) then o' else a_m k t:=fun t=>s_u (s:=(s:Int)) (by rw[Int.toNat_natCast]) (by omega) (by omega)
 have hln:∀t:Int,lnG (k.Lines.set l y) t=if t=(l:Int) then y else lnG k.Lines t:=fun t=>by
   have:=a_my (w:=k.Lines) (l:=(l:Int)) (t:=t) (x:=y) (by omega) (by omega)
   rw[Int.toNat_natCast] at this;exact this
 have hoI:=h.fit.own o (List.mem_of_getElem? ho)
 have hf:FitIs c { k with Own:=k.Own.set s o',Lines:=k.Lines.set l y,Dirty:=d } :=
   ⟨h.fit.chk,by rw[List.length_set];exact h.fit.lOwn,h.fit.lPts,h.fit.lRes,h.fit.lRts,h.fit.lXs,by rw[List.length_set];exact h.fit.lLn,fun z hz=>by
     rcases List.mem_or_eq_of_mem_set hz with hz | rfl
     · exact h.fit.own z hz
     · omega,h.fit.rts,h.fit.pts,h.fit.xs,fun z hz=>by
     rcases List.mem_or_eq_of_mem_set hz with hz | rfl
     · exact h.fit.lns z hz
     · exact hy,h.fit.res⟩
 refine h.mild hf (fun t ht=>?_) (fun _ _ _=>Nat.le_refl _) (fun q z hz st hst hoq=>?_) (fun _ hq=> .inl hq) (fun _ hq=>⟨hq,fun _ _=>rfl⟩) (fun _ hq=>hq) (fun _ _ _ _ hc=>hc) (fun line hline=>?_)
 · rw[hown] at ht ⊢
   split at ht
   · rename_i e
     rw[if_pos e,e,hos]
     rcases hcs with g | g
     · exact g
     · omega
   · rename_i e;rw[if_neg e]
 · rw[hown]
   split
   · rename_i e
     rw[e,hos] at hoq ⊢
     rcases hcs with g | g
     · exact g
     · omega
   · rfl
 · show (lnG (k.Lines.set l y) line).Done≤(lnG (k.Lines.set l y) line).Ask∧(lnG (k.Lines.set l y) line).Told≤(lnG (k.Lines.set l y) line).Grant∧(a_m _ (c.lineSec line) = -2→(lnG (k.Lines.set l y) line).Ask=(lnG (k.Lines.set l y) line).Done)
   rw[hln,hown]
   by_cases e:(line:Int) =l
   · rw[if_pos e]
     have e':line=l:=by omega
     subst e'
     rw[if_pos hls]
     exact ⟨hAD,hT,h2⟩
   · rw[if_neg e]
     obtain ⟨h1,h3,h4⟩:=h.lns line hline
     refine ⟨h1,h3,fun g=>?_⟩
     split at g
     · rename_i e2
       exact absurd (a_nb e2 hls) e
     · exact h4 g
theorem l_b {α:Type}{l:List α}{i:Nat}{x:α}(h:l[i]? =some x) :l.set i x=l:=by
 apply List.ext_getElem?
 intro j
 rw[List.getElem?_set]
 split
 · rename_i e;subst e
   split
   · exact h.symm
   · rename_i hn;rw[List.getElem?_eq_none (by omega)]
 · rfl
theorem Inv.lineStep (h:Inv c k)(hn:tm 0 now=true){occ:List Lk}{was:Bool}{l s:Nat}{o:Int}{x:Ls}(hls:c.lineSec l=s)(hx:k.Lines[l]? =some x)(ho:k.Own[s]? =some o) :Inv c (lineStep c occ now was k l s):=by
 have hll:=(List.getElem?_eq_some_iff.1 hx).1
 have hos:a_m k (s:Int) =o:=d_w rfl ho
 have hfx:=h.fit.lns x (List.mem_of_getElem? hx)
 have htm:=hn
 simp only[tm,decide_eq_true_eq] at htm
 have hw:w64 (now+1) =now+1:=a_u (by omega) (by omega)
 have hl:=h.lns l (by omega)
 rw[y_7,hx,Option.getD_some,hls,hos] at hl
 obtain ⟨hl1,hl2,hl3⟩:=hl
 simp only[Ls.fits,Bool.and_eq_true,tm,decide_eq_true_eq] at hfx
 have base : ∃ (o0 : Int) (y : Ls) (d : Bool), (if o = -2 then c_5 occ now k l s else if o = 0 ∧ u_p c k x s = true then { k with Own := k.Own.set s (-2), Dirty := true, Lines := k.Lines.set l { x with Grant := x.PAsk, Since := 0 } } else k) = { k with Own := k.Own.set s o0, Lines := k.Lines.set l y, Dirty := d } ∧
     (o0=o∨(o≤0∧(o0=0∨o0= -2)))∧y.Done≤y.Ask∧y.Told≤y.Grant∧x.Grant≤y.Grant∧(o0= -2→y.Ask=y.Done)∧Ls.fits y=true:=by
   have fx:∀n:Int,0≤n→n≤4294967296→Ls.fits { x with Since:=n } =true:=fun n h1 h2=>by
     simp only[Ls.fits,Bool.and_eq_true,tm,decide_eq_true_eq];omega
   split
   · rename_i ho2
     unfold c_5
     simp only[hx,Option.getD_some]
     split
     · exact ⟨o,{ x with Since:=0 },k.Dirty,by rw[l_b ho], .inl rfl,hl1,hl2,Int.le_refl _,hl3,fx 0 (by omega) (by omega)⟩
     split
     · exact ⟨o,{ x with Since:=w64 (now+1) },k.Dirty,by rw[l_b ho], .inl rfl,hl1,hl2,Int.le_refl _,hl3,fx _ (by omega) (by omega)⟩
     split
     · exact ⟨0,{ x with Since:=0 },true,rfl, .inr ⟨by omega, .inl rfl⟩,hl1,hl2,Int.le_refl _,fun e=>by omega,fx 0 (by omega) (by omega)⟩
     · exact ⟨o,x,k.Dirty,by rw[l_b ho,l_b hx], .inl rfl,hl1,hl2,Int.le_refl _,hl3,by simp only[Ls.fits,Bool.and_eq_true,tm,decide_eq_true_eq];omega⟩
   · split
     · rename_i hm
       obtain ⟨hm0,hm⟩:=hm
       simp only[u_p,Bool.and_eq_true,decide_eq_true_eq] at hm
       obtain ⟨_,hm1,hm2⟩:=hm
       have hg:x.Grant < x.PAsk:=by split at hm1 <;> omega
       exact ⟨-2,{ x with Grant:=x.PAsk,Since:=0 },true,rfl, .inr ⟨by omega, .inr rfl⟩,hl1,by show x.Told≤x.PAsk;omega,by show x.Grant≤x.PAsk;omega,fun _=>hm2,by simp only[Ls.fits,Bool.and_eq_true,tm,decide_eq_true_eq];omega⟩
     · exact ⟨o,x,k.Dirty,by rw[l_b ho,l_b hx], .inl rfl,hl1,hl2,Int.le_refl _,hl3,by simp only[Ls.fits,Bool.and_eq_true,tm,decide_eq_true_eq];omega⟩
 obtain ⟨o0,y,d,he,h1,h2,h3,h4,h5,h6⟩:=base
 unfold Go.Fw.lineStep
 simp only[hx,ho,Option.getD_some]
 rw[he]
 cases was with
 | true=>exact h.oneLine hls hx ho h1 h2 h3 h5 h6
 | false=>
   simp only[Bool.false_eq_true,if_false]
   have e1:(k.Lines.set l y)[l]? =some y:=by rw[List.getElem?_set,if_pos rfl,if_pos hll]
   rw[e1,Option.getD_some,List.set_set]
   exact h.oneLine (y:= { y with Told:=x.Grant }) hls hx ho h1 h2 h4 h5 (by
     simp only[Ls.fits,Bool.and_eq_true,tm,decide_eq_true_eq] at h6 ⊢;omega)
theorem Inv.stepRun {occ:List Lk}{was:Bool}(hn:tm 0 now=true) :∀(ls:List Nat) {k:Co},(∀l ∈ ls,l≤3)→Inv c k→Inv c (stepRun c occ now was ls k)
 | [],_,_,h=>h
 | l::ls,k,hls,h=>by
   unfold Go.Fw.stepRun
   refine Inv.stepRun hn ls (fun l hl=>hls l (by simp[hl])) ?_
   split
   · rename_i h0
     obtain ⟨s,hs⟩:=Int.eq_ofNat_of_zero_le h0
     have h3:=hls l (by simp)
     obtain ⟨x,hx⟩:=a_i (l:=k.Lines) (j:=l) (by have:=h.fit.lLn;omega)
     obtain ⟨z,hz,_⟩:=g_5 hs
     obtain ⟨o,ho⟩:=a_i (l:=k.Own) (j:=s) (by have:=(List.getElem?_eq_some_iff.1 hz).1;have:=h.fit.lOwn;omega)
     rw[hs,Int.toNat_natCast]
     exact h.lineStep hn hs hx ho
   · exact h
theorem Inv.stepC (h:Inv c k) :Inv c (k.stepC c v now).1:=by
 unfold Co.stepC
 split
 · exact h
 split
 · exact h
 · rename_i hn
   exact h.stepRun (by simp only[tm,decide_eq_true_eq];omega) _ (by simp)
theorem Inv.hearC (h:Inv c k)(line a d g:Int) :Inv c (k.hearC c line a d g).1:=by
 unfold Co.hearC
 split
 · exact h
 split
 · exact h
 split
 · exact h
 rename_i h1 h2 h3
 have h0:0≤c.lineSec line:=by omega
 obtain ⟨s,hs⟩:=Int.eq_ofNat_of_zero_le h0
 have hl1:1≤line:=by
   refine Classical.byContradiction fun g=>?_
   unfold Cf.lineSec at h0
   rw[if_pos (by omega)] at h0;omega
 obtain ⟨z,hz,hzl⟩:=g_5 hs
 have hl3:line≤3:=by
   have:=k_e (a_y h.fit.chk).1 hz
   omega
 obtain ⟨l,rfl⟩:=Int.eq_ofNat_of_zero_le (show 0≤line by omega)
 obtain ⟨x,hx⟩:=a_i (l:=k.Lines) (j:=l) (by have:=h.fit.lLn;omega)
 obtain ⟨o,ho⟩:=a_i (l:=k.Own) (j:=s) (by have:=(List.getElem?_eq_some_iff.1 hz).1;have:=h.fit.lOwn;omega)
 have hos:a_m k (s:Int) =o:=d_w rfl ho
 have hl:=h.lns l (by omega)
 rw[y_7,hx,Option.getD_some,hs,hos] at hl
 have hfx:=h.fit.lns x (List.mem_of_getElem? hx)
 simp only[Ls.fits,Bool.and_eq_true,tm,decide_eq_true_eq] at hfx
 rw[Int.toNat_natCast,hx,Option.getD_some]
 have:=h.oneLine (o':=o) (y:= { x with PAsk:=a,PDone:=d,PGrant:=g }) (d:=k.Dirty) hs hx ho (.inl rfl) hl.1 hl.2.1 hl.2.2 (by simp only[Ls.fits,Bool.and_eq_true,tm,decide_eq_true_eq];omega)
 rw[l_b ho] at this
 exact this
theorem Inv.dirty (h:Inv c k)(b:Bool) :Inv c { k with Dirty:=b } :=⟨h.fit.dirty b,h.own,h.idle,h.pts,h.gat,h.lns⟩
theorem Inv.resets (h:Inv c k){w:List Int}(hf:FitIs c { k with Resets:=w }) :Inv c { k with Resets:=w } :=⟨hf,h.own,h.idle,h.pts,h.gat,h.lns⟩
theorem Inv.resetC (h:Inv c k)(s:Int) :Inv c (k.resetC c now s).1:=by
 unfold Co.resetC Co.done
 split
 · rename_i hg
   obtain ⟨h1,h2,_⟩:=n_r hg
   exact h.resets (fits_iff.1 (a_qs h1 h2))
 · exact h
theorem Inv.throwC (h:Inv c k)(s pos:Int) :Inv c (k.throwC c now s pos).1:=by
 unfold Co.throwC Co.done
 split
 · rename_i hg
   obtain ⟨h1,h2,h3⟩:=n_r hg
   have hf:=fits_iff.1 (a_rt h1 h2 h3)
   have hz:=(a_fz h3).1
   have hos:a_m k s=0:=by unfold a_m;rw[hz];rfl
   have hg0:=a_l hz
   refine h.mild hf (fun _ _=>rfl) (fun _ _ _=>Nat.le_refl _) (fun _ _ _ _ _ _=>rfl) (fun _ hq=> .inl hq) (fun _ hq=>⟨hq,fun t ht=>?_⟩) (fun _ hq=>hq) (fun _ _ _ _ hc=>hc) h.lns
   have hne:t≠s:=fun e=>by
     rw[e] at ht
     have:0 < a_m k s:=ht
     omega
   show d_y (k.Points.set s.toNat _) t=d_y k.Points t
   unfold d_y
   rw[c_i hg0.1 hne]
 · exact h
theorem Inv.leadC (h:Inv c k){r to:Int}{fr:List Int}(ht:(to=4∧(fr=[1,2,3]∨fr=[5]))∨(to=1∧fr=[3])) :Inv c (k.leadC c r to now fr).1:=by
 unfold Co.leadC Co.done
 split
 · rename_i hg
   obtain ⟨h1,h2,h3⟩:=n_r hg
   exact h.lead h2 h3 ht
 · exact h
theorem a_wh (hok:c.check=0)(hn:tm 0 now=true) :Inv c (b_j c now):=by
 have hf:=fits_iff.1 (a_ev hok hn)
 have hst:∀r:Int,c_3 (b_j c now) r=0:=fun r=>by
   unfold c_3
   cases hg:a_k (b_j c now).Routes r with
   | none=>rfl
   | some y=>
     have:=(List.mem_replicate.1 (d_l hg)).2
     rw[this];rfl
 have hown:∀s:Int,a_m (b_j c now) s≤0:=fun s=>by
   unfold a_m
   cases hg:a_k (b_j c now).Own s with
   | none=>exact Int.le_refl _
   | some y=>
     have:=(List.mem_replicate.1 (d_l hg)).2
     rw[this];decide
 have hln:∀l:Nat,lnG (b_j c now).Lines l=zLs:=fun l=>by
   rw[y_7]
   show ((List.replicate 4 zLs)[l]?).getD zLs=zLs
   rw[List.getElem?_replicate];split <;> rfl
 refine ⟨hf,fun r x hx s hs=>?_,fun s r hs=>by have:=hown s;omega,fun r x hx hr=>?_,fun r x hx hr=>absurd (hst r) hr,fun l _=>?_⟩
 · unfold e_h at hs
   rw[hst,if_neg (by decide),if_neg (by decide),List.drop_length] at hs
   cases hs
 · rw[hst] at hr;exact absurd hr (by decide)
 · rw[hln];exact ⟨Int.le_refl _,Int.le_refl _,fun _=>rfl⟩
theorem Inv.back (h:Inv c k)(hn:tm 0 now=true) :Inv c (k.backK c now):=by
 have hf:=fits_iff.1 (a_tt h.fit hn)
 have hst:∀r:Int,c_3 (k.backK c now) r=if c_3 k r=0 then 0 else 5:=fun r=>by
   unfold c_3
   show ((a_k (k.Routes.map (fun r=>f_j ⟨r.State,0,r.Next,0⟩)) r).map Rs.State).getD 0=_
   rw[z_a]
   cases a_k k.Routes r with
   | none=>rfl
   | some y=>
     simp only[Option.map_some,Option.getD_some,f_j]
     split <;> rfl
 have hnx:∀r:Int,c_3 k r≠0→q_m (k.backK c now) r=q_m k r:=fun r=>by
   unfold c_3 q_m
   show _→((a_k (k.Routes.map (fun r=>f_j ⟨r.State,0,r.Next,0⟩)) r).map Rs.Next).getD 0=_
   rw[z_a]
   cases a_k k.Routes r with
   | none=>intro _;rfl
   | some y=>
     simp only[Option.map_some,Option.getD_some,f_j]
     intro h0
     rw[if_neg h0]
 refine h.mild hf (fun _ _=>rfl) (fun q x hx=>?_) (fun _ _ _ _ _ _=>rfl) (fun q hq=> .inl (by rw[hst,if_neg hq];decide)) (fun q hq=>?_) (fun q hq e=>?_) (fun i x hi _ _=>?_) (fun l hl=>?_)
 · unfold e_h
   rw[hst]
   by_cases h0:c_3 k q=0
   · rw[if_pos h0,h0,if_neg (by decide),if_neg (by decide)]
     rw[if_neg (by decide),if_neg (by decide)]
     exact Nat.le_refl _
   · rw[if_neg h0,if_neg (show ¬f_5 5=true by decide),if_pos (show inL [4,5] 5=true by decide),hnx q h0]
     split
     · omega
     split
     · exact Nat.le_refl _
     · rename_i h1 h2
       exfalso
       have hq1:c_3 k q≠1∧c_3 k q≠2∧c_3 k q≠3:=by
         refine ⟨fun e=>h1 ((f_w _).2 (.inl e)),fun e=>h1 ((f_w _).2 (.inr (.inl e))),fun e=>h1 ((f_w _).2 (.inr (.inr e)))⟩
       have hq2:c_3 k q≠4∧c_3 k q≠5:=⟨fun e=>h2 ((a_nr _).2 (.inl e)),fun e=>h2 ((a_nr _).2 (.inr e))⟩
       have hlt:=(List.getElem?_eq_some_iff.1 hx).1
       obtain ⟨y,hy⟩:=a_i (l:=k.Routes) (j:=q) (by have:=h.fit.lRts;omega)
       have hfit:=h.fit.rts q y x hy hx
       have e:=(a_fy (k:=k) (i:=(q:Int)) rfl hy).1
       simp only[Rs.fits,Bool.and_eq_true,decide_eq_true_eq] at hfit
       omega
 · rw[hst] at hq
   split at hq
   · exact absurd hq (by decide)
   · exact absurd hq (by decide)
 · rw[hst,if_pos e] at hq;exact hq rfl
 · obtain ⟨i',s,e3,hs,_⟩:=g_y _ _ _ _ hi
   rw[Nat.zero_add] at e3
   subst e3
   show d_y (b_j c now).Xs (i':Int) =1
   have hlt:=(List.getElem?_eq_some_iff.1 hs).1
   rw[s_p (x:=⟨1,now⟩) rfl]
   show (List.replicate c.Xs.length (⟨1,now⟩ :Mv))[i']? =_
   rw[List.getElem?_replicate,if_pos hlt]
 · have hl4 : l < 4 := by
     obtain ⟨s,hs⟩:=Int.eq_ofNat_of_zero_le hl
     obtain ⟨z,hz,hzl⟩:=g_5 hs
     have:=k_e (a_y h.fit.chk).1 hz
     omega
   have h0:=h.lns l hl
   have e:lnG (k.backK c now).Lines l=if l=0 then zLs else ln3 (lnG k.Lines l).Ask (lnG k.Lines l).Done (lnG k.Lines l).Grant:=by
     rw[y_7,y_7]
     show (((⟨0,0,0,0,0,0,0,0⟩ :Ls) :: ((k.Lines.drop 1).take 3).map (fun x=>ln3 x.Ask x.Done x.Grant))[l]?).getD zLs=_
     cases l with
     | zero=>rfl
     | succ l=>
       rw[List.getElem?_cons_succ,List.getElem?_map,List.getElem?_take,if_pos (by omega),List.getElem?_drop,Nat.add_comm 1 l]
       obtain ⟨x,hx⟩:=a_i (l:=k.Lines) (j:=l+1) (by have:=h.fit.lLn;omega)
       rw[hx];rfl
   rw[e]
   split
   · exact ⟨Int.le_refl _,Int.le_refl _,fun _=>rfl⟩
   · exact ⟨h0.1,Int.le_refl _,h0.2.2⟩
end
section
variable {c:Cf} {k:Co} {v:Vw} {now:Int}
theorem a_tv {secs:List Sec}{js:List Jt}(h:b_m secs js=true){i j:Nat}{s t:Sec}(hs:secs[i]? =some s)(ht:secs[j]? =some t)(he:s.Line=t.Line)(h0:s.Line≠0) :i=j:=by
 unfold b_m at h
 rw[Bool.and_eq_true] at h
 obtain ⟨_,h⟩:=h
 split at h
 · cases h
 · rename_i tk _
   have hh:=(r_6 tk secs 0 []).1 h
   rcases Nat.lt_trichotomy i j with g | g | g
   · obtain ⟨_,_,_,h4⟩:=hh j t ht
     exact absurd he ((h4 (by rw[←he];exact h0)).2.2.2 i s g hs)
   · exact g
   · obtain ⟨_,_,_,h4⟩:=hh i s hs
     exact absurd he.symm ((h4 h0).2.2.2 j t g ht)
theorem a_jr:∀(l:List St),0 < a_5 c l→∃s ∈ l,((a_k c.Secs s.Sec).getD ⟨0,0,0⟩).Line=a_5 c l
 | [],h=>by simp[a_5] at h
 | s::l,h=>by
   unfold a_5 at h ⊢
   simp only at h ⊢
   split at h
   · rename_i h1
     rw[if_pos h1]
     exact ⟨s,by simp,rfl⟩
   · rename_i h1
     rw[if_neg h1]
     obtain ⟨s',hs,he⟩:=a_jr l h
     exact ⟨s',by simp[hs],he⟩
theorem a_eb (hf:FitIs c k){r:Int}{y:Rt}(hy:a_k c.Rts r=some y)(t:Int) :a_m (k.lockC c now r) t=if t ∈ c.lockL r then r+1 else a_m k t:=by
 have hr:=b_k hf.chk (d_l hy)
 have hll:c.lockL r=Cf.lockR y:=by unfold Cf.lockL;rw[hy]
 have hsec:∀s ∈ c.lockL r,∃z,a_k c.Secs s=some z:=fun s hs=>a_a4 hr (by rw[←hll];exact hs)
 by_cases ht:t ∈ c.lockL r
 · rw[if_pos ht]
   unfold a_m
   rw[a_vi hf now hy ht];rfl
 · rw[if_neg ht]
   unfold a_m
   congr 1
   unfold a_k
   by_cases h0:t < 0
   · rw[if_pos h0,if_pos h0]
   · rw[if_neg h0,if_neg h0]
     show ((c.lockL r).foldl (fun w s=>w.set s.toNat (r+1)) k.Own)[t.toNat]? =k.Own[t.toNat]?
     by_cases hl:t.toNat < k.Own.length
     · rw[a_g1 (c.lockL r) k.Own (fun x hx=>by obtain ⟨z,hz⟩:=hsec x hx;exact (a_l hz).1) hl,if_neg]
       rw[Int.toNat_of_nonneg (by omega)];exact ht
     · rw[List.getElem?_eq_none (by rw[x_6];omega),List.getElem?_eq_none (by omega)]
theorem a_bs {r:Int}(hb:k.blocked c r (c.lockL r) =false){s:Int}(hs:s ∈ c.lockL r) :a_m k s=0∨k.inh c r s=true:=by
 unfold Co.blocked at hb
 rw[List.any_eq_false] at hb
 have:=hb s hs
 simp only[Bool.and_eq_true,decide_eq_true_eq,Bool.not_eq_true',not_and,Bool.not_eq_false] at this
 by_cases h0:a_m k s=0
 · exact .inl h0
 · exact .inr (this h0)
theorem a_s9 (hf:FitIs c k){r:Int}(hb:k.blocked c r (c.lockL r) =false){q:Nat}{x:Rt}(hx:c.Rts[q]? =some x){s:St}(hs:s ∈ x.Path)(ho:a_m k s.Sec=(q:Int) +1) :s.Sec ∉ c.lockL r:=by
 intro hin
 rcases a_bs hb hin with h0 | h1
 · omega
 · unfold Co.inh at h1
   have e:(a_k k.Own s.Sec).getD 0 - 1=(q:Int):=by have:(a_k k.Own s.Sec).getD 0=(q:Int) +1:=ho;omega
   simp only[e,Bool.and_eq_true,decide_eq_true_eq] at h1
   obtain ⟨_,_,h3⟩:=h1
   have hrt:c.rt (q:Int) =x:=b_h (by rw[e_p];exact hx)
   rw[hrt] at h3
   have hov:=(b_k hf.chk (List.mem_of_getElem? hx)).ov (of_decide_eq_true h3)
   have:=hov.2.1
   unfold d_n at this
   rw[List.any_eq_false] at this
   exact this s hs (by simp)
theorem Inv.lock (h:Inv c k)(hn:tm 0 now=true){r:Int}(he:k.reqE c r=0) :Inv c (k.lockC c now r):=by
 have hf:=fits_iff.1 (a_t3 (fits_iff.2 h.fit) hn he)
 obtain ⟨⟨x0,hx0,hs0⟩,_,hb,_⟩:=a_e7 he
 obtain ⟨y,hy,hm⟩:=a_sv h.fit hx0
 have hok:=b_k h.fit.chk hm
 have hgy:=a_l hy
 have hgx:=a_l hx0
 have hrl:=(List.getElem?_eq_some_iff.1 hgx.2.2).1
 have hrt:c.rt r=y:=b_h hy
 have hown:=fun t=>a_eb (now:=now) h.fit hy t
 have hst:∀t:Int,c_3 (k.lockC c now r) t=if t=r then 1 else c_3 k t:=fun t=>by
   rw[h_n,h_n]
   show (rsG (k.Routes.set r.toNat ⟨1,0,0,0⟩) t).State=_
   rw[i_v hgx.1 (by omega)]
   split <;> rfl
 have hfr:∀(q:Nat) (n:Nat),e_h (k.lockC c now r) q n=if (q:Int) =r then 0 else e_h k q n:=fun q n=>by
   rw[e_a,e_a]
   show frm (rsG (k.Routes.set r.toNat ⟨1,0,0,0⟩) q) n=_
   rw[i_v hgx.1 (by omega)]
   split
   · unfold frm;rw[if_pos (show f_5 (⟨1,0,0,0⟩ :Rs).State=true by decide)]
   · rfl
 have is_r:∀(q:Nat) (x:Rt),c.Rts[q]? =some x→(q:Int) =r→x=y:=fun q x hx e=>by
   have:a_k c.Rts r=some x:=by rw[←e,e_p];exact hx
   rw[hy] at this;injection this with this;exact this.symm
 have hneeds:∀n ∈ c.needs y,n.Sec ∈ c.lockL r:=fun n hn=>by
   have hll:c.lockL r=Cf.lockR y:=by unfold Cf.lockL;rw[hy]
   rw[hll,mem_lockR]
   unfold Cf.needs at hn
   rcases List.mem_append.1 hn with hn | hn
   · have:=(s_h c y.Path).subset (List.mem_map.2 ⟨n,hn,rfl⟩)
     exact .inr (.inl this)
   · exact .inr (.inr (List.mem_map.2 ⟨n,hn,rfl⟩))
 refine ⟨hf,fun q x hx s hs=>?_,fun s q hs=>?_,fun q x hx hr n hn' ho=>?_,fun q x hx hr i hi ho=>?_,fun l hl=>?_⟩
 · rw[hown]
   rw[hfr] at hs
   by_cases e:(q:Int) =r
   · have ex:=is_r q x hx e
     subst ex
     rw[if_pos e,List.drop_zero] at hs
     rw[if_pos (a_d4 hy hs),e]
   · rw[if_neg e] at hs
     have ho:=h.own q x hx s hs
     rw[if_neg (a_s9 h.fit hb hx (List.mem_of_mem_drop hs) ho)]
     exact ho
 · rw[hst]
   by_cases e:(q:Int) =r
   · rw[if_pos e];decide
   · rw[if_neg e]
     rw[hown] at hs
     split at hs
     · omega
     · exact h.idle s q hs
 · show d_y (j_w now (c.Needs r) k.Points) n.Sec=n.Pos
   have eN:c.Needs r=c.needs y:=by rw[Cf.Needs,hrt]
   rw[eN]
   have hrange:∀m ∈ c.needs y,0≤m.Sec∧m.Sec < k.Points.length:=fun m hm=>by
     obtain ⟨⟨z,hz⟩,_⟩:=n_h hok hm
     have:=a_l hz
     have:=h.fit.lPts
     omega
   by_cases e:(q:Int) =r
   · have ex:=is_r q x hx e
     subst ex
     exact a_ns (a_nf hok) hrange n hn'
   · rw[hst,if_neg e] at hr
     rw[hown] at ho
     have hnin:n.Sec ∉ c.lockL r:=fun hin=>by rw[if_pos hin] at ho;omega
     rw[if_neg hnin] at ho
     have:=h.pts q x hx hr n hn' ho
     unfold d_y
     rw[w_l (fun m hm=>(hrange m hm).1) (fun hin=>by
       obtain ⟨m,hm,he⟩:=List.mem_map.1 hin
       exact hnin (by rw[←he];exact hneeds m hm))]
     exact this
 · show d_y (xsC now (c.Cross r) k.Xs) i=1
   have eC:c.Cross r=c_o y.Path c.Xs 0:=by rw[Cf.Cross,hrt]
   have hrange:∀(z:Rt) (j:Int),j ∈ c_o z.Path c.Xs 0→0≤j∧j < k.Xs.length:=fun z j hj=>by
     obtain ⟨i',xx,e3,hxx,_⟩:=g_y _ _ _ _ hj
     have hil:=(List.getElem?_eq_some_iff.1 hxx).1
     have:=h.fit.lXs
     omega
   rw[eC]
   by_cases e:(q:Int) =r
   · have ex:=is_r q x hx e
     subst ex
     exact a_sj (hrange x) i hi
   · rw[hst,if_neg e] at hr
     rw[hown] at ho
     have hnin:xAt c i ∉ c.lockL r:=fun hin=>by rw[if_pos hin] at ho;omega
     rw[if_neg hnin] at ho
     exact a_gp (fun j hj=>(hrange y j hj).1) (hrange x i hi).1 (h.gat q x hx hr i hi ho)
 · obtain ⟨h1,h2,h3⟩:=h.lns l hl
   have hln:=x_r h.fit.chk (c.rt r).Path
   show (lnG (k_1 (a_5 c (c.rt r).Path) k.Lines) l).Done≤(lnG (k_1 (a_5 c (c.rt r).Path) k.Lines) l).Ask∧(lnG (k_1 (a_5 c (c.rt r).Path) k.Lines) l).Told≤(lnG (k_1 (a_5 c (c.rt r).Path) k.Lines) l).Grant∧(_→(lnG (k_1 (a_5 c (c.rt r).Path) k.Lines) l).Ask=(lnG (k_1 (a_5 c (c.rt r).Path) k.Lines) l).Done)
   unfold k_1
   by_cases hp:a_5 c (c.rt r).Path > 0
   · rw[if_pos hp,a_my hln.1 (by have:=h.fit.lLn;omega)]
     by_cases e:(l:Int) =a_5 c (c.rt r).Path
     · rw[if_pos e]
       have e1:(a_k k.Lines (a_5 c (c.rt r).Path)).getD zLs=lnG k.Lines l:=by rw[←e];rfl
       rw[e1]
       refine ⟨by show (lnG k.Lines l).Done≤(lnG k.Lines l).Ask+1;omega,h2,fun g=>?_⟩
       exfalso
       obtain ⟨s,hs,hsl⟩:=a_jr _ hp
       rw[hrt] at hs hsl
       have hin:=a_d4 hy hs
       obtain ⟨i,hi⟩:=Int.eq_ofNat_of_zero_le hl
       obtain ⟨z,hz,hzl⟩:=g_5 hi
       cases hg:a_k c.Secs s.Sec with
       | none=>rw[hg] at hsl;have:(0:Int) =a_5 c y.Path:=hsl;rw[hrt] at hp;omega
       | some z'=>
         rw[hg] at hsl
         have hsl:z'.Line=a_5 c y.Path:=hsl
         have hgz:=a_l hg
         have:=a_tv (a_y h.fit.chk).1 hz hgz.2.2 (by rw[hzl,hsl,e,hrt]) (by rw[hzl];omega)
         have hsec:s.Sec=c.lineSec l:=by omega
         rw[hown,←hsec,if_pos hin] at g
         omega
     · rw[if_neg e]
       refine ⟨h1,h2,fun g=>h3 ?_⟩
       rw[hown] at g
       split at g
       · have:=hgx.1;omega
       · exact g
   · rw[if_neg hp]
     refine ⟨h1,h2,fun g=>h3 ?_⟩
     rw[hown] at g
     split at g
     · have:=hgx.1;omega
     · exact g
theorem Inv.requestC (h:Inv c k)(r:Int) :Inv c (k.requestC c now r).1:=by
 unfold Co.requestC Co.done
 split
 · rename_i hg
   obtain ⟨h1,h2,h3⟩:=n_r hg
   exact h.lock h2 h3
 · exact h
/-! who loses what -/
def Soft (k n:Co) :Prop:=∀s,a_m n s=a_m k s∨a_m k s=0∨a_m n s=0
theorem a_d2:∀(a b:List Int) (j:Nat),(∀(i:Nat) x y,a[i]? =some x→b[i]? =some y→x=y∨x=0∨y=0)→e_w (a.zip b) j=[]
 | [],_,_,_=>rfl
 | _::_,[],_,_=>rfl
 | x::a,y::b,j,h=>by
   rw[List.zip_cons_cons,e_w]
   have h0:=h 0 x y rfl rfl
   rw[if_neg (by rintro ⟨g1,g2,g3⟩;rcases h0 with g | g | g <;> first | exact g1 g | exact g2 g | exact g3 g)]
   exact a_d2 a b (j+1) fun i x y hx hy=>h (i+1) x y hx hy
theorem Soft.worse {n:Co}(h:Soft k n) :k.worse c n=[]:=by
 unfold Co.worse
 split
 · refine a_d2 _ _ _ fun i x y hx hy=>?_
   have:=h (i:Int)
   rw[d_w rfl hx,d_w rfl hy] at this
   rcases this with g | g | g
   · exact .inl g.symm
   · exact .inr (.inl g)
   · exact .inr (.inr g)
 · rfl
theorem a_es:∀(l:List (Int × Int)) (j:Nat) (s:Int),s ∈ e_w l j→∃(i:Nat) (p:Int × Int),s=((j+i:Nat) :Int)∧l[i]? =some p∧p.1≠p.2∧p.1≠0∧p.2≠0
 | [],_,_,h=>by simp[e_w] at h
 | p::l,j,s,h=>by
   rw[e_w] at h
   have tail:s ∈ e_w l (j+1)→∃(i:Nat) (q:Int × Int),s=((j+i:Nat) :Int)∧(p::l)[i]? =some q∧q.1≠q.2∧q.1≠0∧q.2≠0:=fun h=>by
     obtain ⟨i,q,h1,h2,h3⟩:=a_es l (j+1) s h
     exact ⟨i+1,q,by omega,by simpa using h2,h3⟩
   split at h
   · rename_i hc
     rcases List.mem_cons.1 h with rfl | h
     · exact ⟨0,p,by omega,rfl,hc⟩
     · exact tail h
   · exact tail h
theorem a_s7 (hf:FitIs c k){r s:Int}(hs:s ∈ k.worse c (k.requestC c now r).1) :(k.requestC c now r).2=0∧(∃y,a_k c.Rts r=some y)∧(0≤s∧s < k.Own.length)∧k.inh c r s=true∧a_m (k.requestC c now r).1 s=r+1:=by
 unfold Co.worse at hs
 split at hs
 · obtain ⟨i,p,e,hp,h1,h2,h3⟩:=a_es _ _ _ hs
   rw[Nat.zero_add] at e
   subst e
   rw[List.getElem?_zip_eq_some] at hp
   have e1:a_m k (i:Int) =p.1:=d_w rfl hp.1
   have e2:a_m (k.requestC c now r).1 (i:Int) =p.2:=d_w rfl hp.2
   have hil:=(List.getElem?_eq_some_iff.1 hp.1).1
   unfold Co.requestC Co.done at e2 ⊢
   split at e2
   · rename_i hg
     obtain ⟨g1,g2,g3⟩:=n_r hg
     obtain ⟨⟨x0,hx0,hs0⟩,_,hb,_⟩:=a_e7 g3
     obtain ⟨y,hy,hm⟩:=a_sv hf hx0
     rw[a_eb hf hy] at e2
     split at e2
     · rename_i hin
       refine ⟨hg,⟨y,hy⟩,⟨by omega,by omega⟩,?_,?_⟩
       · rcases a_bs hb hin with g | g
         · omega
         · exact g
       · show a_m (if k.gate c now (k.reqE c r) =0 then k.lockC c now r else k) (i:Int) =r+1
         rw[if_pos hg,a_eb hf hy,if_pos hin]
     · exact absurd (e1.symm.trans e2) h1
   · exact absurd (e1.symm.trans e2) h1
 · cases hs
theorem Soft.refl (k:Co) :Soft k k:=fun _=> .inl rfl
theorem Soft.of_own {n:Co}(h:n.Own=k.Own) :Soft k n:=fun s=> .inl (by unfold a_m;rw[h])
theorem a_lx (hl:k.Own.length=c.Secs.length){occ:List Lk}{was:Bool}{l s:Nat}(hls:c.lineSec l=s)(t:Int) :
   a_m (lineStep c occ now was k l s) t=a_m k t∨((a_m k t=0∨a_m k t= -2)∧(a_m (lineStep c occ now was k l s) t=0∨a_m (lineStep c occ now was k l s) t= -2)):=by
 obtain ⟨z,hz,_⟩:=g_5 hls
 obtain ⟨o,ho⟩:=a_i (l:=k.Own) (j:=s) (by have:=(List.getElem?_eq_some_iff.1 hz).1;omega)
 have hos:a_m k (s:Int) =o:=d_w rfl ho
 have hlo:=(List.getElem?_eq_some_iff.1 ho).1
 have same:∀q:Co,q.Own=k.Own→a_m q t=a_m k t∨((a_m k t=0∨a_m k t= -2)∧(a_m q t=0∨a_m q t= -2)):=fun q hq=> .inl (by unfold a_m;rw[hq])
 have put:∀(q:Co) (o':Int),q.Own=k.Own.set s o'→(o=0∨o= -2)→(o'=0∨o'= -2)→a_m q t=a_m k t∨((a_m k t=0∨a_m k t= -2)∧(a_m q t=0∨a_m q t= -2)):=fun q o' hq h1 h2=>by
   have e:=s_u (k:=k) (s:=(s:Int)) (t:=t) (o:=o') (w:=q.Own) (by rw[hq,Int.toNat_natCast]) (by omega) (by omega)
   have e:a_m q t=if t=(s:Int) then o' else a_m k t:=e
   rw[e]
   split
   · rename_i g
     rw[g,hos]
     exact .inr ⟨h1,h2⟩
   · exact .inl rfl
 have base : ∀ q : Co, q = (if o = -2 then c_5 occ now k l s else if o = 0 ∧ u_p c k ((k.Lines[l]?).getD zLs) s = true then { k with Own := k.Own.set s (-2), Dirty := true, Lines := k.Lines.set l { (k.Lines[l]?).getD zLs with Grant := ((k.Lines[l]?).getD zLs).PAsk, Since := 0 } } else k) →
     (q.Own=k.Own)∨∃o',q.Own=k.Own.set s o'∧(o=0∨o= -2)∧(o'=0∨o'= -2):=fun q hq=>by
   rw[hq]
   split
   · rename_i h2
     unfold c_5
     simp only
     split
     · exact .inl rfl
     split
     · exact .inl rfl
     split
     · exact .inr ⟨0,rfl, .inr h2, .inl rfl⟩
     · exact .inl rfl
   · split
     · rename_i h2
       exact .inr ⟨-2,rfl, .inl h2.1, .inr rfl⟩
     · exact .inl rfl
 unfold Go.Fw.lineStep
 simp only[ho,Option.getD_some]
 generalize hq:(if o= -2 then c_5 occ now k l s else if o=0∧u_p c k ((k.Lines[l]?).getD zLs) s=true then { k with Own:=k.Own.set s (-2),Dirty:=true,Lines:=k.Lines.set l { (k.Lines[l]?).getD zLs with Grant:=((k.Lines[l]?).getD zLs).PAsk,Since:=0 } } else k) =q
 have hb:=base q hq.symm
 have fin:∀p:Co,p.Own=q.Own→a_m p t=a_m k t∨((a_m k t=0∨a_m k t= -2)∧(a_m p t=0∨a_m p t= -2)):=fun p hp=>by
   rcases hb with hb | ⟨o',hb,h1,h2⟩
   · exact same p (hp.trans hb)
   · exact put p o' (hp.trans hb) h1 h2
 split
 · exact fin q rfl
 · exact fin _ rfl
theorem r_p {occ:List Lk}{was:Bool}(t:Int) :∀(ls:List Nat) {k:Co},k.Own.length=c.Secs.length→
   a_m (stepRun c occ now was ls k) t=a_m k t∨((a_m k t=0∨a_m k t= -2)∧(a_m (stepRun c occ now was ls k) t=0∨a_m (stepRun c occ now was ls k) t= -2))
 | [],_,_=> .inl rfl
 | l::ls,k,hl=>by
   unfold stepRun
   by_cases h0:0≤c.lineSec l
   · rw[if_pos h0]
     obtain ⟨s,hs⟩:=Int.eq_ofNat_of_zero_le h0
     have e:(c.lineSec l).toNat=s:=by omega
     rw[e]
     have h1:=a_lx (now:=now) hl (occ:=occ) (was:=was) hs t
     have h2:=r_p (occ:=occ) (was:=was) t ls (k:=lineStep c occ now was k l s) (by rw[(z_e c occ now was k l s).1];exact hl)
     rcases h1 with h1 | h1 <;> rcases h2 with h2 | h2
     · exact .inl (h2.trans h1)
     · rw[h1] at h2;exact .inr h2
     · rw[h2];exact .inr h1
     · exact .inr ⟨h1.1,h2.2⟩
   · rw[if_neg h0]
     exact r_p t ls hl
theorem a_t6 (hf:FitIs c k)(t:Int) :a_m (k.stepC c v now).1 t=a_m k t∨((a_m k t=0∨a_m k t= -2)∧(a_m (k.stepC c v now).1 t=0∨a_m (k.stepC c v now).1 t= -2)):=by
 unfold Co.stepC
 split
 · exact .inl rfl
 split
 · exact .inl rfl
 · exact r_p t _ hf.lOwn
theorem a_te (hf:FitIs c k)(t:Int) :a_m (k.stepK c v now).1 t=a_m k t∨a_m (k.stepK c v now).1 t=0:=by
 unfold Co.stepK
 split
 · exact .inl rfl
 split
 · exact .inl rfl
 · rcases a_vo (v:=v) (now:=now) hf t with e | ⟨e,_⟩
   · left;show a_m (k.stepY c v now) t=_;unfold a_m;rw[e]
   · right;show a_m (k.stepY c v now) t=_;unfold a_m;rw[e];rfl
theorem a_qc {d:Bool}(hf:FitIs c k)(hf2:FitIs c (Co.stepC c { k with Dirty:=d } v now).1) :Soft k ((Co.stepC c { k with Dirty:=d } v now).1.stepK c v now).1:=fun t=>by
 have h1:=a_t6 (v:=v) (now:=now) (hf.dirty d) t
 have h2:=a_te (v:=v) (now:=now) hf2 t
 have e:a_m { k with Dirty:=d } t=a_m k t:=rfl
 rw[e] at h1
 rcases h2 with h2 | h2
 · rw[h2]
   rcases h1 with h1 | ⟨h1,h3⟩
   · exact .inl h1
   · rcases h3 with h3 | h3
     · exact .inr (.inr h3)
     · rcases h1 with h1 | h1
       · exact .inr (.inl h1)
       · exact .inl (by rw[h3,h1])
 · exact .inr (.inr h2)
end
section
structure Stp where
 Kind:Int
 Now:Int
 N:Int
 Pos:Int
 a:Int
 d:Int
 g:Int
 v:Vw
 rec_:Bool
def Co.rcd (k:Co)(o:Stp) :Co:= { k with Dirty:=k.Dirty && !o.rec_ }
def Co.cycS (c:Cf)(k:Co)(o:Stp) :Co:=if ((k.rcd o).stepC c o.v o.Now).2≠0 then k.rcd o else (((k.rcd o).stepC c o.v o.Now).1.stepK c o.v o.Now).1
def Co.doS (c:Cf)(k:Co)(o:Stp) :Co:=
 if o.Kind=1 then (k.requestC c o.Now o.N).1
 else if o.Kind=2 then (k.cancelC c o.Now o.N).1
 else if o.Kind=3 then (k.restoreC c o.N).1
 else if o.Kind=4 then (k.releaseC c o.Now o.N).1
 else if o.Kind=5 then (k.resetC c o.Now o.N).1
 else if o.Kind=6 then (k.throwC c o.Now o.N o.Pos).1
 else if o.Kind=7 then (k.hearC c o.N o.a o.d o.g).1
 else if o.Kind=8 then k.cycS c o
 else if o.Kind=9 then (if tm 0 o.Now=true then k.backK c o.Now else k)
 else k
variable {c:Cf} {k:Co}
theorem a_od {v:Vw}{now:Int}(h:(k.stepC c v now).2=0) :k.fits c=true∧v.fits c=true∧tm 0 now=true:=by
 unfold Co.stepC at h
 split at h
 · cases h
 split at h
 · cases h
 · rename_i h1 h2
   refine ⟨?_,?_,by simp only[tm,decide_eq_true_eq];omega⟩
   · cases hk:k.fits c with
     | true=>rfl
     | false=>exact absurd (.inl hk) h1
   · cases hv:v.fits c with
     | true=>rfl
     | false=>exact absurd (.inr hv) h1
theorem a_va {v:Vw}{now:Int}(h:(k.stepC c v now).2≠0) :(k.stepC c v now).1=k:=by
 unfold Co.stepC at h ⊢
 split
 · rfl
 split
 · rfl
 · rename_i h1 h2
   rw[if_neg h1,if_neg h2] at h
   exact absurd rfl h
theorem a_n5 {v:Vw}{now:Int}(hf:FitIs c k)(hv:v.fits c=true)(hn:tm 0 now=true) :(k.stepK c v now).2.2=0∧(k.stepK c v now).1=k.stepY c v now:=by
 unfold Co.stepK
 rw [if_neg (by rintro (e | e); · rw [fits_iff.2 hf] at e; cases e
                · rw[hv] at e;cases e),if_neg (by rw[hn];decide)]
 exact ⟨rfl,rfl⟩
theorem Inv.rcd (h:Inv c k)(o:Stp) :Inv c (k.rcd o):=h.dirty _
theorem Inv.cycS (h:Inv c k)(o:Stp) :Inv c (k.cycS c o):=by
 unfold Co.cycS
 split
 · exact h.rcd o
 · rename_i he
   obtain ⟨_,h2,h3⟩:=a_od (Classical.byContradiction he)
   have hC:=(h.rcd o).stepC (v:=o.v) (now:=o.Now)
   rw[(a_n5 hC.fit h2 h3).2]
   exact hC.stepY h3
theorem Inv.doS (h:Inv c k)(o:Stp) :Inv c (k.doS c o):=by
 unfold Co.doS
 split
 · exact h.requestC _
 split
 · exact h.leadC (.inl ⟨rfl, .inl rfl⟩)
 split
 · exact h.leadC (.inr ⟨rfl,rfl⟩)
 split
 · exact h.leadC (.inl ⟨rfl, .inr rfl⟩)
 split
 · exact h.resetC _
 split
 · exact h.throwC _ _
 split
 · exact h.hearC _ _ _ _
 split
 · exact h.cycS o
 split
 · split
   · rename_i hn;exact h.back hn
   · exact h
 · exact h
theorem a_gy {r to now:Int}{fr:List Int} :(k.leadC c r to now fr).1.Own=k.Own:=by
 unfold Co.leadC Co.done
 split
 · rw[a_pj]
 · rfl
theorem a_u6 (h:Inv c k)(o:Stp)(h1:o.Kind≠1) :Soft k (k.doS c o):=by
 unfold Co.doS
 rw[if_neg h1]
 split
 · exact .of_own a_gy
 split
 · exact .of_own a_gy
 split
 · exact .of_own a_gy
 split
 · refine .of_own ?_
   unfold Co.resetC Co.done
   split <;> rfl
 split
 · refine .of_own ?_
   unfold Co.throwC Co.done
   split <;> rfl
 split
 · refine .of_own ?_
   unfold Co.hearC
   split
   · rfl
   split
   · rfl
   split <;> rfl
 split
 · unfold Co.cycS
   split
   · exact .of_own rfl
   · exact a_qc h.fit ((h.rcd o).stepC (v:=o.v) (now:=o.Now)).fit
 split
 · split
   · exact .of_own rfl
   · exact .refl k
 · exact .refl k
theorem s_r {e:Int}{y:Co}(h:(k.done e y).2≠0) :(k.done e y).1=k:=by
 unfold Co.done at h ⊢
 rw[if_neg h]
theorem a_wt {line a d g:Int}(h:(k.hearC c line a d g).2≠0) :(k.hearC c line a d g).1=k:=by
 unfold Co.hearC at h ⊢
 split
 · rfl
 split
 · rfl
 split
 · rfl
 · rename_i h1 h2 h3
   rw[if_neg h1,if_neg h2,if_neg h3] at h
   exact absurd rfl h
theorem a_ti {now:Int}{l:List UInt8}(hn:tm 0 now=false) :c.loadC now l=(zCo,3):=by
 unfold Cf.loadC
 rw[if_neg (by rintro ⟨_,_,_,e⟩;rw[hn] at e;cases e)]
end
end Go.Fw
namespace Go.Proofs.YtdmfnhbmhkgemaaGreat
open Go.Fw Go.Proofs Go.RowKit
section
variable {σ σ0:Store}
def a_xm (row:List D)(o:Stp) :Prop:=∃v0 v1 v2 v3,row=[iD o.Kind,iD o.Now,iD o.N,iD o.Pos,iD o.a,iD o.d,iD o.g,v0,v1,v2,v3, .bool o.rec_]∧VwAt v0 v1 v2 v3 o.v
theorem a_yf {row:List D}{n:Nat}(h:tyD Tryz.prog n o_u row) :∃o:Stp,a_xm row o:=by
 obtain ⟨_,_,rfl,⟨a,rfl,_⟩,_,_,rfl,⟨b,rfl,_⟩,_,_,rfl,⟨e,rfl,_⟩,_,_,rfl,⟨f,rfl,_⟩,_,_,rfl,⟨x,rfl,_⟩,_,_,rfl,⟨y,rfl,_⟩,_,_,rfl,⟨z,rfl,_⟩,d0,_,rfl,h0,d1,_,rfl,h1,d2,_,rfl,h2,d3,_,rfl,h3,_,_,rfl,⟨rc,rfl⟩,rfl⟩:=
   q_s n 5 _ _ [.int .i64, .int .i64, .int .i64, .int .i64, .int .i64, .int .i64, .int .i64, .sl e_o, .sl e_o, .sl e_o, .sl e_o, .bool] h (by kernel_rfl)
 obtain ⟨v,hv,_⟩:=a_wz h0 h1 h2 h3
 exact ⟨⟨a,b,e,f,x,y,z,v,rc⟩,d0,d1,d2,d3,rfl,hv⟩
def a_x8 (σ:Store)(n:Co)(r:RV)(s:Store) :Prop:=s=σ∧∃d0 d1 d2 d3 d4 d5,r= .tup [coA d0 d1 d2 d3 d4 d5 n.Dirty,bA true]∧CoFz d0 d1 d2 d3 d4 d5 n
theorem CoFz.fitI {d0 d1 d2 d3 d4 d5:D}{k:Co}{c:Cf}(h:CoFz d0 d1 d2 d3 d4 d5 k)(hf:FitIs c k) :CoFit d0 d1 d2 d3 d4 d5 k:=by
 have:=q_h (fits_iff.2 hf)
 exact ⟨h.n0,h.n1,h.n2,h.n3,h.n4,h.n5,by omega,by omega,by omega,by omega,by omega,by omega⟩
theorem CoFz.rcd {d0 d1 d2 d3 d4 d5:D}{k:Co}(h:CoFz d0 d1 d2 d3 d4 d5 k)(b:Bool) :CoFz d0 d1 d2 d3 d4 d5 { k with Dirty:=b } :=
 ⟨fun s=>⟨(h.at_ s).own,(h.at_ s).routes,(h.at_ s).points,(h.at_ s).xs,(h.at_ s).lines,(h.at_ s).resets⟩,h.n0,h.n1,h.n2,h.n3,h.n4,h.n5⟩
theorem a_k9 {c0 c1 c2 c3 c4:D}{c:Cf}(h:∀s,CfAt s c0 c1 c2 c3 c4 c)(now:Int)(h1:c.Secs.length≤2 ^ 20)(h2:c.Xs.length≤2 ^ 20)(h3:c.Rts.length≤2 ^ 20) :
   DCalls Tryz.prog h_d [cfA c0 c1 c2 c3 c4 c,iA now] σ fun r s=>s=σ∧∃d0 d1 d2 d3 d4 d5,r= .a (coA d0 d1 d2 d3 d4 d5 true)∧CoFz d0 d1 d2 d3 d4 d5 (b_j c now):=by
 refine (o_3 h now h1 h2 h3).ret ?_
 rintro r s ⟨d0,d1,d2,d3,d4,d5,rfl,hco⟩
 obtain ⟨e0,e1,e2,e3,e4,e5,hfz,hz⟩:=a_qi hco
 exact ⟨.a (coA e0 e1 e2 e3 e4 e5 true),σ, .pure hco.own.ext hfz,rfl,_,_,_,_,_,_,rfl,hz⟩
theorem a_pb {c0 c1 c2 c3 c4 k0 k1 k2 k3 k4 k5 v0 v1 v2 v3:D}{c:Cf}(hc:∀s,CfAt s c0 c1 c2 c3 c4 c)(hz:u_s c4){k:Co}(hk:CoFz k0 k1 k2 k3 k4 k5 k)(hi:Inv c k)(o:Stp)(hv:VwAt v0 v1 v2 v3 o.v) :
   DCalls Tryz.prog v_c [cfA c0 c1 c2 c3 c4 c,coA k0 k1 k2 k3 k4 k5 k.Dirty, .agg [iD o.Kind,iD o.Now,iD o.N,iD o.Pos,iD o.a,iD o.d,iD o.g,v0,v1,v2,v3, .bool o.rec_]] σ (a_x8 σ (k.doS c o)):=by
 have hkf:=hk.fitI hi.fit
 have hsm:=a_y hi.fit.chk
 refine a_rp _ _ _ _ _ _ _ _ _ k0 k1 k2 k3 k4 k5 k.Dirty o.Kind o.Now o.N o.Pos o.a o.d o.g v0 v1 v2 v3 o.rec_ σ _ ?_
 intro R hR
 have fin : ∀ (p : Co × Int) (q : Co) (e0 e1 e2 e3 e4 e5 d0 d1 d2 d3 d4 d5 f0 f1 f2 f3 f4 f5 : D) (fb : Bool), CoFz e0 e1 e2 e3 e4 e5 q → CoFz d0 d1 d2 d3 d4 d5 p.1 → (p.2 ≠ 0 → p.1 = q) → p.1 = k.doS c o →
     R e0 e1 e2 e3 e4 e5 q.Dirty f0 f1 f2 f3 f4 f5 fb d0 d1 d2 d3 d4 d5 p.1.Dirty p.2 σ:=fun p q e0 e1 e2 e3 e4 e5 d0 d1 d2 d3 d4 d5 f0 f1 f2 f3 f4 f5 fb hq hd hno hdo=>
   hR _ _ _ _ _ _ _ _ _ _ _ _ _ _ _ _ _ _ _ _ _ _ σ (bce (fun _=>⟨rfl,d0,d1,d2,d3,d4,d5,by rw[hdo],by rw[←hdo];exact hd⟩) (fun e=>(u_i (hd.at_ σ) (hq.at_ σ)).use ⟨_,rfl,rfl,d0,d1,d2,d3,d4,d5,by rw[decide_eq_true (hno e),hdo],by rw[←hdo];exact hd⟩))
 have call : ∀ {f : FuncId} {xs : List A} {p : Co × Int}, DCalls Tryz.prog f xs σ (CoPost σ p) → (p.2 ≠ 0 → p.1 = k) → p.1 = k.doS c o →
     DCalls Tryz.prog f xs σ fun r s=>∃d d1 d2 d3 d4 d5:D,∃b:Bool,∃n:Int,r= .tup [.agg [d,d1,d2,d3,d4,d5, .bool b], .one (.int .i64 n)]∧R k0 k1 k2 k3 k4 k5 k.Dirty .nils .nils .nils .nils .nils .nils false d d1 d2 d3 d4 d5 b n s:=fun {f xs p} h hno hdo=>by
   refine (a_ej h).mono ?_
   rintro r s ⟨rfl,d0,d1,d2,d3,d4,d5,rfl,hd⟩
   exact ⟨d0,d1,d2,d3,d4,d5,_,_,rfl,fin p k _ _ _ _ _ _ _ _ _ _ _ _ _ _ _ _ _ _ _ hk hd hno hdo⟩
 have hat:=hk.at_ σ
 unfold Co.doS at fin call
 refine bce (fun e=>?_) (fun n1=>?_)
 · rw[if_pos e] at call
   exact call (a_am hc hat hkf hz o.Now o.N) s_r rfl
 rw[if_neg n1] at fin call
 refine bce (fun e=>?_) (fun n2=>?_)
 · rw[if_pos e] at call
   exact call (a_do hc hat hkf o.Now o.N) s_r rfl
 rw[if_neg n2] at fin call
 refine bce (fun e=>?_) (fun n3=>?_)
 · rw[if_pos e] at call
   exact call (a_ae hc hat hkf o.N) s_r rfl
 rw[if_neg n3] at fin call
 refine bce (fun e=>?_) (fun n4=>?_)
 · rw[if_pos e] at call
   exact call (a_ao hc hat hkf o.Now o.N) s_r rfl
 rw[if_neg n4] at fin call
 refine bce (fun e=>?_) (fun n5=>?_)
 · rw[if_pos e] at call
   exact call (a_gj hc hat hkf o.Now o.N) s_r rfl
 rw[if_neg n5] at fin call
 refine bce (fun e=>?_) (fun n6=>?_)
 · rw[if_pos e] at call
   exact call (a_em hc hat hkf o.Now o.N o.Pos) s_r rfl
 rw[if_neg n6] at fin call
 refine bce (fun e=>?_) (fun n7=>?_)
 · rw[if_pos e] at call
   exact call (a_ik hc hat hkf o.N o.a o.d o.g) a_wt rfl
 rw[if_neg n7] at fin call
 have hdo:k.doS c o=if o.Kind=8 then k.cycS c o else if o.Kind=9 then (if tm 0 o.Now=true then k.backK c o.Now else k) else k:=by
   unfold Co.doS
   rw[if_neg n1,if_neg n2,if_neg n3,if_neg n4,if_neg n5,if_neg n6,if_neg n7]
 refine bce (fun e8=>?_) (fun n8=>?_)
 · rw[if_pos e8] at fin hdo
   rw[hdo]
   intro R1 hR1
   have hq:=hk.rcd (k.Dirty && !o.rec_)
   have hqi:=hi.rcd o
   have body:R1 k0 k1 k2 k3 k4 k5 (k.Dirty && !o.rec_) σ:=by
     refine hR1 _ _ _ _ _ _ _ σ ((a_ej (a_hp (k:=k.rcd o) hc (hq.at_ σ) (hq.fitI hqi.fit) hv o.Now)).mono ?_)
     rintro r s ⟨rfl,d0,d1,d2,d3,d4,d5,rfl,hd⟩
     refine ⟨d0,d1,d2,d3,d4,d5,_,_,rfl,bcn (fun e=>?_) (fun e=>?_)⟩
     · have hs:=a_va e
       refine (u_i (hd.at_ s) (k':=k.rcd o) (hq.at_ s)).use ⟨_,rfl,rfl,k0,k1,k2,k3,k4,k5,?_,?_⟩
       · unfold Co.cycS
         rw[if_pos e,decide_eq_true hs];rfl
       · unfold Co.cycS
         rw[if_pos e];exact hq
     · obtain ⟨_,hv2,hn2⟩:=a_od e
       have hC:=hqi.stepC (v:=o.v) (now:=o.Now)
       refine (a_i8 hc hz hv (hd.at_ s) (hd.fitI hC.fit) o.Now).mono ?_
       rintro r s ⟨rfl,g0,g1,g2,g3,g4,g5,g6,rfl,hg,_⟩
       have hK:=a_n5 hC.fit hv2 hn2
       refine ⟨g0,g1,g2,g3,g4,g5,_,g6,_,rfl,fin ((((k.rcd o).stepC c o.v o.Now).1.stepK c o.v o.Now).1,(((k.rcd o).stepC c o.v o.Now).1.stepK c o.v o.Now).2.2) (k.rcd o) _ _ _ _ _ _ _ _ _ _ _ _ _ _ _ _ _ _ _ hq hg (fun g=>absurd hK.1 g) ?_⟩
       unfold Co.cycS
       rw[if_neg (fun g=>g e)]
   cases hdk:k.Dirty with
   | true=>
     rw[hdk,Bool.true_and] at body
     exact ⟨by trivial,body⟩
   | false=>
     rw[hdk,Bool.false_and] at body
     exact ⟨by trivial,body⟩
 rw[if_neg n8] at fin hdo
 refine bce (fun e9=>?_) (fun n9=>?_)
 · rw[if_pos e9] at hdo
   rw[hdo]
   have hfs:=q_h (fits_iff.2 hi.fit)
   refine (a_id hat (by omega) (by omega) (fun w hw=>by have:=hi.fit.own w hw;omega)).use ⟨_,_,rfl,?_⟩
   rw[a_tr hi.fit]
   have hbl:k.saveB.length≤2 ^ 60:=by
     unfold Co.saveB
     rw[List.length_append,List.length_append,n_o z_c,n_o a_la,n_o a_sr,List.length_take]
     omega
   refine bcn (fun e=>absurd rfl e) (fun _=>(a_ej (a_if hc o.Now (by omega) (by omega) (by omega) hbl)).mono ?_)
   rintro r s ⟨rfl,d0,d1,d2,d3,d4,d5,rfl,hd⟩
   cases htm:tm 0 o.Now with
   | true=>
     rw[a_td hi.fit htm] at hd ⊢
     exact ⟨d0,d1,d2,d3,d4,d5,_,_,rfl,bcn (fun e=>absurd rfl e) (fun _=>⟨rfl,d0,d1,d2,d3,d4,d5,by rw[if_pos rfl],by rw[if_pos rfl];exact hd⟩)⟩
   | false=>
     rw[a_ti htm] at hd ⊢
     exact ⟨d0,d1,d2,d3,d4,d5,_,_,rfl,bcn (fun _=>(b_3 o.Now).use ⟨_,rfl,rfl,k0,k1,k2,k3,k4,k5,by rw[htm,if_neg (by decide)];rfl,by rw[if_neg (by decide)];exact hk⟩) (fun e=>by cases e)⟩
 · rw[if_neg n9] at fin
   exact fin (k,0) k _ _ _ _ _ _ _ _ _ _ _ _ _ _ _ _ _ _ _ hk hk (fun e=>absurd rfl e) rfl
theorem law22_WatchHands_ok {xs:List A}(h:TyAs Tryz.prog [t_Config,t_sl_law22_Step] xs) :a_xc k_n xs:=by
 obtain ⟨a0,xs,rfl,h0,hr0⟩:=a_og h
 obtain ⟨a1,xs,rfl,h1,hr1⟩:=a_og hr0
 obtain rfl:=a_w6 hr1
 obtain ⟨cs,_,rfl,p0⟩:=a_wr h0 (by kernel_rfl)
 obtain ⟨c0,c1,c2,c3,c4,c,rfl,hc,hci,hz⟩:=a_ru p0
 obtain ⟨script,rfl,p1⟩:=a_un (c:= .sl o_u) h1 (by kernel_rfl) (by kernel_rfl)
 obtain ⟨rows,sc,hsc,hlen,hrel,_,hscl⟩:=a_vf (bytes:=160) a_xm (fun row n h=>a_yf h) (by kernel_rfl) (by omega) p1
 clear h h0 h1 hr0 hr1 p0 p1
 refine u_8 _ _ _ _ _ _ _ _ _ script noS _ (law22_lives_ok.use ⟨true,rfl,a_q (fun e=>by cases e) (fun _=>(q_q hc).use ⟨_,rfl,bcn (fun _=>rfl) (fun hok=>?_)⟩)⟩)
 have hsm:=a_y hok
 refine (a_k9 hc 0 (by omega) (by omega) (by omega)).mono ?_
 rintro r s0 ⟨rfl,d0,d1,d2,d3,d4,d5,rfl,hk0⟩
 have hsz:=(hsc noS).size
 refine ⟨_,_,_,_,_,_,_,rfl,(hsc noS).lenK ⟨fun e0 e1 e2 e3 e4 e5 b n s=>∃(j:Nat) (k:Co),n=j∧j≤rows.length∧CoFz e0 e1 e2 e3 e4 e5 k∧Inv c k∧b=k.Dirty,fun _ _ _ _ _ _ _ n _=>rows.length - n.toNat,
   ⟨0,_,rfl,by omega,hk0,a_wh hok (by decide),rfl⟩,?_⟩⟩
 rintro e0 e1 e2 e3 e4 e5 b n s ⟨j,k,rfl,hj,hk,hi,rfl⟩
 refine bcd (fun hlt=>?_) (fun _=>rfl)
 have hlt:j < rows.length:=by omega
 obtain ⟨row,hrow⟩:=a_i (l:=rows) (j:=j) hlt
 obtain ⟨o,ho⟩:=a_i (l:=sc) (j:=j) (by omega)
 obtain ⟨v0,v1,v2,v3,rfl,hv⟩:=hrel j row o hrow ho
 refine (hsc s).load hrow a_lo rfl ⟨o.Kind,o.Now,o.N,o.Pos,o.a,o.d,o.g,v0,v1,v2,v3,o.rec_,rfl,(a_pb hc hz hk hi o hv).mono ?_⟩
 rintro r s1 ⟨rfl,f0,f1,f2,f3,f4,f5,rfl,hn⟩
 have hI:=hi.doS o
 refine ⟨f0,f1,f2,f3,f4,f5,_,true,rfl,a_q (fun e=>by cases e) (fun _=>(a_gn hc hk.at_ hn.at_ k.Dirty (k.doS c o).Dirty).mono ?_)⟩
 rintro r s2 ⟨rfl,d,rfl,hd⟩
 have hwz:=(hd s2).size
 rw[List.length_map] at hwz
 refine ⟨d,rfl,(hd s2).lenK ⟨fun n s=>∃i:Nat,n=i∧i≤(k.worse c (k.doS c o)).length,fun n _=>(k.worse c (k.doS c o)).length - n.toNat,⟨0,rfl,by omega⟩,?_⟩⟩
 rintro n s ⟨i,rfl,hile⟩
 rw[List.length_map]
 refine bcd (fun hil=>?_) (fun _=>?_)
 · have hil:i < (k.worse c (k.doS c o)).length:=by omega
   obtain ⟨t,ht⟩:=a_i (l:=k.worse c (k.doS c o)) (j:=i) hil
   have htm:=List.mem_of_getElem? ht
   have h1:o.Kind=1:=Classical.byContradiction fun hne=>by
     rw[(a_u6 hi o hne).worse] at htm;cases htm
   have hreq:k.doS c o=(k.requestC c o.Now o.N).1:=by unfold Co.doS;rw[if_pos h1]
   rw[hreq] at htm hn
   obtain ⟨w1,⟨y,hy⟩,w2,w3,w4⟩:=a_s7 hi.fit htm
   have hgy:=a_l hy
   have hyl:=(List.getElem?_eq_some_iff.1 hgy.2.2).1
   obtain ⟨rws,hrt,hrl⟩:=j_s (hc s)
   have hlo:=hi.fit.lOwn
   obtain ⟨u,hu⟩:=c_s (l:=k.Own) (i:=t) (by omega) (by omega)
   have hI2:=hi.requestC (now:=o.Now) o.N
   have hlo2:=hI2.fit.lOwn
   obtain ⟨w,hw⟩:=c_s (l:=(k.requestC c o.Now o.N).1.Own) (i:=t) (by omega) (by omega)
   have hwv:w=o.N+1:=by
     unfold a_m at w4
     rw[hw] at w4;exact w4
   refine (hd s).load (a_c ht) c_int rfl ⟨t,rfl,bcn (fun e=>absurd h1 e) (fun _=>bcd (fun e=>absurd e (by have:=hgy.1;omega)) (fun _=>hrt.lenK (bcd (fun e=>absurd e (by rw[hrl];have:=hgy.1;omega)) (fun _=>?_))))⟩
   refine (y_w hc (k:=k) (b:=k.Dirty) (hk.at_ s).own hu (hi.fit.own u (d_l hu)) (r:=o.N) ⟨hgy.1,by have:=hgy.1;omega⟩).use ⟨_,rfl,a_q (fun e=>by rw[w3] at e;cases e) (fun _=>?_)⟩
   refine (hn.at_ s).own.load (a_c (a_l hw).2.2) c_int (Int.toNat_of_nonneg w2.1).symm ⟨w,rfl,bcn (fun e=>absurd ?_ e) (fun _=>⟨by trivial,?_⟩)⟩
   · rw[hwv,a_u (by have:=hgy.1;omega) (by have:=hgy.1;omega)]
   · rw[a_o (by omega)]
     exact ⟨⟨i+1,rfl,hil⟩,c_w hil⟩
 · rw[a_o (by omega)]
   exact ⟨⟨j+1,k.doS c o,rfl,hlt,hn,hI,rfl⟩,c_w hlt⟩
end
end Go.Proofs.YtdmfnhbmhkgemaaGreat
