/-
  Proofs that the statement of this claim leans on: part 5.
-/
import Derived.Test.YtdmfnhbmhkgemaaGreatP4
set_option linter.unusedVariables false
set_option linter.unusedSimpArgs false
namespace Go.Proofs.YtdmfnhbmhkgemaaGreat
open Go.Fw Go.Proofs Go.RowKit
section
variable {σ:Store}
section
variable {σ0:Store} {id:Nat} {d0 d1 d2 d3 d4 d5 c0 c1 c2 c3 c4 v0 v1 v2 v3:D} {k:Co} {c:Cf} {now:Int} {was:Bool}
theorem m_s {s:Store}{el:TypeId}{d:D}{rs:List (List D)}{i:Nat}(h:Own Tryz.prog σ0 s el d rs)(hi:a_0 d=some i) :σ0 i= .free:=by
 cases d with
 | osl j a n=>
   have:j=i:=by simpa[a_0] using hi
   subst this
   exact h.new _ _ _ rfl
 | _=>simp[a_0] at hi
theorem pw {l:List D}(h:l.Pairwise Apart){i j:Nat}{a b:D}(hi:l[i]? =some a)(hj:l[j]? =some b)(hne:i≠j) :Apart a b:=by
 obtain ⟨h1,rfl⟩:=List.getElem?_eq_some_iff.1 hi
 obtain ⟨h2,rfl⟩:=List.getElem?_eq_some_iff.1 hj
 rw[List.pairwise_iff_getElem] at h
 rcases Nat.lt_or_gt_of_ne hne with g | g
 · exact h i j h1 h2 g
 · exact (h j i h2 h1 g).symm
theorem a_v3 (h:DeskAt σ0 σ id d0 d1 d2 d3 d4 d5 k c0 c1 c2 c3 c4 c v0 v1 v2 v3 now was){j n:Nat}{o w:Int}(hj:k.Own[j]? =some o)(hn:n=j){K:Store→Prop}
   (hK:∀s',DeskAt σ0 s' id d0 d1 d2 d3 d4 d5 { k with Own:=k.Own.set j w } c0 c1 c2 c3 c4 c v0 v1 v2 v3 now was→K s') :a_j [iD w] σ d0 n 0 K:=by
 refine h.co.own.at_.store h.co.own.nsl (a_c hj) hn (by simp[Go.Fw.encI]) fun s' i hi hat hs hne=>hK s' ?_
 have hf:=m_s h.co.own hi
 have ap:∀{m:Nat} {d:D},[d0,d1,d2,d3,d4,d5][m]? =some d→m≠0→a_0 d≠some i:=fun hm hne0=>pw h.co.apart (i:=0) rfl hm (Ne.symm hne0) i hi
 have hii:i≠id:=fun e=>h.ids d0 (by simp) (by rw[hi,e])
 refine ⟨h.new,by rw[hs id (Ne.symm hii)];exact h.row,⟨⟨?_,?_,h.co.own.new,h.co.own.nsl,h.co.own.nz⟩,a_g h.co.routes hf (ap (m:=1) rfl (by omega)) hs,a_g h.co.points hf (ap (m:=2) rfl (by omega)) hs,a_g h.co.xs hf (ap (m:=3) rfl (by omega)) hs,a_g h.co.lines hf (ap (m:=4) rfl (by omega)) hs,a_g h.co.resets hf (ap (m:=5) rfl (by omega)) hs,h.co.apart⟩,h.ids,?_⟩
 · have e:(List.map Go.Fw.encI k.Own).set j (patch (Go.Fw.encI o) 0 [iD w]) =(k.Own.set j w).map Go.Fw.encI:=map_set Go.Fw.encI k.Own j w
   rw[e] at hat;exact hat
 all_goals
   intro i' hi'
   have hne':i'≠i:=fun e=>hi' (by rw[e];exact hf)
   rw[hs i' hne'];exact h.ext i' hi'
theorem h_8 (h:DeskAt σ0 σ id d0 d1 d2 d3 d4 d5 k c0 c1 c2 c3 c4 c v0 v1 v2 v3 now was){j n off:Nat}{x y:Ls}{ys:List D}(hj:k.Lines[j]? =some x)(hn:n=j)(ho:off+ys.length≤8)(hp:patch x.enc off ys=y.enc){K:Store→Prop}
   (hK:∀s',DeskAt σ0 s' id d0 d1 d2 d3 d4 d5 { k with Lines:=k.Lines.set j y } c0 c1 c2 c3 c4 c v0 v1 v2 v3 now was→K s') :a_j ys σ d4 n off K:=by
 refine h.co.lines.at_.store h.co.lines.nsl (a_c hj) hn ho fun s' i hi hat hs hne=>hK s' ?_
 have hf:=m_s h.co.lines hi
 have ap:∀{m:Nat} {d:D},[d0,d1,d2,d3,d4,d5][m]? =some d→m≠4→a_0 d≠some i:=fun hm hne0=>pw h.co.apart (i:=4) rfl hm (Ne.symm hne0) i hi
 have hii:i≠id:=fun e=>h.ids d4 (by simp) (by rw[hi,e])
 refine ⟨h.new,by rw[hs id (Ne.symm hii)];exact h.row,⟨a_g h.co.own hf (ap (m:=0) rfl (by omega)) hs,a_g h.co.routes hf (ap (m:=1) rfl (by omega)) hs,a_g h.co.points hf (ap (m:=2) rfl (by omega)) hs,a_g h.co.xs hf (ap (m:=3) rfl (by omega)) hs,⟨?_,?_,h.co.lines.new,h.co.lines.nsl,h.co.lines.nz⟩,a_g h.co.resets hf (ap (m:=5) rfl (by omega)) hs,h.co.apart⟩,h.ids,?_⟩
 · rw[hp,map_set Ls.enc k.Lines j y] at hat;exact hat
 all_goals
   intro i' hi'
   have hne':i'≠i:=fun e=>hi' (by rw[e];exact hf)
   rw[hs i' hne'];exact h.ext i' hi'
theorem a_p7 (h:DeskAt σ0 σ id d0 d1 d2 d3 d4 d5 k c0 c1 c2 c3 c4 c v0 v1 v2 v3 now was){K:Store→Prop}
   (hK:∀s',DeskAt σ0 s' id d0 d1 d2 d3 d4 d5 { k with Dirty:=true } c0 c1 c2 c3 c4 c v0 v1 v2 v3 now was→K s') :a_j [.bool true] σ (.osl id 0 1) 0 6 K:=by
 refine b_c h.row (by simp) fun s' r' hs=>hK s' ?_
 have nt:∀{d:D},d ∈ [d0,d1,d2,d3,d4,d5]→a_0 d≠some id:=fun hd=>h.ids _ hd
 refine ⟨h.new,r',⟨a_g h.co.own h.new (nt (by simp)) hs,a_g h.co.routes h.new (nt (by simp)) hs,a_g h.co.points h.new (nt (by simp)) hs,a_g h.co.xs h.new (nt (by simp)) hs,a_g h.co.lines h.new (nt (by simp)) hs,a_g h.co.resets h.new (nt (by simp)) hs,h.co.apart⟩,h.ids,?_⟩
 intro i' hi'
 have hne':i'≠id:=fun e=>hi' (by rw[e];exact h.new)
 rw[hs i' hne'];exact h.ext i' hi'
abbrev dp (id:Nat) :D:= .el (.osl id 0 1) 0 0
theorem a_b8 (h:DeskAt σ0 σ id d0 d1 d2 d3 d4 d5 k c0 c1 c2 c3 c4 c v0 v1 v2 v3 now was){j:Nat}{o w:Int}(hj:k.Own[j]? =some o) :
   DCalls Tryz.prog f_4 [.one (dp id),iA j,iA w] σ fun r s=>r= .tup []∧DeskAt σ0 s id d0 d1 d2 d3 d4 d5 { k with Own:=k.Own.set j w,Dirty:=true } c0 c1 c2 c3 c4 c v0 v1 v2 v3 now was:=by
 have hlt:=(List.getElem?_eq_some_iff.1 hj).1
 refine a_bc (dp id) j w σ _ ⟨trivial,_,_,_,rfl,_,a_d h.row,d0,rfl,h.co.own.at_.idxK c_int rfl (by rw[List.length_map];omega) (a_v3 h hj (by omega) fun s1 h1=>⟨trivial,_,_,_,rfl,a_p7 h1 fun s2 h2=>⟨rfl,h2⟩⟩)⟩
end
end
section
variable {σ:Store}
section
variable {σ0:Store} {id:Nat} {d0 d1 d2 d3 d4 d5 c0 c1 c2 c3 c4 v0 v1 v2 v3:D} {k:Co} {c:Cf} {now:Int} {was:Bool} {occ:List Lk}
theorem u_x {l:List Ls}{j:Nat}(a b:Ls) :(l.set j a).set j b=l.set j b:=List.set_set ..
theorem a_k6 (h:DeskAt σ0 σ id d0 d1 d2 d3 d4 d5 k c0 c1 c2 c3 c4 c v0 v1 v2 v3 now was)(hv:∀s,At Tryz.prog s e_o v0 (occ.map Lk.enc)){line s:Nat}{x:Ls}{o:Int}{lk:Lk}
   (hx:k.Lines[line]? =some x) (ho:k.Own[s]? =some o) (hl:occ[s]? =some lk) :
   DCalls Tryz.prog h_2 [.one (dp id), .one (.el d4 line 0),iA s] σ fun r s'=>r= .tup []∧DeskAt σ0 s' id d0 d1 d2 d3 d4 d5 (c_5 occ now k line s) c0 c1 c2 c3 c4 c v0 v1 v2 v3 now was:=by
 have lrow:Row σ d4 line x.enc:=h.co.lines.at_.row (a_c hx)
 have hb : c_5 occ now k line s = if x.PDone < x.Grant then { k with Lines := k.Lines.set line { x with Since := 0 } }
     else if x.Since=0 then { k with Lines:=k.Lines.set line { x with Since:=w64 (now+1) } }
     else if lk.Valid=true∧lk.Value=0∧x.Since≤lk.Stamp then { k with Own:=k.Own.set s 0,Dirty:=true,Lines:=k.Lines.set line { x with Since:=0 } }
     else k:=by
   unfold c_5;rw[hx,hl];rfl
 refine z_k (dp id) (.el d4 line 0) s σ _ ⟨trivial,_,_,_,rfl,_,a_d h.row,v0,rfl,(hv σ).load (a_c hl) w_o rfl ⟨lk.Value,lk.Stamp,lk.Valid,rfl,trivial,_,_,_,rfl,_,lrow,x.PDone,rfl,trivial,_,_,_,rfl,_,lrow,x.Grant,rfl,?_⟩⟩
 refine bcd (fun h1=>⟨trivial,_,_,_,rfl,h_8 h hx rfl (by simp) (y:= { x with Since:=0 }) rfl fun s' h'=>⟨rfl,by rw[hb,if_pos h1];exact h'⟩⟩) (fun h1=>⟨trivial,_,_,_,rfl,_,lrow,x.Since,rfl,?_⟩)
 rw[if_neg h1] at hb
 refine bce (fun h2=>⟨trivial,_,_,_,rfl,_,a_d h.row,now,rfl,trivial,_,_,_,rfl,h_8 h hx rfl (by simp) (y:= { x with Since:=w64 (now+1) }) rfl fun s' h'=>⟨rfl,by rw[hb,if_pos h2];exact h'⟩⟩) (fun h2=>?_)
 rw[if_neg h2] at hb
 have no:¬(lk.Valid=true∧lk.Value=0∧x.Since≤lk.Stamp)→(RV.tup []= .tup []∧DeskAt σ0 σ id d0 d1 d2 d3 d4 d5 (c_5 occ now k line s) c0 c1 c2 c3 c4 c v0 v1 v2 v3 now was):=fun hn=>⟨rfl,by rw[hb,if_neg hn];exact h⟩
 refine bc (fun h3=>bce (fun h4=>⟨trivial,_,_,_,rfl,_,lrow,x.Since,rfl,bcd (fun h5=>?_) (fun h5=>no fun g=>h5 g.2.2)⟩) (fun h4=>no fun g=>h4 g.2.1)) (fun h3=>no fun g=>by rw[g.1] at h3;cases h3)
 refine (a_b8 h (w:=0) ho).mono ?_
 rintro r s' ⟨rfl,h'⟩
 refine ⟨rfl,trivial,_,_,_,rfl,h_8 h' (x:=x) hx rfl (by simp) (y:= { x with Since:=0 }) rfl fun s'' h''=>⟨rfl,?_⟩⟩
 rw[hb,if_pos ⟨h3,h4,h5⟩];exact h''
theorem a_pw (h:DeskAt σ0 σ id d0 d1 d2 d3 d4 d5 k c0 c1 c2 c3 c4 c v0 v1 v2 v3 now was)(hc:∀s,CfAt s c0 c1 c2 c3 c4 c){line:Nat}{x:Ls}(s:Int)(hx:k.Lines[line]? =some x) :
   Pure Tryz.prog h_9 [.one (dp id), .one (.el d4 line 0),iA s] σ (.a (bA (u_p c k x s))):=by
 have lrow:Row σ d4 line x.enc:=h.co.lines.at_.row (a_c hx)
 have hl:=h.co.routes.at_.size
 rw[List.length_map] at hl
 refine a_ba (dp id) (.el d4 line 0) s σ _ ⟨trivial,_,_,_,rfl,_,a_d h.row,d1,rfl,h.co.routes.at_.lenK ⟨fun n τ=>τ=σ∧Rng k.Routes (fun r=>u_u c s r n.toNat=u_u c s k.Routes 0) n,fun n _=>k.Routes.length - n.toNat,⟨rfl, .start rfl⟩,?_⟩⟩
 rintro n τ ⟨rfl,hr⟩
 refine bcd (fun hlt=>?_) (fun hge=>?_)
 · obtain ⟨j,y,rfl,hy,hj,hF,nx⟩:=hr.step (by simp) hl hlt
   rw[u_u,Int.toNat_natCast] at hF
   have hw:w64 ((j:Int) +1) =((j+1:Nat) :Int):=a_o (by omega)
   have go:(decide (y.State≠0) && decide (c.Approach j=s)) =false→(τ=τ∧Rng k.Routes (fun r=>u_u c s r (w64 ((j:Int) +1)).toNat=u_u c s k.Routes 0) (w64 ((j:Int) +1)))∧k.Routes.length - (w64 ((j:Int) +1)).toNat < k.Routes.length - (j:Int).toNat:=by
     intro hn
     rw[hn,Bool.false_or] at hF
     refine c_0 rfl (nx (fun r=>u_u c s r (w64 ((j:Int) +1)).toNat=u_u c s k.Routes 0) ?_)
     rw[hw];exact hF
   refine h.co.routes.at_.load (a_c hy) a_x rfl ⟨y.State,y.Since,y.Next,y.Mark,rfl,bcn (fun h1=>⟨trivial,_,_,_,rfl,_,a_d h.row,c0,c1,c2,c3,c4,c.Age,c.Brake,c.Hold,c.Budget,rfl,(n_b (hc τ) j).use ⟨_,rfl,bce (fun h2=>⟨?_,rfl⟩) (fun h2=>go (by simp[h2]))⟩⟩) (fun h1=>go (by simp[h1]))⟩
   have e:(decide (y.State≠0) && decide (c.Approach j=s)) =true:=by simp[h1,h2]
   rw[e,Bool.true_or] at hF
   rw[u_p,←hF];rfl
 · have hF:false=u_u c s k.Routes 0:=hr.done (by simp) hge
   refine ⟨trivial,_,_,_,rfl,_,lrow,x.PAsk,rfl,trivial,_,_,_,rfl,_,lrow,x.Grant,rfl,trivial,_,_,_,rfl,_,lrow,x.PDone,rfl,bc (fun h1=>⟨trivial,_,_,_,rfl,_,lrow,x.Ask,rfl,trivial,_,_,_,rfl,_,lrow,x.Done,rfl,?_,rfl⟩) (fun h1=>⟨?_,rfl⟩)⟩
   · rw[u_p,←hF,h1]
     congr 4
   · rw[u_p,←hF,h1];rfl
theorem a_gm (occ:List Lk)(now:Int)(k:Co)(l s:Nat){x:Ls}(hx:k.Lines[l]? =some x) :∃y,(c_5 occ now k l s).Lines[l]? =some y:=by
 have hlt:=(List.getElem?_eq_some_iff.1 hx).1
 have key:∀y:Ls,(k.Lines.set l y)[l]? =some y:=fun y=>by rw[List.getElem?_set_self hlt]
 unfold c_5
 simp only
 split
 · exact ⟨_,key _⟩
 split
 · exact ⟨_,key _⟩
 split
 · exact ⟨_,key _⟩
 · exact ⟨x,hx⟩
theorem a_l9 (h:DeskAt σ0 σ id d0 d1 d2 d3 d4 d5 k c0 c1 c2 c3 c4 c v0 v1 v2 v3 now was)(hc:∀s,CfAt s c0 c1 c2 c3 c4 c)(hv:∀s,At Tryz.prog s e_o v0 (occ.map Lk.enc)){line s:Nat}{x:Ls}{o:Int}{lk:Lk}
   (hx:k.Lines[line]? =some x) (ho:k.Own[s]? =some o) (hl:occ[s]? =some lk) :
   DCalls Tryz.prog h_1 [.one (dp id), .one (.el d4 line 0),iA s] σ fun r s'=>r= .tup []∧DeskAt σ0 s' id d0 d1 d2 d3 d4 d5 (lineStep c occ now was k line s) c0 c1 c2 c3 c4 c v0 v1 v2 v3 now was:=by
 have lrow:Row σ d4 line x.enc:=h.co.lines.at_.row (a_c hx)
 refine y_5 (dp id) (.el d4 line 0) s σ _ ⟨trivial,_,_,_,rfl,_,lrow,x.Grant,rfl,fun R hR=>?_⟩
 have fin : ∀ (k' : Co) (y : Ls) (s' : Store), k'.Lines[line]? = some y → DeskAt σ0 s' id d0 d1 d2 d3 d4 d5 k' c0 c1 c2 c3 c4 c v0 v1 v2 v3 now was →
     (if o= -2 then c_5 occ now k line s else if o=0∧u_p c k x s=true then { k with Own:=k.Own.set s (-2),Dirty:=true,Lines:=k.Lines.set line { x with Grant:=x.PAsk,Since:=0 } } else k) =k'→R s':=by
   intro k' y s' hy h' he
   have hstep:lineStep c occ now was k line s=if was=true then k' else { k' with Lines:=k'.Lines.set line { y with Told:=x.Grant } } :=by
     unfold lineStep
     rw[hx,ho]
     simp only[Option.getD_some]
     rw[he,hy]
     rfl
   refine hR s' ⟨trivial,_,_,_,rfl,_,a_d h'.row,was,rfl,a_q (fun hw=>⟨trivial,_,_,_,rfl,h_8 h' hy rfl (by simp) (y:= { y with Told:=x.Grant }) rfl fun s'' h''=>⟨rfl,?_⟩⟩) (fun hw=>⟨rfl,?_⟩)⟩
   · rw[hstep,if_neg (by rw[hw];simp)];exact h''
   · rw[hstep,if_pos hw];exact h'
 have hlt:=(List.getElem?_eq_some_iff.1 hx).1
 refine ⟨trivial,_,_,_,rfl,_,a_d h.row,d0,rfl,h.co.own.at_.load (a_c ho) c_int rfl ⟨o,rfl,bce (fun h1=>?_) (fun h1=>⟨trivial,_,_,_,rfl,_,a_d h.row,d0,rfl,h.co.own.at_.load (a_c ho) c_int rfl ⟨o,rfl,bce (fun h2=>?_) (fun h2=>?_)⟩⟩)⟩⟩
 · refine (a_k6 h hv hx ho hl).mono ?_
   rintro r s' ⟨rfl,h'⟩
   obtain ⟨y,hy⟩:=a_gm occ now k line s hx
   exact ⟨rfl,fin _ y s' hy h' (by rw[if_pos h1])⟩
 · refine (a_pw h hc s hx).use ⟨_,rfl,bc (fun h3=>?_) (fun h3=>fin k x σ hx h (by rw[if_neg h1,if_neg (by rw[h3];simp)]))⟩
   refine (a_b8 h (w:= -2) ho).mono ?_
   rintro r s1 ⟨rfl,g1⟩
   have lrow1:Row s1 d4 line x.enc:=g1.co.lines.at_.row (a_c hx)
   refine ⟨rfl,trivial,_,_,_,rfl,_,lrow1,x.PAsk,rfl,trivial,_,_,_,rfl,h_8 g1 (x:=x) hx rfl (by simp) (y:= { x with Grant:=x.PAsk }) rfl fun s2 g2=>⟨trivial,_,_,_,rfl,?_⟩⟩
   refine h_8 g2 (x:= { x with Grant:=x.PAsk }) (List.getElem?_set_self hlt) rfl (by simp) (y:= { x with Grant:=x.PAsk,Since:=0 }) rfl fun s3 g3=>?_
   refine fin _ { x with Grant:=x.PAsk,Since:=0 } s3 (by rw[u_x];exact List.getElem?_set_self hlt) g3 ?_
   rw[if_neg h1,if_pos ⟨h2,h3⟩,u_x]
 · exact fin k x σ hx h (by rw[if_neg h1,if_neg (fun g=>h2 g.1)])
end
end
end Go.Proofs.YtdmfnhbmhkgemaaGreat
namespace Go.Fw
section
structure Vw where
 Occ:List Lk
 Pos:List Lk
 Shut:List Lk
 Lamp:List Lk
def Vw.fits (c:Cf)(v:Vw) :Bool:=decide (v.Occ.length=c.Secs.length∧v.Pos.length=c.Secs.length∧v.Shut.length=c.Xs.length∧v.Lamp.length=c.Sigs.length)
def stepRun (c:Cf)(occ:List Lk)(now:Int)(was:Bool) :List Nat→Co→Co
 | [],k=>k
 | l::r,k=>stepRun c occ now was r (if 0≤c.lineSec l then lineStep c occ now was k l (c.lineSec l).toNat else k)
def Co.stepC (c:Cf)(k:Co)(v:Vw)(now:Int) :Co × Int:=
 if k.fits c=false∨v.fits c=false then (k,21) else if now < 0∨now > 4294967295 then (k,32) else (stepRun c v.Occ now k.Dirty [1,2,3] k,0)
def Co.hearC (c:Cf)(k:Co)(line a d g:Int) :Co × Int:=
 if k.fits c=false then (k,21) else if c.lineSec line < 0 then (k,20)
 else if a < 0∨d < 0∨g < 0∨a > 4294967295∨d > 4294967295∨g > 4294967295 then (k,32)
 else ({ k with Lines:=k.Lines.set line.toNat { (k.Lines[line.toNat]?).getD zLs with PAsk:=a,PDone:=d,PGrant:=g } },0)
theorem z_e (c:Cf)(occ:List Lk)(now:Int)(was:Bool)(k:Co)(l s:Nat) :(lineStep c occ now was k l s).Own.length=k.Own.length∧(lineStep c occ now was k l s).Lines.length=k.Lines.length:=by
 have hb:(c_5 occ now k l s).Own.length=k.Own.length∧(c_5 occ now k l s).Lines.length=k.Lines.length:=by
   unfold c_5
   simp only
   split
   · simp
   split
   · simp
   split <;> simp
 unfold lineStep
 simp only
 split
 · split
   · exact hb
   split <;> simp
 · split
   · simpa using hb
   split <;> simp
theorem a_m3 {α:Type}(p:α→Bool) :∀(l:List α) (j:Nat),e_q p l j≠-1→∃(i:Nat) (x:α),l[i]? =some x∧p x=true
 | [],j,h=>absurd rfl h
 | x::r,j,h=>by
   rw[e_q] at h
   by_cases hp:p x=true
   · exact ⟨0,x,rfl,hp⟩
   · rw[if_neg hp] at h
     obtain ⟨i,y,h1,h2⟩:=a_m3 p r (j+1) h
     exact ⟨i+1,y,by simpa using h1,h2⟩
theorem k_e {secs:List Sec}{js:List Jt}(h:b_m secs js=true){i:Nat}{s:Sec}(hs:secs[i]? =some s) :0≤s.Line∧s.Line≤3:=by
 unfold b_m at h
 rw[Bool.and_eq_true] at h
 have h2:=h.2
 split at h2
 · cases h2
 · exact ((r_6 _ _ _ _).1 h2 i s hs).2.2.1
theorem a_tk {c:Cf}{k:Co}(h:k.fits c=true){line:Int}(hl:¬c.lineSec line < 0) :1≤line∧line≤3:=by
 simp only[Co.fits,Bool.and_eq_true,decide_eq_true_eq] at h
 have ht:=(a_y h.1).1
 unfold Cf.lineSec at hl
 split at hl
 · omega
 · obtain ⟨i,x,h1,h2⟩:=a_m3 (fun s:Sec=>s.Line == line) c.Secs 0 (by omega)
   have:=k_e ht h1
   have e:x.Line=line:=by simpa using h2
   omega
theorem i_s {c:Cf}{k:Co}(h:k.fits c=true) :k.Own.length=c.Secs.length∧k.Points.length=c.Secs.length∧k.Resets.length=c.Secs.length∧k.Routes.length=c.Rts.length∧k.Xs.length=c.Xs.length∧k.Lines.length=4:=by
 simp only[Co.fits,Bool.and_eq_true] at h
 exact of_decide_eq_true h.2.1
end
end Go.Fw
namespace Go.Proofs.YtdmfnhbmhkgemaaGreat
open Go.Fw Go.Proofs Go.RowKit
section
variable {σ:Store}
structure VwAt (v0 v1 v2 v3:D) (v:Vw) :Prop where
 occ:∀s,At Tryz.prog s e_o v0 (v.Occ.map Lk.enc)
 pos:∀s,At Tryz.prog s e_o v1 (v.Pos.map Lk.enc)
 shut:∀s,At Tryz.prog s e_o v2 (v.Shut.map Lk.enc)
 lamp:∀s,At Tryz.prog s e_o v3 (v.Lamp.map Lk.enc)
def CoPost (σ:Store)(p:Co × Int)(r:RV)(s:Store) :Prop:=
 ∃d0 d1 d2 d3 d4 d5,r= .tup [coA d0 d1 d2 d3 d4 d5 p.1.Dirty,iA p.2]∧CoOwn σ s d0 d1 d2 d3 d4 d5 p.1
section
variable {c0 c1 c2 c3 c4 v0 v1 v2 v3 k0 k1 k2 k3 k4 k5:D} {c:Cf} {k:Co} {v:Vw}
theorem y_z (h:CoAt σ k0 k1 k2 k3 k4 k5 k)(hf:CoFit k0 k1 k2 k3 k4 k5 k)(v0 v1 v2 v3:D)(now:Int)(e:Int){Q:RV→Store→Prop}(hQ:∀r s,CoPost σ (k,e) r s→Q r s) :
   DCalls Tryz.prog b_o [cfA c0 c1 c2 c3 c4 c,coA k0 k1 k2 k3 k4 k5 k.Dirty, .agg [v0,v1,v2,v3],iA now] σ fun r1 s1=>∃d:D,r1= .a (.one d)∧a_f d∧∃s:D,∃i off:Nat,d= .el s i off∧∃row:List D,Row s1 s i row∧
     ∃d1 d2 d3 d4 d5 d6:D,∃b3:Bool,List.take 7 (List.drop (off+0) row) =[d1,d2,d3,d4,d5,d6, .bool b3]∧Q (.tup [.agg [d1,d2,d3,d4,d5,d6, .bool b3], .one (.int .i64 e)]) s1:=by
 refine (m_a h hf v0 v1 v2 v3 now).mono ?_
 rintro r s ⟨id,d0,d1,d2,d3,d4,d5,rfl,hd⟩
 exact ⟨_,rfl,trivial,_,_,_,rfl,_,a_d hd.row,d0,d1,d2,d3,d4,d5,k.Dirty,rfl,hQ _ _ ⟨d0,d1,d2,d3,d4,d5,rfl,hd.co⟩⟩
theorem a_hp (hc:∀s,CfAt s c0 c1 c2 c3 c4 c)(h:CoAt σ k0 k1 k2 k3 k4 k5 k)(hf:CoFit k0 k1 k2 k3 k4 k5 k)(hv:VwAt v0 v1 v2 v3 v)(now:Int) :
   DCalls Tryz.prog o_7 [cfA c0 c1 c2 c3 c4 c,coA k0 k1 k2 k3 k4 k5 k.Dirty, .agg [v0,v1,v2,v3],iA now] σ (CoPost σ (k.stepC c v now)):=by
 refine a_lv _ _ _ _ _ _ _ _ _ k0 k1 k2 k3 k4 k5 k.Dirty v0 v1 v2 v3 now σ _ ?_
 intro R hR R1 hR1
 have bad:(k.fits c=false∨v.fits c=false)→R1 true σ:=fun hb=>hR1 true σ (y_z h hf _ _ _ _ _ 21 fun r s hp=>by
   have:k.stepC c v now=(k,21):=by rw[Co.stepC,if_pos hb]
   rw[this];exact hp)
 have vf:∀q:Prop,¬(v.Occ.length=c.Secs.length∧v.Pos.length=c.Secs.length∧v.Shut.length=c.Xs.length∧v.Lamp.length=c.Sigs.length)→v.fits c=false:=fun q hn=>decide_eq_false hn
 refine (e_9 hc h).use ⟨_,rfl,a_q (fun e=>⟨rfl,bad (.inl e)⟩) (fun e1=>?_)⟩
 refine (hv.occ σ).lenK ((hc σ).secs.lenK (bcn (fun e=>⟨rfl,bad (.inr (vf True fun g=>e (by simp only[List.length_map];omega)))⟩) (fun e2=>?_)))
 refine (hv.pos σ).lenK ((hc σ).secs.lenK (bcn (fun e=>⟨rfl,bad (.inr (vf True fun g=>e (by simp only[List.length_map];omega)))⟩) (fun e3=>?_)))
 refine (hv.shut σ).lenK ((hc σ).xs.lenK (bcn (fun e=>⟨rfl,bad (.inr (vf True fun g=>e (by simp only[List.length_map];omega)))⟩) (fun e4=>?_)))
 refine (hv.lamp σ).lenK ((hc σ).sigs.lenK ⟨rfl,?_⟩)
 simp only[List.length_map] at e2 e3 e4 ⊢
 by_cases e5:(v.Lamp.length:Int) =(c.Sigs.length:Int)
 rotate_left
 · have:((v.Lamp.length:Int) !=(c.Sigs.length:Int)) =true:=by simpa using e5
   rw[this];exact bad (.inr (vf True fun g=>e5 (by omega)))
 have hb:((v.Lamp.length:Int) !=(c.Sigs.length:Int)) =false:=by simpa using e5
 rw[hb]
 have hvf:v.fits c=true:=decide_eq_true ⟨by omega,by omega,by omega,by omega⟩
 have hst:k.stepC c v now=if now < 0∨now > 4294967295 then (k,32) else (stepRun c v.Occ now k.Dirty [1,2,3] k,0):=by
   rw[Co.stepC,if_neg (by rw[e1,hvf];simp)]
 have hlen:k.lens c=true:=by
   have:=e1
   simp only[Co.fits,Bool.and_eq_true] at this
   exact this.2.1
 have hlen:=of_decide_eq_true hlen
 refine hR1 false σ ?_
 show a_b (decide (now < 0)) _ _
 refine bcd (fun e=>y_z h hf _ _ _ _ _ 32 fun r s hp=>by rw[hst,if_pos (.inl e)];exact hp) (fun e6=>bcd (fun e=>y_z h hf _ _ _ _ _ 32 fun r s hp=>by rw[hst,if_pos (.inr e)];exact hp) (fun e7=>?_))
 rw[if_neg (by omega)] at hst
 refine hR _ _ _ _ _ _ _ _ ((m_a h hf v0 v1 v2 v3 now).mono ?_)
 rintro r s1 ⟨id,d0,d1,d2,d3,d4,d5,rfl,hd⟩
 refine ⟨_, rfl, fun n s => ∃ (j : Nat) (k' : Co), n = j ∧ 1 ≤ j ∧ j ≤ 4 ∧ k'.Own.length = c.Secs.length ∧ k'.Lines.length = 4 ∧ DeskAt σ s id d0 d1 d2 d3 d4 d5 k' c0 c1 c2 c3 c4 c v0 v1 v2 v3 now k.Dirty ∧
     stepRun c v.Occ now k.Dirty (List.range' j (4 - j)) k'=stepRun c v.Occ now k.Dirty [1,2,3] k,fun n _=>4 - n.toNat,⟨1,k,rfl,by omega,by omega,hlen.1,hlen.2.2.2.2.2,hd,rfl⟩,?_⟩
 rintro _ s ⟨j,k',rfl,hj1,hj2,ho,hl,hd',hrun⟩
 refine bcd (fun hlt=>(n_i (hc s) j).use ⟨_,rfl,?_⟩) (fun hge=>?_)
 · have hrj : List.range' j (4 - j) = j :: List.range' (j + 1) (4 - (j + 1)) := by
     rw[show 4 - j=(4 - (j+1)) +1 by omega,List.range'_succ]
   rw[hrj,stepRun] at hrun
   have hw:w64 ((j:Int) +1) =((j+1:Nat) :Int):=a_o (by omega)
   rw[hw]
   have hmu:4 - ((j+1:Nat) :Int).toNat < 4 - ((j:Nat) :Int).toNat:=by omega
   refine bcd (fun hs=>?_) (fun hs=>⟨rfl,⟨j+1,k',rfl,by omega,by omega,ho,hl,hd',by rw[if_neg (by omega)] at hrun;exact hrun⟩,hmu⟩)
   rw[if_pos (by omega)] at hrun
   have hsb:=u_o c j
   obtain ⟨si,hsi⟩ :∃si:Nat,c.lineSec j=si:=⟨(c.lineSec j).toNat,by omega⟩
   rw[hsi] at hrun hsb ⊢
   rw[Int.toNat_natCast] at hrun
   obtain ⟨x,hx⟩:=a_i (l:=k'.Lines) (j:=j) (by omega)
   obtain ⟨o,hok⟩:=a_i (l:=k'.Own) (j:=si) (by omega)
   obtain ⟨lk,hlk⟩:=a_i (l:=v.Occ) (j:=si) (by omega)
   refine ⟨trivial,_,_,_,rfl,_,a_d hd'.row,d4,rfl,hd'.co.lines.at_.idxK c_a rfl (by rw[List.length_map];omega) ((a_l9 hd' hc hv.occ hx hok hlk).mono ?_)⟩
   rintro r s' ⟨rfl,hd''⟩
   have hll:=z_e c v.Occ now k.Dirty k' j si
   exact ⟨rfl,rfl,⟨j+1,_,rfl,by omega,by omega,by omega,by omega,hd'',hrun⟩,hmu⟩
 · have e:j=4:=by omega
   subst e
   have hrun:k'=stepRun c v.Occ now k.Dirty [1,2,3] k:=hrun
   refine ⟨trivial,_,_,_,rfl,_,a_d hd'.row,d0,d1,d2,d3,d4,d5,k'.Dirty,rfl,?_⟩
   rw[hst,←hrun]
   exact ⟨d0,d1,d2,d3,d4,d5,rfl,hd'.co⟩
theorem a_ik (hc:∀s,CfAt s c0 c1 c2 c3 c4 c)(h:CoAt σ k0 k1 k2 k3 k4 k5 k)(hf:CoFit k0 k1 k2 k3 k4 k5 k)(line a d g:Int) :
   DCalls Tryz.prog o_8 [cfA c0 c1 c2 c3 c4 c,coA k0 k1 k2 k3 k4 k5 k.Dirty,iA line, .agg [iD a,iD d,iD g]] σ (CoPost σ (k.hearC c line a d g)):=by
 have oe : ∀ e : Int, k.hearC c line a d g = (k, e) → DCalls Tryz.prog b_o [cfA c0 c1 c2 c3 c4 c, coA k0 k1 k2 k3 k4 k5 k.Dirty, .agg [.nils, .nils, .nils, .nils], iA 0] σ fun r1 s1 => ∃ d' : D, r1 = .a (.one d') ∧ a_f d' ∧ ∃ s : D, ∃ i off : Nat, d' = .el s i off ∧ ∃ row : List D, Row s1 s i row ∧
     ∃d1 d2 d3 d4 d5 d6:D,∃b3:Bool,List.take 7 (List.drop (off+0) row) =[d1,d2,d3,d4,d5,d6, .bool b3]∧CoPost σ (k.hearC c line a d g) (.tup [.agg [d1,d2,d3,d4,d5,d6, .bool b3], .one (.int .i64 e)]) s1:=fun e he=>
   y_z h hf _ _ _ _ _ e fun r s hp=>by rw[he];exact hp
 refine a_mp _ _ _ _ _ _ _ _ _ k0 k1 k2 k3 k4 k5 k.Dirty line a d g σ _ ((e_9 hc h).use ⟨_,rfl,a_q (fun e=>oe 21 (by rw[Co.hearC,if_pos e])) (fun e1=>(n_i (hc σ) line).use ⟨_,rfl,?_⟩)⟩)
 have h1 : k.hearC c line a d g = if c.lineSec line < 0 then (k, 20) else if a < 0 ∨ d < 0 ∨ g < 0 ∨ a > 4294967295 ∨ d > 4294967295 ∨ g > 4294967295 then (k, 32)
     else ({ k with Lines:=k.Lines.set line.toNat { (k.Lines[line.toNat]?).getD zLs with PAsk:=a,PDone:=d,PGrant:=g } },0):=by
   rw[Co.hearC,if_neg (by rw[e1];simp)]
 refine bcd (fun e=>oe 20 (by rw[h1,if_pos e])) (fun e2=>?_)
 rw[if_neg e2] at h1
 refine bcd (fun e=>oe 32 (by rw[h1,if_pos (by revert e;split <;> split <;> omega)])) (fun e3=>bcd (fun e=>oe 32 (by rw[h1,if_pos (by revert e;split <;> split <;> omega)])) (fun e4=>?_))
 rw[if_neg (by revert e3 e4;split <;> split <;> split <;> split <;> omega)] at h1
 have hlen:k.lens c=true:=by
   have:=e1
   simp only[Co.fits,Bool.and_eq_true] at this
   exact this.2.1
 have hlen:=of_decide_eq_true hlen
 have hr:1≤line∧line≤3:=a_tk e1 e2
 obtain ⟨x,hx⟩:=a_i (l:=k.Lines) (j:=line.toNat) (by omega)
 refine (m_a h hf _ _ _ _ _).mono ?_
 rintro r s1 ⟨id,d0,d1,d2,d3,d4,d5,rfl,hd⟩
 refine ⟨_,rfl,trivial,_,_,_,rfl,_,a_d hd.row,d4,rfl,hd.co.lines.at_.idxK (j:=line.toNat) c_a (by omega) (by rw[List.length_map];omega) (h_8 hd hx rfl (by simp) (y:= { x with PAsk:=a,PDone:=d,PGrant:=g }) rfl fun s' h'=>⟨trivial,_,_,_,rfl,_,a_d h'.row,d0,d1,d2,d3,d4,d5,k.Dirty,rfl,?_⟩)⟩
 rw[h1,hx]
 exact ⟨d0,d1,d2,d3,d4,d5,rfl,h'.co⟩
end
end
section
variable {σ:Store}
theorem s_l {s:Store}{el:TypeId}{d:D}{rs:List (List D)}(h:Own Tryz.prog σ s el d rs)(hf:∀row ∈ rs,∀x ∈ row,Flat x) :
   ∃d',Fz Tryz.prog s (fun i=>σ i≠ .free) d d'∧(∀s'',At Tryz.prog s'' el d' rs)∧d'≠ .zsl:=by
 obtain ⟨d',h1,h2⟩:=s_c h.at_ h.ext h.new hf
 exact ⟨d',h1,h2,fun e=>by subst e;cases h1;exact h.nz rfl⟩
theorem h_h {α:Type}(f:α→List D)(hf:∀a,∀d ∈ f a,Flat d)(l:List α) :∀row ∈ l.map f,∀d ∈ row,Flat d:=by
 intro row hrow d hd
 obtain ⟨a,_,rfl⟩:=List.mem_map.1 hrow
 exact hf a d hd
structure CoFz (d0 d1 d2 d3 d4 d5:D) (k:Co) :Prop where
 at_:∀s,CoAt s d0 d1 d2 d3 d4 d5 k
 n0:d0≠ .zsl
 n1:d1≠ .zsl
 n2:d2≠ .zsl
 n3:d3≠ .zsl
 n4:d4≠ .zsl
 n5:d5≠ .zsl
theorem a_qi {s:Store}{d0 d1 d2 d3 d4 d5:D}{k:Co}(h:CoOwn σ s d0 d1 d2 d3 d4 d5 k) :∃e0 e1 e2 e3 e4 e5,FzL Tryz.prog s (fun i=>σ i≠ .free) [d0,d1,d2,d3,d4,d5, .bool k.Dirty] [e0,e1,e2,e3,e4,e5, .bool k.Dirty]∧CoFz e0 e1 e2 e3 e4 e5 k:=by
 have fI:∀n:Int,∀d ∈ Go.Fw.encI n,Flat d:=fun n d hd=>by simp[Go.Fw.encI] at hd;subst hd;exact .int _ _
 have fR:∀r:Rs,∀d ∈ r.enc,Flat d:=fun r d hd=>by simp[Rs.enc] at hd;rcases hd with rfl | rfl | rfl | rfl <;> exact .int _ _
 have fM:∀r:Mv,∀d ∈ r.enc,Flat d:=fun r d hd=>by simp[Mv.enc] at hd;rcases hd with rfl | rfl <;> exact .int _ _
 have fL:∀r:Ls,∀d ∈ r.enc,Flat d:=fun r d hd=>by simp[Ls.enc] at hd;rcases hd with rfl | rfl | rfl | rfl | rfl | rfl | rfl | rfl <;> exact .int _ _
 obtain ⟨e0,a0,b0,n0⟩:=s_l h.own (h_h _ fI _)
 obtain ⟨e1,a1,b1,n1⟩:=s_l h.routes (h_h _ fR _)
 obtain ⟨e2,a2,b2,n2⟩:=s_l h.points (h_h _ fM _)
 obtain ⟨e3,a3,b3,n3⟩:=s_l h.xs (h_h _ fM _)
 obtain ⟨e4,a4,b4,n4⟩:=s_l h.lines (h_h _ fL _)
 obtain ⟨e5,a5,b5,n5⟩:=s_l h.resets (h_h _ fI _)
 exact ⟨e0,e1,e2,e3,e4,e5, .cons a0 (.cons a1 (.cons a2 (.cons a3 (.cons a4 (.cons a5 (.cons (.bool _) .nil)))))),⟨fun s=>⟨b0 s,b1 s,b2 s,b3 s,b4 s,b5 s⟩,n0,n1,n2,n3,n4,n5⟩⟩
def a_w8 (σ:Store)(p:Co × Int)(r:RV)(s:Store) :Prop:=s=σ∧∃d0 d1 d2 d3 d4 d5,r= .tup [coA d0 d1 d2 d3 d4 d5 p.1.Dirty,iA p.2]∧CoFz d0 d1 d2 d3 d4 d5 p.1
theorem a_ej {f:FuncId}{as0':List A}{p:Co × Int}(h:DCalls Tryz.prog f as0' σ (CoPost σ p)) :DCalls Tryz.prog f as0' σ (a_w8 σ p):=by
 refine h.ret ?_
 rintro r s ⟨d0,d1,d2,d3,d4,d5,rfl,hco⟩
 obtain ⟨e0,e1,e2,e3,e4,e5,hfz,hz⟩:=a_qi hco
 refine ⟨.tup [coA e0 e1 e2 e3 e4 e5 p.1.Dirty,iA p.2],σ, .pure hco.own.ext ⟨rfl,fun i x y h1 h2=>?_⟩,rfl,_,_,_,_,_,_,rfl,hz⟩
 rcases i with _ | _ | i
 · simp at h1 h2;subst h1 h2;exact hfz
 · simp at h1 h2;subst h1 h2;exact .int _ _
 · simp at h1
end
end Go.Proofs.YtdmfnhbmhkgemaaGreat
section
namespace Go.Fw
variable {P:Program}
inductive Cs
 | int (k:IntKind)
 | bool
 | str
 | sl (e:TypeId)
def q_t (g:TypeId→Option (List Cs)) :List Field→Option (List Cs)
 | []=>some []
 | f::fs=>match g f.type,q_t g fs with
   | some a,some b=>some (a ++ b)
   | _,_=>none
def j_x (P:Program) :Nat→TypeId→Option (List Cs)
 | 0,_=>none
 | m+1,t=>match P.underlying t with
   | some .bool=>some [.bool]
   | some (.int k)=>some [.int k]
   | some .string=>some [.str]
   | some (.slice e)=>some [.sl e]
   | some (.struct fs)=>q_t (j_x P m) fs.toList
   | some (.array k e)=>(j_x P m e).map fun l=>(List.replicate k l).flatten
   | _=>none
def CsOk (P:Program) :Cs→D→Prop
 | .int k,d=>∃m,d= .int k m∧(Lit.int k m).wf=true
 | .bool,d=>∃b,d= .bool b
 | .str,d=>∃s,d= .str s∧s.size≤140737488351232
 | .sl e,d=>d= .nils∨∃rows,d= .sl (P.cellsOf e) rows∧rows.length * P.bytesOf e≤140737488351232∧∀row ∈ rows,∃n,tyD P n e row
def CsL (P:Program) :List Cs→List D→Prop
 | [],ds=>ds=[]
 | s::ss,ds=>∃d r,ds=d::r∧CsOk P s d∧CsL P ss r
theorem CsL.append {a b:List Cs}{x y:List D}(h1:CsL P a x)(h2:CsL P b y) :CsL P (a ++ b) (x ++ y):=by
 induction a generalizing x with
 | nil=>simp only[CsL] at h1;subst h1;exact h2
 | cons s a ih=>
   obtain ⟨d,r,rfl,q1,q2⟩:=h1
   exact ⟨d,r ++ y,rfl,q1,ih q2⟩
theorem a_jh {g:TypeId→Option (List Cs)}{ty:TypeId→List D→Prop}(ih:∀t ds shs,ty t ds→g t=some shs→CsL P shs ds) :∀(fs:List Field) (ds:List D) (shs:List Cs),tyF P ty fs ds→q_t g fs=some shs→CsL P shs ds
 | [],ds,shs,h1,h2=>by
   simp only[tyF] at h1;simp only[q_t] at h2
   cases h2;subst h1;rfl
 | f::fs,ds,shs,h1,h2=>by
   obtain ⟨a,b,rfl,_,q1,q2⟩:=h1
   rw[q_t] at h2
   split at h2
   · rename_i x y e1 e2
     cases h2
     exact (ih _ _ _ q1 e1).append (a_jh ih fs b y q2 e2)
   · cases h2
theorem a_ui {ty:TypeId→List D→Prop}{e:TypeId}{l:List Cs}(ih:∀ds,ty e ds→CsL P l ds) :∀(k:Nat) (ds:List D),tyR P ty e k ds→CsL P (List.replicate k l).flatten ds
 | 0,ds,h=>by simp only[tyR] at h;subst h;rfl
 | k+1,ds,h=>by
   obtain ⟨a,b,rfl,_,q1,q2⟩:=h
   rw[List.replicate_succ,List.flatten_cons]
   exact (ih a q1).append (a_ui ih k b q2)
theorem q_s:∀(n m:Nat) (t:TypeId) (ds:List D) (shs:List Cs),tyD P n t ds→j_x P m t=some shs→CsL P shs ds
 | 0,_,_,_,_,h,_=>h.elim
 | _+1,0,_,_,_,_,h=>by cases h
 | n+1,m+1,t,ds,shs,h1,h2=>by
   unfold tyD at h1
   unfold j_x at h2
   split at h1
   · rename_i hu
     rw[hu] at h2;cases h2
     obtain ⟨b,rfl⟩:=h1
     exact ⟨_,_,rfl,⟨b,rfl⟩,rfl⟩
   · rename_i k hu
     rw[hu] at h2;cases h2
     obtain ⟨b,rfl,hw⟩:=h1
     exact ⟨_,_,rfl,⟨b,rfl,hw⟩,rfl⟩
   · rename_i hu
     rw[hu] at h2;cases h2
     obtain ⟨b,rfl,hw⟩:=h1
     exact ⟨_,_,rfl,⟨b,rfl,hw⟩,rfl⟩
   · rename_i e hu
     rw[hu] at h2;cases h2
     rcases h1 with rfl | ⟨rows,rfl,q1,q2⟩
     · exact ⟨_,_,rfl, .inl rfl,rfl⟩
     · exact ⟨_,_,rfl, .inr ⟨rows,rfl,q1,fun row hr=>⟨n,q2 row hr⟩⟩,rfl⟩
   · rename_i fs hu
     rw[hu] at h2
     exact a_jh (fun t ds shs a b=>q_s n m t ds shs a b) fs.toList ds shs h1 h2
   · rename_i k e hu
     rw[hu] at h2
     simp only[Option.map_eq_some_iff] at h2
     obtain ⟨l,e1,rfl⟩:=h2
     exact a_ui (fun ds a=>q_s n m e ds l a e1) k ds h1
   · exact h1.elim
def I64 (n:Int) :Prop:= -9223372036854775808≤n∧n≤9223372036854775807
theorem f_h {n:Int}(h:(Lit.int .i64 n).wf=true) :I64 n:=by
 simp only[Lit.wf,IntKind.min,IntKind.max,IntKind.signed,IntKind.bits,Bool.and_eq_true,decide_eq_true_eq,if_true] at h
 unfold I64
 omega
theorem a_vf {α:Type}{e:TypeId}{d:D}{bytes:Nat}(R:List D→α→Prop)(hf:∀row n,tyD P n e row→∃a,R row a)(hb:P.bytesOf e=bytes)(hb0:0 < bytes)(h:CsOk P (.sl e) d) :
   ∃(rows:List (List D)) (l:List α),(∀s,At P s e d rows)∧rows.length=l.length∧(∀(i:Nat) row a,rows[i]? =some row→l[i]? =some a→R row a)∧d≠ .zsl∧bytes * l.length≤140737488351232:=by
 rcases h with rfl | ⟨rows,rfl,q1,q2⟩
 · exact ⟨[],[],fun s=> .nil,rfl,fun i row a h=>by simp at h,(by intro e;cases e),by simp⟩
 · have key : ∀ rows : List (List D), (∀ row ∈ rows, ∃ n, tyD P n e row) → ∃ l : List α, rows.length = l.length ∧ ∀ (i : Nat) row a, rows[i]? = some row → l[i]? = some a → R row a := by
     intro rows
     induction rows with
     | nil=>intro _;exact ⟨[],rfl,fun i row a h=>by simp at h⟩
     | cons r rs ih=>
       intro hr
       obtain ⟨l,e1,e2⟩:=ih fun row h=>hr row (by simp[h])
       obtain ⟨n,hn⟩:=hr r (by simp)
       obtain ⟨a,ha⟩:=hf r n hn
       refine ⟨a::l,by simp[e1],fun i row b h1 h2=>?_⟩
       cases i with
       | zero=>simp at h1 h2;subst h1 h2;exact ha
       | succ i=>exact e2 i row b (by simpa using h1) (by simpa using h2)
   obtain ⟨l,hl,hR⟩:=key rows q2
   rw[hb,hl] at q1
   have q3:bytes * l.length≤140737488351232:=by rw[Nat.mul_comm];exact q1
   have h1:1 * l.length≤bytes * l.length:=Nat.mul_le_mul_right _ hb0
   refine ⟨rows,l,fun s=>⟨⟨rfl, .inr rfl⟩,by omega,fun es rows e=>?_⟩,hl,hR,(by intro e;cases e),q3⟩
   injection e with e1 e2
   exact e1.symm
theorem h_s {α:Type}{e:TypeId}{d:D}{bytes:Nat}(f:α→List D)(Q:α→Prop)(hf:∀row n,tyD P n e row→∃a,row=f a∧Q a)(hb:P.bytesOf e=bytes)(hb0:0 < bytes)(h:CsOk P (.sl e) d) :
   ∃l:List α,(∀s,At P s e d (l.map f))∧(∀a ∈ l,Q a)∧d≠ .zsl∧bytes * l.length≤140737488351232:=by
 rcases h with rfl | ⟨rows,rfl,q1,q2⟩
 · exact ⟨[],fun s=> .nil,fun a ha=>by simp at ha,(by intro e;cases e),by simp⟩
 · have key : ∀ rows : List (List D), (∀ row ∈ rows, ∃ n, tyD P n e row) → ∃ l : List α, l.map f = rows ∧ ∀ a ∈ l, Q a := by
     intro rows
     induction rows with
     | nil=>intro _;exact ⟨[],rfl,fun a ha=>by simp at ha⟩
     | cons r rs ih=>
       intro hr
       obtain ⟨l,e1,e2⟩:=ih fun row h=>hr row (by simp[h])
       obtain ⟨n,hn⟩:=hr r (by simp)
       obtain ⟨a,rfl,ha⟩:=hf r n hn
       refine ⟨a::l,by simp[e1],fun b hb=>?_⟩
       simp only[List.mem_cons] at hb
       rcases hb with rfl | hb
       · exact ha
       · exact e2 b hb
   obtain ⟨l,rfl,hl⟩:=key rows q2
   rw[hb,List.length_map] at q1
   have q3:bytes * l.length≤140737488351232:=by rw[Nat.mul_comm];exact q1
   have h1:1 * l.length≤bytes * l.length:=Nat.mul_le_mul_right _ hb0
   refine ⟨l,fun s=>⟨⟨rfl, .inr rfl⟩,by rw[List.length_map];omega,fun es rows e=>?_⟩,hl,(by intro e;cases e),q3⟩
   injection e with e1 e2
   exact e1.symm
theorem a_wo {t:TypeId}{x:A}(h:TyA P t x)(hg:b_u P t=some false) :∃d n,x= .one d∧tyD P n t [d]:=by
 cases x with
 | one d=>exact ⟨d,30,rfl,h.2⟩
 | agg cs=>have:=h.1;rw[hg] at this;cases this
theorem a_wr {t:TypeId}{x:A}(h:TyA P t x)(hg:b_u P t=some true) :∃cs n,x= .agg cs∧tyD P n t cs:=by
 cases x with
 | one d=>have:=h.1;rw[hg] at this;cases this
 | agg cs=>exact ⟨cs,30,rfl,h.2⟩
theorem a_og {t:TypeId}{ts:List TypeId}{as0:List A}(h:TyAs P (t::ts) as0) :∃a r,as0=a::r∧TyA P t a∧TyAs P ts r:=h
theorem a_w6 {as0:List A}(h:TyAs P [] as0) :as0=[]:=h
def a_vw:Cs→Value
 | .int k=> .int k 0
 | .bool=> .bool false
 | .str=> .string .empty
 | .sl _=> .slice none 0 0
def zeroArg (P:Program)(t:TypeId) :Value:=match b_u P t,j_x P 9 t with
 | some true,some l=> .agg (l.map a_vw).toArray
 | _,some [c]=>a_vw c
 | _,_=> .int .i64 0
end Go.Fw
namespace Go.Fw
theorem law_fn2 {H:Type}{s:List (DataW H)→Left H}{ds:List (DataW H)}(h:ds.length=2)(hs:∀a b,s [a,b]= { results:= [.lit (.bool true)],args:= [a,b] } :=by intros;rfl) :s ds= { results:= [.lit (.bool true)],args:=ds } :=by
 match ds,h with
 | [a,b],_=>exact hs a b
end Go.Fw
namespace Go.Fw
def EqR {α:Type}(la lb:List α)(n:Int) :Prop:=∃j:Nat,n=j∧j≤la.length∧la.take j=lb.take j
theorem EqR.start {α:Type}(la lb:List α) :EqR la lb 0:=⟨0,rfl,by omega,by simp⟩
theorem EqR.step {α:Type}{la lb:List α}{n:Int}{m:Nat}(h:EqR la lb n)(hl:la.length=lb.length)(hm:m=la.length)(hs:la.length < 2 ^ 60)(hlt:n < (m:Int)) :
   ∃(j:Nat) (x y:α),n=j∧la[j]? =some x∧lb[j]? =some y∧(x≠y→la≠lb)∧(x=y→EqR la lb (w64 (n+1))∧la.length - (w64 (n+1)).toNat < la.length - n.toNat):=by
 obtain ⟨j,rfl,hj,hF⟩:=h
 have hj':j < la.length:=by omega
 obtain ⟨x,hx⟩:=a_i hj'
 obtain ⟨y,hy⟩:=a_i (l:=lb) (j:=j) (by omega)
 refine ⟨j,x,y,rfl,hx,hy,fun hne e=>?_,fun e=>?_⟩
 · subst e;rw[hx] at hy;cases hy;exact hne rfl
 · rw[a_o (by omega)]
   refine ⟨⟨j+1,rfl,by omega,?_⟩,by omega⟩
   rw[List.take_add_one,List.take_add_one,hF,hx,hy,e]
theorem EqR.done {α:Type}{la lb:List α}{n:Int}{m:Nat}(h:EqR la lb n)(hl:la.length=lb.length)(hm:m=la.length)(hge:¬n < (m:Int)) :la=lb:=by
 obtain ⟨j,rfl,hj,hF⟩:=h
 have:j=la.length:=by omega
 rw[List.take_of_length_le (by omega),List.take_of_length_le (by omega)] at hF
 exact hF
end Go.Fw
namespace Go.Fw
theorem a_un {P:Program}{t:TypeId}{x:A}{c:Cs}(h:TyA P t x)(hg:b_u P t=some false)(hs:j_x P 5 t=some [c]) :∃d,x= .one d∧CsOk P c d:=by
 obtain ⟨d,n,rfl,h1⟩:=a_wo h hg
 obtain ⟨d',r,e,h2,h3⟩:=q_s n 5 t _ _ h1 hs
 have:d=d':=by injection e
 exact ⟨d,rfl,this ▸ h2⟩
end Go.Fw
end
namespace Go.Proofs.YtdmfnhbmhkgemaaGreat
open Go.Fw Go.Proofs Go.RowKit
section
theorem ty_i {row:List D}{n:Nat}(h:tyD Tryz.prog n a_h row) :∃m,row=Go.Fw.encI m∧I64 m:=by
 obtain ⟨_,_,rfl,⟨m,rfl,hm⟩,rfl⟩:=q_s n 2 _ _ [.int .i64] h (by kernel_rfl)
 exact ⟨m,rfl,f_h hm⟩
theorem a_xj {t:TypeId}{row:List D}{n:Nat}(h:tyD Tryz.prog n t row)(hs:j_x Tryz.prog 5 t=some [.int .i64, .int .i64]) :∃a b,row=[iD a,iD b]∧I64 a∧I64 b:=by
 obtain ⟨_,_,rfl,⟨a,rfl,ha⟩,_,_,rfl,⟨b,rfl,hb⟩,rfl⟩:=q_s n 5 _ _ _ h hs
 exact ⟨a,b,rfl,f_h ha,f_h hb⟩
theorem a_xk {t:TypeId}{row:List D}{n:Nat}(h:tyD Tryz.prog n t row)(hs:j_x Tryz.prog 5 t=some [.int .i64, .int .i64, .int .i64]) :∃a b c,row=[iD a,iD b,iD c]∧I64 a∧I64 b∧I64 c:=by
 obtain ⟨_,_,rfl,⟨a,rfl,ha⟩,_,_,rfl,⟨b,rfl,hb⟩,_,_,rfl,⟨c,rfl,hc⟩,rfl⟩:=q_s n 5 _ _ _ h hs
 exact ⟨a,b,c,rfl,f_h ha,f_h hb,f_h hc⟩
theorem a_ym {t:TypeId}{row:List D}{n:Nat}(h:tyD Tryz.prog n t row)(hs:j_x Tryz.prog 5 t=some [.int .i64, .int .i64, .int .i64, .int .i64]) :∃a b c d,row=[iD a,iD b,iD c,iD d]∧I64 a∧I64 b∧I64 c∧I64 d:=by
 obtain ⟨_,_,rfl,⟨a,rfl,ha⟩,_,_,rfl,⟨b,rfl,hb⟩,_,_,rfl,⟨c,rfl,hc⟩,_,_,rfl,⟨d,rfl,hd⟩,rfl⟩:=q_s n 5 _ _ _ h hs
 exact ⟨a,b,c,d,rfl,f_h ha,f_h hb,f_h hc,f_h hd⟩
theorem a_qm {row:List D}{n:Nat}(h:tyD Tryz.prog n i_a row) :∃s:Sec,row=s.enc∧I64 s.Kind∧I64 s.OC∧I64 s.Line:=by
 obtain ⟨a,b,c,rfl,q⟩:=a_xk h (by kernel_rfl)
 exact ⟨⟨a,b,c⟩,rfl,q⟩
theorem a_v0 {row:List D}{n:Nat}(h:tyD Tryz.prog n j_4 row) :∃s:Jt,row=s.enc∧I64 s.A∧I64 s.AEnd∧I64 s.B∧I64 s.BEnd:=by
 obtain ⟨a,b,c,d,rfl,q⟩:=a_ym h (by kernel_rfl)
 exact ⟨⟨a,b,c,d⟩,rfl,q⟩
theorem a_ta {row:List D}{n:Nat}(h:tyD Tryz.prog n e_6 row) :∃s:Sg,row=s.enc∧I64 s.Sec∧I64 s.End_:=by
 obtain ⟨a,b,rfl,q⟩:=a_xj h (by kernel_rfl)
 exact ⟨⟨a,b⟩,rfl,q⟩
theorem a_wf {row:List D}{n:Nat}(h:tyD Tryz.prog n d_v row) :∃s:St,row=s.enc∧I64 s.Sec∧I64 s.In∧I64 s.Out:=by
 obtain ⟨a,b,c,rfl,q⟩:=a_xk h (by kernel_rfl)
 exact ⟨⟨a,b,c⟩,rfl,q⟩
theorem a_wp {row:List D}{n:Nat}(h:tyD Tryz.prog n b_a row) :∃s:Nd,row=s.enc∧I64 s.Sec∧I64 s.Pos:=by
 obtain ⟨a,b,rfl,q⟩:=a_xj h (by kernel_rfl)
 exact ⟨⟨a,b⟩,rfl,q⟩
structure RtI (r:Rt) :Prop where
 entry:I64 r.Entry
 exit:I64 r.Exit
 path:∀s ∈ r.Path,I64 s.Sec∧I64 s.In∧I64 s.Out
 flank:∀s ∈ r.Flank,I64 s.Sec∧I64 s.Pos
 over:∀o ∈ r.Overlap,I64 o
 np:24 * r.Path.length≤140737488351232
 nf:16 * r.Flank.length≤140737488351232
 no:8 * r.Overlap.length≤140737488351232
structure CfI (c:Cf) :Prop where
 secs:∀s ∈ c.Secs,I64 s.Kind∧I64 s.OC∧I64 s.Line
 jts:∀s ∈ c.Jts,I64 s.A∧I64 s.AEnd∧I64 s.B∧I64 s.BEnd
 sigs:∀s ∈ c.Sigs,I64 s.Sec∧I64 s.End_
 xs:∀s ∈ c.Xs,I64 s
 rts:∀r ∈ c.Rts,RtI r
 age:I64 c.Age
 brake:I64 c.Brake
 hold:I64 c.Hold
 budget:I64 c.Budget
 nsecs:24 * c.Secs.length≤140737488351232
 njts:32 * c.Jts.length≤140737488351232
 nsigs:16 * c.Sigs.length≤140737488351232
 nxs:8 * c.Xs.length≤140737488351232
 nrts:96 * c.Rts.length≤140737488351232
structure LsI (l:Ls) :Prop where
 ask:I64 l.Ask
 done:I64 l.Done
 grant:I64 l.Grant
 told:I64 l.Told
 pask:I64 l.PAsk
 pdone:I64 l.PDone
 pgrant:I64 l.PGrant
 since:I64 l.Since
structure CoI (k:Co) :Prop where
 own:∀o ∈ k.Own,I64 o
 routes:∀s ∈ k.Routes,I64 s.State∧I64 s.Since∧I64 s.Next∧I64 s.Mark
 points:∀s ∈ k.Points,I64 s.Cmd∧I64 s.Other
 xs:∀s ∈ k.Xs,I64 s.Cmd∧I64 s.Other
 lines:∀s ∈ k.Lines,LsI s
 resets:∀o ∈ k.Resets,I64 o
theorem a_dw {row:List D}{n:Nat}(h:tyD Tryz.prog n e_o row) :∃s:Lk,row=s.enc∧I64 s.Value∧I64 s.Stamp:=by
 obtain ⟨_,_,rfl,⟨a,rfl,ha⟩,_,_,rfl,⟨b,rfl,hb⟩,_,_,rfl,⟨c,rfl⟩,rfl⟩:=q_s n 5 _ _ [.int .i64, .int .i64, .bool] h (by kernel_rfl)
 exact ⟨⟨a,b,c⟩,rfl,f_h ha,f_h hb⟩
structure VwI (v:Vw) :Prop where
 occ:∀l ∈ v.Occ,I64 l.Value∧I64 l.Stamp
 pos:∀l ∈ v.Pos,I64 l.Value∧I64 l.Stamp
 shut:∀l ∈ v.Shut,I64 l.Value∧I64 l.Stamp
 lamp:∀l ∈ v.Lamp,I64 l.Value∧I64 l.Stamp
theorem a_wz {d0 d1 d2 d3:D}(h0:CsOk Tryz.prog (.sl e_o) d0)(h1:CsOk Tryz.prog (.sl e_o) d1)(h2:CsOk Tryz.prog (.sl e_o) d2)(h3:CsOk Tryz.prog (.sl e_o) d3) :∃v,VwAt d0 d1 d2 d3 v∧VwI v:=by
 obtain ⟨l0,a0,b0,_,e0⟩:=h_s (bytes:=24) Lk.enc _ (fun row n h=>a_dw h) (by kernel_rfl) (by omega) h0
 obtain ⟨l1,a1,b1,_,e1⟩:=h_s (bytes:=24) Lk.enc _ (fun row n h=>a_dw h) (by kernel_rfl) (by omega) h1
 obtain ⟨l2,a2,b2,_,e2⟩:=h_s (bytes:=24) Lk.enc _ (fun row n h=>a_dw h) (by kernel_rfl) (by omega) h2
 obtain ⟨l3,a3,b3,_,e3⟩:=h_s (bytes:=24) Lk.enc _ (fun row n h=>a_dw h) (by kernel_rfl) (by omega) h3
 exact ⟨⟨l0,l1,l2,l3⟩,⟨a0,a1,a2,a3⟩,b0,b1,b2,b3⟩
end
section
variable {σ:Store}
theorem l_u {a b:D}{la lb:List Int}(ha:At Tryz.prog σ a_h a (la.map Go.Fw.encI))(hb:At Tryz.prog σ a_h b (lb.map Go.Fw.encI)) :Pure Tryz.prog f_z [.one a, .one b] σ (.a (bA (decide (la=lb)))):=by
 have hs:=ha.size
 rw[List.length_map] at hs
 refine z_1 a b σ _ (ha.lenK (hb.lenK ?_))
 rw[List.length_map,List.length_map]
 refine bcn (fun hne=>⟨?_,rfl⟩) (fun he=>ha.lenK ?_)
 · rw[decide_eq_false (fun e=>hne (by rw[e]))]
 have hl:la.length=lb.length:=by omega
 rw[List.length_map]
 refine ⟨fun n s=>s=σ∧EqR la lb n,fun n _=>la.length - n.toNat,⟨rfl, .start _ _⟩,?_⟩
 rintro n s ⟨rfl,hr⟩
 refine bcd (fun hlt=>?_) (fun hge=>⟨?_,rfl⟩)
 · obtain ⟨j,x,y,rfl,hx,hy,hn,hy2⟩:=hr.step hl rfl hs hlt
   refine ha.load (a_c hx) c_int rfl ⟨x,rfl,hb.load (a_c hy) c_int rfl ⟨y,rfl,bcn (fun e=>⟨?_,rfl⟩) (fun e=>c_0 rfl (hy2 e))⟩⟩
   rw[decide_eq_false (hn e)]
 · rw[decide_eq_true (hr.done hl rfl hge)]
theorem u_i {a0 a1 a2 a3 a4 a5 b0 b1 b2 b3 b4 b5:D}{k k':Co}(ha:CoAt σ a0 a1 a2 a3 a4 a5 k)(hb:CoAt σ b0 b1 b2 b3 b4 b5 k') :
   Pure Tryz.prog j_6 [coA a0 a1 a2 a3 a4 a5 k.Dirty,coA b0 b1 b2 b3 b4 b5 k'.Dirty] σ (.a (bA (decide (k=k')))):=by
 have no:∀p:Prop,¬p→(k=k'→p)→(RV.a (bA false) =RV.a (bA (decide (k=k')))∧σ=σ):=fun p h1 h2=>⟨by rw[decide_eq_false (fun e=>h1 (h2 e))],rfl⟩
 have s1:=ha.routes.size
 have s2:=ha.points.size
 have s3:=ha.xs.size
 have s4:=ha.lines.size
 rw[List.length_map] at s1 s2 s3 s4
 refine a_lh a0 a1 a2 a3 a4 a5 k.Dirty b0 b1 b2 b3 b4 b5 k'.Dirty σ _ ?_
 intro R hR
 refine (l_u ha.own hb.own).use ⟨_,rfl,a_q (fun e=>no _ (of_decide_eq_false e) (fun e=>by rw[e])) (fun e1=>(l_u ha.resets hb.resets).use ⟨_,rfl,a_q (fun e=>no _ (of_decide_eq_false e) (fun e=>by rw[e])) (fun e2=>a_q (fun e=>no (k.Dirty=k'.Dirty) (by simpa using e) (fun e=>by rw[e])) (fun e3=>?_))⟩)⟩
 refine ha.routes.lenK (hb.routes.lenK (bcn (fun e=>no (k.Routes.length=k'.Routes.length) (by simp only[List.length_map] at e;omega) (fun e=>by rw[e])) (fun e4=>?_)))
 refine ha.points.lenK (hb.points.lenK (bcn (fun e=>no (k.Points.length=k'.Points.length) (by simp only[List.length_map] at e;omega) (fun e=>by rw[e])) (fun e5=>?_)))
 refine ha.xs.lenK (hb.xs.lenK (bcn (fun e=>no (k.Xs.length=k'.Xs.length) (by simp only[List.length_map] at e;omega) (fun e=>by rw[e])) (fun e6=>?_)))
 refine ha.lines.lenK (hb.lines.lenK (bcn (fun e=>no (k.Lines.length=k'.Lines.length) (by simp only[List.length_map] at e;omega) (fun e=>by rw[e])) (fun e7=>?_)))
 have e1:=of_decide_eq_true e1
 have e2:=of_decide_eq_true e2
 have e3:k.Dirty=k'.Dirty:=by simpa using e3
 simp only[List.length_map] at e4 e5 e6 e7
 have e4:k.Routes.length=k'.Routes.length:=by omega
 have e5:k.Points.length=k'.Points.length:=by omega
 have e6:k.Xs.length=k'.Xs.length:=by omega
 have e7:k.Lines.length=k'.Lines.length:=by omega
 refine hR σ (ha.routes.lenK ?_)
 rw[List.length_map]
 refine ⟨fun n s=>s=σ∧EqR k.Routes k'.Routes n,fun n _=>k.Routes.length - n.toNat,⟨rfl, .start _ _⟩,?_⟩
 rintro n s ⟨rfl,hr⟩
 refine bcd (fun hlt=>?_) (fun hge=>?_)
 · obtain ⟨j,x,y,rfl,hx,hy,hn,hy2⟩:=hr.step e4 rfl s1 hlt
   refine ha.routes.load (a_c hx) a_x rfl ⟨_,_,_,_,rfl,hb.routes.load (a_c hy) a_x rfl ⟨_,_,_,_,rfl,a_q (fun e=>no (x=y) (fun h=>by subst h;simp at e) (fun h=>Classical.not_not.1 fun g=>hn g (by rw[h]))) (fun e=>c_0 rfl (hy2 ?_))⟩⟩
   cases x;cases y;simp at e;simp[e]
 have e8:=hr.done e4 rfl hge
 refine ha.points.lenK ?_
 rw[List.length_map]
 refine ⟨fun n s'=>s'=s∧EqR k.Points k'.Points n,fun n _=>k.Points.length - n.toNat,⟨rfl, .start _ _⟩,?_⟩
 rintro n s ⟨rfl,hr⟩
 refine bcd (fun hlt=>?_) (fun hge=>?_)
 · obtain ⟨j,x,y,rfl,hx,hy,hn,hy2⟩:=hr.step e5 rfl s2 hlt
   refine ha.points.load (a_c hx) c_r rfl ⟨_,_,rfl,hb.points.load (a_c hy) c_r rfl ⟨_,_,rfl,a_q (fun e=>no (x=y) (fun h=>by subst h;simp at e) (fun h=>Classical.not_not.1 fun g=>hn g (by rw[h]))) (fun e=>c_0 rfl (hy2 ?_))⟩⟩
   cases x;cases y;simp at e;simp[e]
 have e9:=hr.done e5 rfl hge
 refine ha.xs.lenK ?_
 rw[List.length_map]
 refine ⟨fun n s'=>s'=s∧EqR k.Xs k'.Xs n,fun n _=>k.Xs.length - n.toNat,⟨rfl, .start _ _⟩,?_⟩
 rintro n s ⟨rfl,hr⟩
 refine bcd (fun hlt=>?_) (fun hge=>?_)
 · obtain ⟨j,x,y,rfl,hx,hy,hn,hy2⟩:=hr.step e6 rfl s3 hlt
   refine ha.xs.load (a_c hx) c_r rfl ⟨_,_,rfl,hb.xs.load (a_c hy) c_r rfl ⟨_,_,rfl,a_q (fun e=>no (x=y) (fun h=>by subst h;simp at e) (fun h=>Classical.not_not.1 fun g=>hn g (by rw[h]))) (fun e=>c_0 rfl (hy2 ?_))⟩⟩
   cases x;cases y;simp at e;simp[e]
 have e10:=hr.done e6 rfl hge
 refine ha.lines.lenK ?_
 rw[List.length_map]
 refine ⟨fun n s'=>s'=s∧EqR k.Lines k'.Lines n,fun n _=>k.Lines.length - n.toNat,⟨rfl, .start _ _⟩,?_⟩
 rintro n s ⟨rfl,hr⟩
 refine bcd (fun hlt=>?_) (fun hge=>⟨?_,rfl⟩)
 · obtain ⟨j,x,y,rfl,hx,hy,hn,hy2⟩:=hr.step e7 rfl s4 hlt
   refine ha.lines.load (a_c hx) c_a rfl ⟨_,_,_,_,_,_,_,_,rfl,hb.lines.load (a_c hy) c_a rfl ⟨_,_,_,_,_,_,_,_,rfl,a_q (fun e=>no (x=y) (fun h=>by subst h;simp at e) (fun h=>Classical.not_not.1 fun g=>hn g (by rw[h]))) (fun e=>c_0 rfl (hy2 ?_))⟩⟩
   cases x;cases y;simp at e;simp[e]
 have e11:=hr.done e7 rfl hge
 have:k=k':=by
   cases k;cases k'
   simp only at e1 e2 e3 e8 e9 e10 e11
   simp only[e1,e2,e3,e8,e9,e10,e11]
 rw[decide_eq_true this]
end
end Go.Proofs.YtdmfnhbmhkgemaaGreat
section
namespace Go.Fw
theorem c_w {j n:Nat}(h:j < n) :n - ((j+1:Nat) :Int).toNat < n - ((j:Nat) :Int).toNat:=by omega
def inL (l:List Int)(n:Int) :Bool:=decide (n ∈ l)
def y_l (c:Cf)(s:Int) :Int:=((a_k c.Secs s).map Sec.Kind).getD (-1)
def atB (sec e but:Int) :List Sg→Nat→Bool
 | [],_=>false
 | x::r,j=>(decide (x.Sec=sec) && decide (x.End_=e) && decide ((j:Int)≠but)) || atB sec e but r (j+1)
theorem a_d1 (sec e but:Int) :∀(l:List Sg) (j:Nat),atB sec e but l j=true↔∃(i:Nat) (x:Sg),l[i]? =some x∧x=⟨sec,e⟩∧((j+i:Nat) :Int)≠but
 | [],j=>by simp[atB]
 | x::r,j=>by
   simp only[atB,Bool.or_eq_true,Bool.and_eq_true,decide_eq_true_eq,a_d1 sec e but r (j+1)]
   constructor
   · rintro (⟨⟨h1,h2⟩,h3⟩ | ⟨i,y,h1,h2,h3⟩)
     · exact ⟨0,x,rfl,by cases x;simp at h1 h2;simp[h1,h2],h3⟩
     · exact ⟨i+1,y,by simpa using h1,h2,by rw[show j+ (i+1) =j+1+i by omega];exact h3⟩
   · rintro ⟨i,y,h1,h2,h3⟩
     cases i with
     | zero=>
       simp at h1;subst h1 h2
       exact .inl ⟨⟨rfl,rfl⟩,h3⟩
     | succ i=>exact .inr ⟨i,y,by simpa using h1,h2,by rw[show j+1+i=j+ (i+1) by omega];exact h3⟩
theorem a_us {l:List Sg}(hn:l.Nodup){i:Nat}{x:Sg}(hi:l[i]? =some x) :atB x.Sec x.End_ i l 0=false:=by
 cases hb:atB x.Sec x.End_ i l 0 with
 | false=>rfl
 | true=>
   obtain ⟨j,y,h1,h2,h3⟩:=(a_d1 _ _ _ l 0).1 hb
   have e:y=x:=by cases x;exact h2
   subst e
   exfalso;apply h3
   obtain ⟨q1,q2⟩:=List.getElem?_eq_some_iff.1 hi
   obtain ⟨p1,p2⟩:=List.getElem?_eq_some_iff.1 h1
   have:=(List.getElem_inj (h₀:=q1) (h₁:=p1) hn).1 (by rw[q2,p2])
   omega
theorem z_z (js:List Jt) :∀(l seen:List Sg),l_7 js l seen=true↔(∀x ∈ l,(nxt js x.Sec x.End_).isSome=true)∧l.Nodup∧∀x ∈ l,x ∉ seen
 | [],seen=>by simp[l_7]
 | x::r,seen=>by
   rw[l_7]
   by_cases h:(nxt js x.Sec x.End_).isSome=true∧x ∉ seen
   · rw[if_pos h,z_z js r (x::seen)]
     constructor
     · rintro ⟨h1,h2,h3⟩
       refine ⟨fun y hy=>?_,?_,fun y hy=>?_⟩
       · rcases List.mem_cons.1 hy with rfl | hy
         · exact h.1
         · exact h1 y hy
       · exact List.nodup_cons.2 ⟨fun hx=>h3 x hx (by simp),h2⟩
       · rcases List.mem_cons.1 hy with rfl | hy
         · exact h.2
         · exact fun hs=>h3 y hy (by simp[hs])
     · rintro ⟨h1,h2,h3⟩
       obtain ⟨h4,h5⟩:=List.nodup_cons.1 h2
       refine ⟨fun y hy=>h1 y (by simp[hy]),h5,fun y hy hs=>?_⟩
       rcases List.mem_cons.1 hs with rfl | hs
       · exact h4 hy
       · exact h3 y (by simp[hy]) hs
   · rw[if_neg h]
     refine ⟨fun e=>by simp at e,fun ⟨h1,h2,h3⟩=>absurd ⟨h1 x (by simp),h3 x (by simp)⟩ h⟩
theorem a_ow (c:Cf) :(∀(i:Nat) (x:Sg),c.Sigs[i]? =some x→(nxt c.Jts x.Sec x.End_).isSome=true∧atB x.Sec x.End_ i c.Sigs 0=false)↔l_7 c.Jts c.Sigs []=true:=by
 rw[z_z]
 constructor
 · intro h
   refine ⟨fun x hx=>?_,?_,fun x _ hx=>by simp at hx⟩
   · obtain ⟨i,hi⟩:=List.mem_iff_getElem?.1 hx
     exact (h i x hi).1
   · rw[List.nodup_iff_pairwise_ne,List.pairwise_iff_getElem]
     intro i j hi hj hij e
     have h2:=(h i _ (List.getElem?_eq_getElem hi)).2
     have:atB c.Sigs[i].Sec c.Sigs[i].End_ i c.Sigs 0=true:=(a_d1 _ _ _ _ _).2 ⟨j,c.Sigs[j],List.getElem?_eq_getElem hj,by rw[←e],by omega⟩
     rw[h2] at this;cases this
 · rintro ⟨h1,h2,_⟩ i x hi
   exact ⟨h1 x (List.mem_of_getElem? hi),a_us h2 hi⟩
theorem z_h (secs:List Sec) :∀(l seen:List Int),xrun secs l seen=true↔(∀x ∈ l,∃s,a_k secs x=some s∧s.Line=0)∧l.Nodup∧∀x ∈ l,x ∉ seen
 | [],seen=>by simp[xrun]
 | x::r,seen=>by
   rw[xrun]
   cases hg:a_k secs x with
   | none=>
     refine ⟨fun e=>by simp at e,fun ⟨h1,_⟩=>?_⟩
     obtain ⟨s,h,_⟩:=h1 x (by simp)
     rw[hg] at h;cases h
   | some s=>
     simp only
     by_cases h:s.Line=0∧x ∉ seen
     · rw[if_pos h,z_h secs r (x::seen)]
       constructor
       · rintro ⟨h1,h2,h3⟩
         refine ⟨fun y hy=>?_,?_,fun y hy=>?_⟩
         · rcases List.mem_cons.1 hy with rfl | hy
           · exact ⟨s,hg,h.1⟩
           · exact h1 y hy
         · exact List.nodup_cons.2 ⟨fun hx=>h3 x hx (by simp),h2⟩
         · rcases List.mem_cons.1 hy with rfl | hy
           · exact h.2
           · exact fun hs=>h3 y hy (by simp[hs])
       · rintro ⟨h1,h2,h3⟩
         obtain ⟨h4,h5⟩:=List.nodup_cons.1 h2
         refine ⟨fun y hy=>h1 y (by simp[hy]),h5,fun y hy hs=>?_⟩
         rcases List.mem_cons.1 hs with rfl | hs
         · exact h4 hy
         · exact h3 y (by simp[hy]) hs
     · rw[if_neg h]
       refine ⟨fun e=>by simp at e,fun ⟨h1,h2,h3⟩=>?_⟩
       obtain ⟨s',q1,q2⟩:=h1 x (by simp)
       rw[hg] at q1;cases q1
       exact absurd ⟨q2,h3 x (by simp)⟩ h
theorem a_xh {js:List Jt}{s e:Int}{p:Int × Int}(h:nxt js s e=some p) :∃j ∈ js,(j.B=p.1∧j.BEnd=p.2)∨(j.A=p.1∧j.AEnd=p.2):=by
 induction js with
 | nil=>cases h
 | cons j r ih=>
   rw[nxt] at h
   split at h
   · cases h;exact ⟨j,by simp, .inl ⟨rfl,rfl⟩⟩
   split at h
   · cases h;exact ⟨j,by simp, .inr ⟨rfl,rfl⟩⟩
   · obtain ⟨k,h1,h2⟩:=ih h
     exact ⟨k,by simp[h1],h2⟩
theorem a_se {c:Cf}(ht:b_m c.Secs c.Jts=true){s e q f:Int}(h:nxt c.Jts s e=some (q,f)) :∃y,a_k c.Secs q=some y:=by
 obtain ⟨j,hj,h1⟩:=a_xh h
 obtain ⟨_,_,h3⟩:=(n_3 _ _).1 ht
 obtain ⟨a,b,_⟩:=h3 j hj
 have:0≤q∧q < c.Secs.length:=by rcases h1 with ⟨e1,_⟩ | ⟨e1,_⟩ <;> simp only at e1 <;> omega
 obtain ⟨y,hy⟩:=a_i (l:=c.Secs) (j:=q.toNat) (by omega)
 exact ⟨y,by unfold a_k;rw[if_neg (by omega),hy]⟩
theorem h_b {c:Cf}{s:Int}{y:Sec}(h:a_k c.Secs s=some y) :y_l c s=y.Kind:=by unfold y_l;rw[h];rfl
theorem k_q {c:Cf}{s:Int}(h:a_k c.Secs s=none) :y_l c s= -1:=by unfold y_l;rw[h];rfl
theorem a_jd (path:List St)(q:Int) :inL (path.map St.Sec) q=d_n path q:=by
 unfold inL d_n
 induction path with
 | nil=>rfl
 | cons x r ih=>
   rw[List.any_cons,←ih,List.map_cons]
   by_cases h:x.Sec=q
   · simp[h]
   · simp[h,Ne.symm h]
theorem a_xb {c:Cf}(ht:b_m c.Secs c.Jts=true){x:Int}{y:Sec}(h:a_k c.Secs x=some y) :0≤y.Kind∧y.Kind≤2:=by
 obtain ⟨_,h2,_⟩:=(n_3 _ _).1 ht
 have:=(h2 _ _ (a_l h).2.2).1
 unfold b_d at this
 split at this
 · omega
 split at this
 · omega
 split at this
 · omega
 · exact absurd rfl this
theorem a_tn {c:Cf}(h:c.sigsOk=true) :c.Sigs.Nodup:=by
 rw[Cf.sigsOk,Bool.and_eq_true,z_z] at h
 exact h.1.2.1
theorem a_yh {c:Cf}(h:c.sigsOk=true)(sec e but:Int) :atB sec e but c.Sigs 0=((c.Sigs.any fun x=>decide (⟨sec,e⟩ =x)) && !decide (a_k c.Sigs but=some ⟨sec,e⟩)):=by
 have hn:=a_tn h
 rw[Bool.eq_iff_iff,a_d1]
 simp only[Bool.and_eq_true,List.any_eq_true,decide_eq_true_eq,Bool.not_eq_true',decide_eq_false_iff_not,Nat.zero_add]
 constructor
 · rintro ⟨i,x,h1,rfl,h3⟩
   refine ⟨⟨_,List.mem_of_getElem? h1,rfl⟩,fun hg=>h3 ?_⟩
   have hg:=a_l hg
   obtain ⟨q1,q2⟩:=List.getElem?_eq_some_iff.1 h1
   obtain ⟨p1,p2⟩:=List.getElem?_eq_some_iff.1 hg.2.2
   have:=(List.getElem_inj (h₀:=q1) (h₁:=p1) hn).1 (by rw[q2,p2])
   omega
 · rintro ⟨⟨x,hx,rfl⟩,h2⟩
   obtain ⟨i,hi⟩:=List.mem_iff_getElem?.1 hx
   refine ⟨i,_,hi,rfl,fun e=>h2 ?_⟩
   unfold a_k
   rw[if_neg (by omega),←e,Int.toNat_natCast];exact hi
theorem c_s {α:Type}{l:List α}{i:Int}(h0:¬i < 0)(h1:¬i≥(l.length:Int)) :∃x,a_k l i=some x:=by
 obtain ⟨x,hx⟩:=a_i (l:=l) (j:=i.toNat) (by omega)
 exact ⟨x,by unfold a_k;rw[if_neg h0];exact hx⟩
end Go.Fw
namespace Go.Fw
theorem a_x3 (out:List Nd)(q:Int) :inL (out.map Nd.Sec) q=out.any fun n=>n.Sec == q:=by
 unfold inL
 induction out with
 | nil=>rfl
 | cons x r ih=>
   rw[List.any_cons,←ih,List.map_cons]
   by_cases h:x.Sec=q
   · simp[h]
   · simp[h,Ne.symm h]
end Go.Fw
end
namespace Go.Proofs.YtdmfnhbmhkgemaaGreat
open Go.Fw Go.Proofs Go.RowKit
section
variable {σ:Store}
theorem i_7 {d:D}{l:List Int}(n:Int)(h:At Tryz.prog σ a_h d (l.map Go.Fw.encI)) :Pure Tryz.prog d_o [.one d,iA n] σ (.a (bA (inL l n))):=by
 have hs:=h.size
 rw[List.length_map] at hs
 refine a_q1 d n σ _ (h.lenK ⟨fun m s=>s=σ∧Rng l (fun r=>inL r n=inL l n) m,fun m _=>l.length - m.toNat,⟨rfl, .start rfl⟩,?_⟩)
 rintro m s ⟨rfl,hr⟩
 refine bcd (fun hlt=>?_) (fun hge=>⟨?_,rfl⟩)
 · obtain ⟨j,x,rfl,hx,hj,hF,nx⟩:=hr.step (by simp) hs hlt
   refine h.load (a_c hx) c_int rfl ⟨x,rfl,bce (fun e=>⟨?_,rfl⟩) (fun e=>c_0 rfl (nx (fun r=>inL r n=inL l n) ?_))⟩
   · rw[←hF,inL,e,decide_eq_true (by simp)]
   · rw[←hF,inL,inL];exact decide_eq_decide.2 (by simp[Ne.symm e])
 · rw[←hr.done (by simp) hge];rfl
theorem a_pc {d:D}{l:List Int}(n:Int)(h:At Tryz.prog σ a_h d (l.map Go.Fw.encI)) :Pure Tryz.prog v_v [.one d,iA n] σ (.a (bA (inL l n))):=by
 have hs:=h.size
 rw[List.length_map] at hs
 refine a_qx d n σ _ (h.lenK ⟨fun m s=>s=σ∧Rng l (fun r=>inL r n=inL l n) m,fun m _=>l.length - m.toNat,⟨rfl, .start rfl⟩,?_⟩)
 rintro m s ⟨rfl,hr⟩
 refine bcd (fun hlt=>?_) (fun hge=>⟨?_,rfl⟩)
 · obtain ⟨j,x,rfl,hx,hj,hF,nx⟩:=hr.step (by simp) hs hlt
   refine h.load (a_c hx) c_int rfl ⟨x,rfl,bce (fun e=>⟨?_,rfl⟩) (fun e=>c_0 rfl (nx (fun r=>inL r n=inL l n) ?_))⟩
   · rw[←hF,inL,e,decide_eq_true (by simp)]
   · rw[←hF,inL,inL];exact decide_eq_decide.2 (by simp[Ne.symm e])
 · rw[←hr.done (by simp) hge];rfl
theorem l_t {d:D}{path:List St}(h:∀s,At Tryz.prog s d_v d (path.map St.enc))(hb:24 * path.length≤140737488355328) :
   DCalls Tryz.prog d_j [.one d] σ (d_b σ a_h ((path.map St.Sec).map Go.Fw.encI)):=by
 have hs:=(h σ).size
 rw[List.length_map] at hs
 refine (z_4 d σ _ ?_).ret (Q:=fun r s=>∃r' σ',Ret Tryz.prog σ s r σ' r'∧d_b σ a_h ((path.map St.Sec).map Go.Fw.encI) r' σ') (fun r s h=>h)
 refine (h σ).lenK ⟨fun d n s=>∃j:Nat,n=j∧j≤path.length∧Own Tryz.prog σ s a_h d (((path.take j).map St.Sec).map Go.Fw.encI),fun _ n _=>path.length - n.toNat,⟨0,rfl,by omega, .nil _ (.refl _)⟩,?_⟩
 rintro d1 _ s ⟨j,rfl,hj,ho⟩
 rw[List.length_map]
 refine bcd (fun hlt=>?_) (fun hge=>?_)
 · obtain ⟨x,hx⟩:=a_i (l:=path) (j:=j) (by omega)
   refine (h s).load (a_c hx) i_l rfl ⟨x.Sec,x.In,x.Out,rfl,a_e fun id s2 hid _ he hs2=>?_⟩
   have hl:(((path.take j).map St.Sec).map Go.Fw.encI).length=j:=by simp;omega
   refine (ho.ext' he).append (At.fresh hs2 (by simp) rfl) (by simp;omega) (by simp;omega) fun d4 s5 ho5 _ _=>?_
   rw[a_o (by omega)]
   refine ⟨⟨j+1,rfl,by omega,?_⟩,by show path.length - ((j+1:Nat) :Int).toNat < path.length - ((j:Nat) :Int).toNat;omega⟩
   have e:path.take (j+1) =path.take j ++ [x]:=by rw[List.take_add_one,hx];rfl
   rw[e,List.map_append,List.map_append];exact ho5
 · have e:j=path.length:=by omega
   rw[e,List.take_length] at ho
   exact f_i ho (u_w _)
section
variable {c0 c1 c2 c3 c4:D} {c:Cf}
theorem i_y (h:CfAt σ c0 c1 c2 c3 c4 c)(s:Int) :Pure Tryz.prog f_y [cfA c0 c1 c2 c3 c4 c,iA s] σ (.a (iA (y_l c s))):=by
 refine a_ls _ _ _ _ _ _ _ _ _ s σ _ (bcd (fun h1=>⟨by rw[k_q (c_g h1)],rfl⟩) (fun h1=>h.secs.lenK (bcd (fun h2=>⟨by rw[List.length_map] at h2;rw[k_q (d_u h2)],rfl⟩) (fun h2=>?_))))
 rw[List.length_map] at h2
 obtain ⟨x,hx⟩:=a_i (l:=c.Secs) (j:=s.toNat) (by omega)
 refine h.secs.load (a_c hx) b_z (by omega) ⟨x.Kind,rfl,?_,rfl⟩
 rw[h_b (y:=x) (by unfold a_k;rw[if_neg h1,hx])]
theorem y_8 (h:CfAt σ c0 c1 c2 c3 c4 c)(i:Int) :Pure Tryz.prog i_i [cfA c0 c1 c2 c3 c4 c,iA i] σ (.a (iA (c.Approach i))):=by
 obtain ⟨rows,hr,hl⟩:=j_s h
 refine z_s _ _ _ _ _ _ _ _ _ i σ _ (bcd (fun h1=>⟨by rw[Cf.Approach,c_g h1];rfl,rfl⟩) (fun h1=>hr.lenK (bcd (fun h2=>⟨by rw[hl] at h2;rw[Cf.Approach,d_u h2];rfl,rfl⟩) (fun h2=>?_))))
 rw[hl] at h2
 obtain ⟨x,hx⟩:=a_i (l:=c.Rts) (j:=i.toNat) (by omega)
 have hg:a_k c.Rts i=some x:=by unfold a_k;rw[if_neg h1,hx]
 have hA:c.Approach i=c.approach x:=by rw[Cf.Approach,hg];rfl
 rw[hA]
 obtain ⟨rows',hr',_,d1,d2,d3,hrow,_⟩:=a_si h hx
 refine hr'.load hrow c_l (by omega) ⟨_,rfl,bcd (fun h3=>⟨by rw[Cf.approach,c_g h3];rfl,rfl⟩) (fun h3=>hr'.load hrow c_l (by omega) ⟨_,rfl,h.sigs.lenK (bcd (fun h4=>⟨?_,rfl⟩) (fun h4=>hr'.load hrow c_l (by omega) ⟨_,rfl,?_⟩))⟩)⟩
 · rw[List.length_map] at h4;rw[Cf.approach,d_u h4];rfl
 · rw[List.length_map] at h4
   obtain ⟨y,hy⟩:=a_i (l:=c.Sigs) (j:=x.Entry.toNat) (by omega)
   refine h.sigs.load (a_c hy) f_t (by omega) ⟨y.Sec,rfl,?_,rfl⟩
   rw[Cf.approach,show a_k c.Sigs x.Entry=some y by unfold a_k;rw[if_neg h3,hy]];rfl
theorem a_ca (h:CfAt σ c0 c1 c2 c3 c4 c)(sec e but:Int) :Pure Tryz.prog p_c [cfA c0 c1 c2 c3 c4 c,iA sec,iA e,iA but] σ (.a (bA (atB sec e but c.Sigs 0))):=by
 have hs:=h.sigs.size
 rw[List.length_map] at hs
 refine a_qd _ _ _ _ _ _ _ _ _ sec e but σ _ (h.sigs.lenK ⟨fun m s=>s=σ∧Rng c.Sigs (fun r=>atB sec e but r m.toNat=atB sec e but c.Sigs 0) m,fun m _=>c.Sigs.length - m.toNat,⟨rfl, .start rfl⟩,?_⟩)
 rintro m s ⟨rfl,hr⟩
 refine bcd (fun hlt=>?_) (fun hge=>⟨?_,rfl⟩)
 · obtain ⟨j,x,rfl,hx,hj,hF,nx⟩:=hr.step (by simp) hs hlt
   rw[atB,Int.toNat_natCast] at hF
   have hw:(w64 ((j:Int) +1)).toNat=j+1:=by rw[a_o (by omega)];omega
   have go:(decide (x.Sec=sec) && decide (x.End_=e) && decide ((j:Int)≠but)) =false→(s=s∧Rng c.Sigs (fun r=>atB sec e but r (w64 ((j:Int) +1)).toNat=atB sec e but c.Sigs 0) (w64 ((j:Int) +1)))∧c.Sigs.length - (w64 ((j:Int) +1)).toNat < c.Sigs.length - (j:Int).toNat:=by
     intro hn
     rw[hn,Bool.false_or] at hF
     exact c_0 rfl (nx (fun r=>atB sec e but r (w64 ((j:Int) +1)).toNat=atB sec e but c.Sigs 0) (by rw[hw];exact hF))
   refine h.sigs.load (a_c hx) f_t rfl ⟨x.Sec,x.End_,rfl,bce (fun h1=>bce (fun h2=>bcn (fun h3=>⟨?_,rfl⟩) (fun h3=>go (by simp[h3]))) (fun h2=>go (by simp[h2]))) (fun h1=>go (by simp[h1]))⟩
   rw[←hF,decide_eq_true h1,decide_eq_true h2,decide_eq_true h3];rfl
 · rw[←hr.done (by simp) hge];rfl
theorem a_bd (h:CfAt σ c0 c1 c2 c3 c4 c) :Pure Tryz.prog j_i [cfA c0 c1 c2 c3 c4 c] σ (.a (bA c.sigsOk)):=by
 have hs:=h.sigs.size
 rw[List.length_map] at hs
 have no:∀(i:Nat) (x:Sg),c.Sigs[i]? =some x→¬((nxt c.Jts x.Sec x.End_).isSome=true∧atB x.Sec x.End_ i c.Sigs 0=false)→c.sigsOk=false:=fun i x hi hn=>by
   unfold Cf.sigsOk
   cases hb:l_7 c.Jts c.Sigs [] with
   | false=>rfl
   | true=>exact absurd ((a_ow c).2 hb i x hi) hn
 refine a_di _ _ _ _ _ _ _ _ _ σ _ (h.sigs.lenK ⟨fun m s=>s=σ∧∃j:Nat,m=j∧j≤c.Sigs.length∧∀(i:Nat) (x:Sg),i < j→c.Sigs[i]? =some x→(nxt c.Jts x.Sec x.End_).isSome=true∧atB x.Sec x.End_ i c.Sigs 0=false,fun m _=>c.Sigs.length - m.toNat,⟨rfl,0,rfl,by omega,fun i x hi=>by omega⟩,?_⟩)
 rintro _ s ⟨rfl,j,rfl,hj,hall⟩
 rw[List.length_map]
 refine bcd (fun hlt=>?_) (fun hge=>h.sigs.lenK ⟨?_,rfl⟩)
 · have hlt:j < c.Sigs.length:=by omega
   obtain ⟨x,hx⟩:=a_i (l:=c.Sigs) (j:=j) (by omega)
   refine h.sigs.load (a_c hx) f_t rfl ⟨x.Sec,x.End_,rfl,(g_q x.Sec x.End_ h.jts).use (i_w _ (a_q (fun e=>⟨by rw[no j x hx (fun g=>by rw[g.1] at e;cases e)],rfl⟩) (fun e=>(a_ca h x.Sec x.End_ j).use ⟨_,rfl,bc (fun e2=>⟨by rw[no j x hx (fun g=>by rw[g.2] at e2;cases e2)],rfl⟩) (fun e2=>?_)⟩)))⟩
   rw[a_o (by omega)]
   refine ⟨⟨rfl,j+1,rfl,by omega,fun i y hi hy=>?_⟩,c_w hlt⟩
   by_cases hij:i=j
   · subst hij;rw[hx] at hy;cases hy;exact ⟨e,e2⟩
   · exact hall i y (by omega) hy
 · rw[List.length_map]
   have:l_7 c.Jts c.Sigs []=true:=(a_ow c).1 fun i x hi=>hall i x (by have:=(List.getElem?_eq_some_iff.1 hi).1;omega) hi
   rw[Cf.sigsOk,this,Bool.true_and]
   congr 3
   exact decide_eq_decide.2 (by omega)
theorem w_s (h:CfAt σ c0 c1 c2 c3 c4 c)(ht:b_m c.Secs c.Jts=true) :Pure Tryz.prog h_l [cfA c0 c1 c2 c3 c4 c] σ (.a (bA c.xsOk)):=by
 have hs:=h.xs.size
 rw[List.length_map] at hs
 have key:c.xsOk=true→∀(i:Nat) (x:Int),c.Xs[i]? =some x→(∃s,a_k c.Secs x=some s∧s.Line=0)∧x ∉ c.Xs.take i:=fun hb i x hi=>by
   rw[Cf.xsOk,Bool.and_eq_true,z_h] at hb
   obtain ⟨⟨h1,h2,_⟩,_⟩:=hb
   refine ⟨h1 x (List.mem_of_getElem? hi),fun hm=>?_⟩
   obtain ⟨j,hj⟩:=List.mem_iff_getElem?.1 hm
   rw[List.getElem?_take] at hj
   split at hj
   · rename_i hji
     obtain ⟨q1,q2⟩:=List.getElem?_eq_some_iff.1 hi
     obtain ⟨p1,p2⟩:=List.getElem?_eq_some_iff.1 hj
     have:=(List.getElem_inj (h₀:=q1) (h₁:=p1) h2).1 (by rw[q2,p2])
     omega
   · cases hj
 have no:∀(i:Nat) (x:Int),c.Xs[i]? =some x→¬((∃s,a_k c.Secs x=some s∧s.Line=0)∧x ∉ c.Xs.take i)→c.xsOk=false:=fun i x hi hn=>by
   cases hb:c.xsOk with
   | false=>rfl
   | true=>exact absurd (key hb i x hi) hn
 refine x_0 _ _ _ _ _ _ _ _ _ σ _ (h.xs.lenK ⟨fun m s=>s=σ∧∃j:Nat,m=j∧j≤c.Xs.length∧∀(i:Nat) (x:Int),i < j→c.Xs[i]? =some x→(∃s,a_k c.Secs x=some s∧s.Line=0)∧x ∉ c.Xs.take i,fun m _=>c.Xs.length - m.toNat,⟨rfl,0,rfl,by omega,fun i x hi=>by omega⟩,?_⟩)
 rintro _ s ⟨rfl,j,rfl,hj,hall⟩
 rw[List.length_map]
 refine bcd (fun hlt=>?_) (fun hge=>h.xs.lenK ⟨?_,rfl⟩)
 · have hlt:j < c.Xs.length:=by omega
   obtain ⟨x,hx⟩:=a_i (l:=c.Xs) (j:=j) (by omega)
   refine h.xs.load (a_c hx) c_int rfl ⟨x,rfl,(i_y h x).use ⟨_,rfl,?_⟩⟩
   cases hg:a_k c.Secs x with
   | none=>
     rw[k_q hg]
     exact bcd (fun _=>⟨by rw[no j x hx (fun g=>by obtain ⟨⟨s,q,_⟩,_⟩:=g;rw[hg] at q;cases q)],rfl⟩) (fun e=>absurd (by decide) e)
   | some y=>
     rw[h_b hg]
     have hgi:=a_l hg
     have hget:c.Secs[x.toNat]? =some y:=hgi.2.2
     refine bcd (fun e=>absurd (a_xb ht hg).1 (by omega)) (fun _=>h.secs.load (a_c hget) b_z (by omega) ⟨y.Line,rfl,bcn (fun e=>⟨by rw[no j x hx (fun g=>by obtain ⟨⟨s,q,q2⟩,_⟩:=g;rw[hg] at q;cases q;exact e q2)],rfl⟩) (fun e=>h.xs.sliceK (lo:=0) (hi:=j) c_int rfl rfl (by omega) (by rw[List.length_map];omega) ?_)⟩)
     have hsub:=h.xs.sub (lo:=0) (hi:=j) (by omega) (by rw[List.length_map];omega)
     rw[List.drop_zero,Nat.sub_zero,←List.map_take] at hsub
     refine (i_7 x hsub).use ⟨_,rfl,bc (fun e2=>⟨by rw[no j x hx (fun g=>g.2 (of_decide_eq_true e2))],rfl⟩) (fun e2=>?_)⟩
     rw[a_o (by omega)]
     refine ⟨⟨rfl,j+1,rfl,by omega,fun i y' hi hy=>?_⟩,c_w hlt⟩
     by_cases hij:i=j
     · subst hij;rw[hx] at hy;cases hy;exact ⟨⟨y,hg,e⟩,of_decide_eq_false e2⟩
     · exact hall i y' (by omega) hy
 · rw[List.length_map]
   have:xrun c.Secs c.Xs []=true:=by
     rw[z_h]
     refine ⟨fun x hx=>?_,?_,fun x _ hx=>by simp at hx⟩
     · obtain ⟨i,hi⟩:=List.mem_iff_getElem?.1 hx
       exact (hall i x (by have:=(List.getElem?_eq_some_iff.1 hi).1;omega) hi).1
     · rw[List.nodup_iff_pairwise_ne,List.pairwise_iff_getElem]
       intro i j' hi hj' hij e
       have:=(hall j' _ (by omega) (List.getElem?_eq_getElem hj')).2
       apply this
       rw[List.mem_take_iff_getElem]
       exact ⟨i,by omega,e⟩
   rw[Cf.xsOk,this,Bool.true_and]
   congr 3
   exact decide_eq_decide.2 (by omega)
end
end
end Go.Proofs.YtdmfnhbmhkgemaaGreat
section
namespace Go.Fw
variable {P:Program} {σ σ':Store}
theorem Own.stay {σ0:Store}{el:TypeId}{e d:D}{qs:List (List D)}(g:Own P σ0 σ el e qs)(hs:∀i,σ i≠ .free→a_0 d≠some i→σ' i=σ i)(ha:Apart e d)(he:Ext σ0 σ') :Own P σ0 σ' el e qs:=
 ⟨g.at_.same fun i a n h=>hs i (by
   have:=g.at_.rows;subst h
   obtain ⟨t,rows,h1,_⟩:=this
   rw[h1];intro e;cases e) (ha i (by subst h;rfl)),he,g.new,g.nsl,g.nz⟩
theorem Own.append2 {σ0:Store}{el el':TypeId}{d e x:D}{rs qs ns:List (List D)}{bytes:Nat}{K:D→Store→Prop}(h:Own P σ0 σ el d rs)(g:Own P σ0 σ el' e qs)(ha:Apart e d)(hx:At P σ el x ns)
   (hb:bytes * (rs.length+ns.length)≤140737488355328) (hsz:rs.length+ns.length < 2 ^ 60) (hk:∀d' σ',Own P σ0 σ' el d' (rs ++ ns)→Own P σ0 σ' el' e qs→Apart e d'→K d' σ') :a_z P σ el bytes d x K:=
 h.append hx hb hsz fun d' s' ho h1 h2=>hk d' s' ho (g.stay (d:=d) (fun i hi hd=>h1 i hi fun a b hab=>hd (by rw[hab];rfl)) ha ho.ext) fun i hi hd=>by
   have hn:=g.at_.rows
   cases e with
   | osl i' a n=>
     have e1:i'=i:=by simpa[a_0] using hi
     subst e1
     obtain ⟨t,rows,h3,_⟩:=hn
     cases d' with
     | osl j a' n'=>
       have e2:j=i':=by simpa[a_0] using hd
       subst e2
       rcases h2 j a' n' rfl with q | ⟨a2,b2,q⟩
       · rw[h3] at q;cases q
       · exact ha j rfl (by rw[q];rfl)
     | _=>simp[a_0] at hd
   | _=>simp[a_0] at hi
theorem Apart.nil (d:D) :Apart .nils d:=fun i h=>by cases h
end Go.Fw
namespace Go.Fw
variable {P:Program} {σ σ':Store}
theorem a_ai {s:Store}{el:TypeId}{es:Nat}{rows:List (List D)}(hes:P.cellsOf el=es)(hsz:rows.length < 2 ^ 60) :At P s el (.sl es rows) rows:=
 ⟨⟨rfl, .inr hes.symm⟩,hsz,fun es rows e=>by injection e with e1 e2;rw[←e1,hes]⟩
theorem l_p {σ0 s:Store}{el:TypeId}{d:D}{rs:List (List D)}{i:Nat}(h:Own P σ0 s el d rs)(hi:a_0 d=some i) :σ0 i= .free:=by
 cases d with
 | osl id a n=>
   have:id=i:=by simpa[a_0] using hi
   subst this
   exact h.new _ _ _ rfl
 | _=>simp[a_0] at hi
end Go.Fw
namespace Go.Fw
variable {P:Program} {σ σ':Store}
end Go.Fw
namespace Go.Fw
variable {P:Program} {σ σ':Store}
end Go.Fw
namespace Go.Fw
variable {P:Program} {σ σ':Store}
theorem Own.sub {σ0:Store}{el:TypeId}{d:D}{rs:List (List D)}{lo hi:Nat}(h:Own P σ0 σ el d rs)(h1:lo≤hi)(h2:hi≤rs.length) :Own P σ0 σ el (g_f d lo hi) ((rs.drop lo).take (hi - lo)):=by
 have hr:=h.at_.rows
 have hn:=h.new
 have hl:=h.nsl
 have hz:=h.nz
 refine ⟨h.at_.sub h1 h2,h.ext,?_,?_,?_⟩ <;> cases d <;> simp only[g_f,Rows] at * <;> first | (intro id i n e;cases e;exact hn _ _ _ rfl) | (intro id i n e;cases e;done) | exact hl | (intro e;cases e;done) | exact hr.elim | exact hz
end Go.Fw
end
namespace Go.Proofs.YtdmfnhbmhkgemaaGreat
open Go.Fw Go.Proofs Go.RowKit
section
variable {σ:Store}
theorem x_x {a b:D}{la lb:List Int}(ha:At Tryz.prog σ a_h a (la.map Go.Fw.encI))(hb:At Tryz.prog σ a_h b (lb.map Go.Fw.encI)) :Pure Tryz.prog i_m [.one a, .one b] σ (.a (bA (decide (la=lb)))):=by
 have hs:=ha.size
 rw[List.length_map] at hs
 refine a_au a b σ _ (ha.lenK (hb.lenK ?_))
 rw[List.length_map,List.length_map]
 refine bcn (fun hne=>⟨?_,rfl⟩) (fun he=>ha.lenK ?_)
 · rw[decide_eq_false (fun e=>hne (by rw[e]))]
 have hl:la.length=lb.length:=by omega
 rw[List.length_map]
 refine ⟨fun n s=>s=σ∧EqR la lb n,fun n _=>la.length - n.toNat,⟨rfl, .start _ _⟩,?_⟩
 rintro n s ⟨rfl,hr⟩
 refine bcd (fun hlt=>?_) (fun hge=>⟨?_,rfl⟩)
 · obtain ⟨j,x,y,rfl,hx,hy,hn,hy2⟩:=hr.step hl rfl hs hlt
   refine ha.load (a_c hx) c_int rfl ⟨x,rfl,hb.load (a_c hy) c_int rfl ⟨y,rfl,bcn (fun e=>⟨?_,rfl⟩) (fun e=>c_0 rfl (hy2 e))⟩⟩
   rw[decide_eq_false (hn e)]
 · rw[decide_eq_true (hr.done hl rfl hge)]
theorem v_3 {a b:D}{la lb:List Nd}(ha:At Tryz.prog σ b_a a (la.map Nd.enc))(hb:At Tryz.prog σ b_a b (lb.map Nd.enc)) :Pure Tryz.prog h_r [.one a, .one b] σ (.a (bA (decide (la=lb)))):=by
 have hs:=ha.size
 rw[List.length_map] at hs
 refine z_f a b σ _ (ha.lenK (hb.lenK ?_))
 rw[List.length_map,List.length_map]
 refine bcn (fun hne=>⟨?_,rfl⟩) (fun he=>ha.lenK ?_)
 · rw[decide_eq_false (fun e=>hne (by rw[e]))]
 have hl:la.length=lb.length:=by omega
 rw[List.length_map]
 refine ⟨fun n s=>s=σ∧EqR la lb n,fun n _=>la.length - n.toNat,⟨rfl, .start _ _⟩,?_⟩
 rintro n s ⟨rfl,hr⟩
 refine bcd (fun hlt=>?_) (fun hge=>⟨?_,rfl⟩)
 · obtain ⟨j,x,y,rfl,hx,hy,hn,hy2⟩:=hr.step hl rfl hs hlt
   refine ha.load (a_c hx) n_4 rfl ⟨x.Sec,x.Pos,rfl,hb.load (a_c hy) n_4 rfl ⟨y.Sec,y.Pos,rfl,a_q (fun e=>⟨?_,rfl⟩) (fun e=>c_0 rfl (hy2 ?_))⟩⟩
   · rw[decide_eq_false (hn fun g=>by rw[g] at e;simp at e)]
   · simp at e;cases x;cases y;simp at e;simp[e]
 · rw[decide_eq_true (hr.done hl rfl hge)]
section
variable {c0 c1 c2 c3 c4:D} {c:Cf} (h:∀s,CfAt s c0 c1 c2 c3 c4 c)
include h
theorem a_g9 (ht:b_m c.Secs c.Jts=true)(hsg:c.sigsOk=true)(r:Rt){d1 d2 d3:D}(hp:∀s,At Tryz.prog s d_v d1 (r.Path.map St.enc)) :
   Pure Tryz.prog p_d [cfA c0 c1 c2 c3 c4 c,rtA d1 d2 d3 r] σ (.a (bA (c.path r))):=by
 have hl:=(hp σ).size
 rw[List.length_map] at hl
 refine .of (a_kk _ _ _ _ _ _ _ _ _ _ _ d1 d2 d3 _ σ _ ?_) (k_o _)
 intro R hR
 have no:c.path r=false→(RV.a (bA false) = .a (bA (c.path r))∧Ext σ σ):=fun e=>⟨by rw[e], .refl _⟩
 refine bcd (fun e=>no (by rw[Cf.path,c_g e])) (fun e0=>(h σ).sigs.lenK ?_)
 rw[List.length_map]
 refine bcd (fun e=>no (by rw[Cf.path,d_u e])) (fun e1=>?_)
 obtain ⟨a,hg⟩:=c_s e0 e1
 have hpath:c.path r=((decide (r.Exit= -1) || (a_k c.Sigs r.Exit).isSome) && decide (1≤r.Path.length∧r.Path.length≤8) && p_k c r (a_k c.Sigs r.Exit) r.Path a [a.Sec]):=by rw[Cf.path,hg]
 refine bcd (fun e=>no (by rw[hpath,c_g (by omega),decide_eq_false (by omega)];rfl)) (fun e2=>(h σ).sigs.lenK ?_)
 rw[List.length_map]
 refine bcd (fun e=>no (by rw[hpath,d_u e,decide_eq_false (by omega)];rfl)) (fun e3=>(hp σ).lenK ?_)
 rw[List.length_map]
 refine bcd (fun e=>no (by rw[hpath,decide_eq_false (p:=1≤r.Path.length∧_) (by omega),Bool.and_false,Bool.false_and])) (fun e4=>(hp σ).lenK ?_)
 rw[List.length_map]
 refine bcd (fun e=>no (by rw[hpath,decide_eq_false (p:=1≤r.Path.length∧_) (by omega),Bool.and_false,Bool.false_and])) (fun e5=>hR σ ?_)
 have hex1:(decide (r.Exit= -1) || (a_k c.Sigs r.Exit).isSome) =true:=by
   by_cases e:r.Exit= -1
   · rw[decide_eq_true e];rfl
   · obtain ⟨x,hx⟩:=c_s (l:=c.Sigs) (i:=r.Exit) (by omega) e3
     rw[hx];simp
 rw[hex1,decide_eq_true (by omega),Bool.true_and,Bool.true_and] at hpath
 have hgs:=a_l hg
 refine (h σ).sigs.load (a_c hgs.2.2) f_t (by omega) ⟨a.Sec,a.End_,rfl,a_e fun id s1 hid _ he1 hs1=>(hp s1).lenK ?_⟩
 rw[List.length_map]
 refine ⟨fun m e d n s=>∃seen:List Int,Own Tryz.prog σ s a_h d (seen.reverse.map Go.Fw.encI)∧(seen.length:Int)≤n+1∧Rng r.Path (fun q=>p_k c r (a_k c.Sigs r.Exit) q ⟨m,e⟩ seen=c.path r) n,fun _ _ _ n _=>r.Path.length - n.toNat,
   ⟨[a.Sec], .at_new hid he1 hs1 (by simp) rfl,by simp, .start hpath.symm⟩,?_⟩
 rintro m e d n s ⟨seen,ho,hsl,hr⟩
 refine bcd (fun hlt=>?_) (fun hge=>?_)
 · obtain ⟨j,x,rfl,hx,hj,hF,nx⟩:=hr.step rfl hl hlt
   intro R1 hR1
   refine (hp s).load (a_c hx) i_l rfl ⟨x.Sec,x.In,x.Out,rfl,(g_q m e (h s).jts).use (i_w _ ?_)⟩
   rw[p_k] at hF
   have hes:=ho.ext
   have bad:x_m c r (a_k c.Sigs r.Exit) ⟨m,e⟩ x (r.Path.drop (j+1)).isEmpty seen=false→(RV.a (.one (.bool false)) = .a (bA (c.path r))∧Ext σ s):=fun hb=>by
     rw[hb] at hF
     exact ⟨by rw[←hF];rfl,hes⟩
   have good:x_m c r (a_k c.Sigs r.Exit) ⟨m,e⟩ x (r.Path.drop (j+1)).isEmpty seen=true→∀s' d',Own Tryz.prog σ s' a_h d' ((x.Sec::seen).reverse.map Go.Fw.encI)→R1 x.Sec x.Out d' s':=fun hb s' d' ho'=>by
     rw[hb,Bool.true_and] at hF
     have hn:=nx (fun q=>p_k c r (a_k c.Sigs r.Exit) q ⟨x.Sec,x.Out⟩ (x.Sec::seen) =c.path r) hF
     exact hR1 _ _ _ _ ⟨⟨x.Sec::seen,ho',by rw[a_o (by omega),List.length_cons];omega,hn.1⟩,hn.2⟩
   intro R2 hR2
   rw[x_m] at bad good
   cases hn:nxt c.Jts m e with
   | none=>
     rw[hn] at bad
     exact a_q (fun _=>bad rfl) (fun e=>by cases e)
   | some p=>
     obtain ⟨q,i⟩:=p
     rw[hn] at bad good hR2
     obtain ⟨y,hy⟩:=a_se ht hn
     simp only[hy,Option.getD_some] at bad good hR2 ⊢
     refine a_q (fun e=>by cases e) (fun _=>bcn (fun k=>bad (by simp[k])) (fun k1=>bcn (fun k=>bad (by simp[k])) (fun k2=>(i_7 q ho.at_).use ⟨_,rfl,bc (fun k=>bad ?_) (fun k3=>⟨trivial,hR2 s ?_⟩)⟩)))
     · have:q ∈ seen:=by simpa[inL] using k
       simp[this]
     have hq:q ∉ seen:=by simpa[inL] using k3
     refine (i_y (h s) q).use ⟨_,rfl,(a_mc _ _ _).use (a_mx _ ?_)⟩
     rw[h_b hy]
     intro R3 hR3
     have main:∀but,decide (a_k c.Sigs but=some ⟨x.Sec,x.Out⟩) =((r.Path.drop (j+1)).isEmpty && decide (a_k c.Sigs r.Exit=some ⟨x.Sec,x.Out⟩))→R3 but s:=fun but hbut=>hR3 but s (by
       intro R4 hR4
       refine a_q (fun k=>bad (by rw[k];simp)) (fun k4=>(a_ca (h s) x.Sec x.Out but).use ⟨_,rfl,?_⟩)
       rw[a_yh hsg,hbut]
       have hfin:(!(r.Shunt && decide (y.Line≠0))) =true→((c.Sigs.any fun z=>decide (⟨x.Sec,x.Out⟩ =z)) && !((r.Path.drop (j+1)).isEmpty && decide (a_k c.Sigs r.Exit=some ⟨x.Sec,x.Out⟩))) =false→R4 s:=fun g1 g2=>hR4 s (a_e fun id1 s2 hid1 _ he2 hs2=>(ho.ext' he2).append (At.fresh hs2 (by simp) rfl) (by simp;omega) (by simp;omega) fun d4 s5 ho5 _ _=>good (by
         rw[k4,g1,decide_eq_true k1,decide_eq_true k2,decide_eq_true hq]
         generalize (c.Sigs.any fun z=>decide (⟨x.Sec,x.Out⟩ =z)) =u at g2
         generalize ((r.Path.drop (j+1)).isEmpty && decide (a_k c.Sigs r.Exit=some ⟨x.Sec,x.Out⟩)) =w at g2
         cases u <;> cases w <;> first | rfl | cases g2) _ _ (by rw[List.reverse_cons,List.map_append,←k1];exact ho5))
       refine bc (fun k=>bad ?_) (fun k5=>bc (fun k6=>(h s).secs.load (a_c (a_l hy).2.2) b_z (by have:=a_l hy;omega) ⟨y.Line,rfl,bcn (fun k7=>bad (by rw[k6];simp[k7])) (fun k7=>⟨trivial,hfin (by rw[k6];simp[k7]) k5⟩)⟩) (fun k6=>⟨trivial,hfin (by rw[k6];rfl) k5⟩))
       · generalize (c.Sigs.any fun z=>decide (⟨x.Sec,x.Out⟩ =z)) =u at k
         generalize ((r.Path.drop (j+1)).isEmpty && decide (a_k c.Sigs r.Exit=some ⟨x.Sec,x.Out⟩)) =w at k
         cases u <;> cases w <;> first | (simp;done) | cases k)
     refine (hp s).lenK ?_
     rw[List.length_map,a_u (n:=(r.Path.length:Int) - 1) (by omega) (by omega)]
     refine bce (fun q1=>⟨trivial,main _ ?_⟩) (fun q1=>⟨trivial,main _ ?_⟩)
     · rw[e_4 (by omega)];simp
     · have hemp : (r.Path.drop (j + 1)).isEmpty = false := by
         cases hd:r.Path.drop (j+1) with
         | nil=>rw[List.drop_eq_nil_iff] at hd;omega
         | cons y l=>rfl
       rw[hemp,c_g (by omega)];simp
 · have hF:(match (generalizing:=false) a_k c.Sigs r.Exit with | some x=>decide ((⟨m,e⟩ :Sg) =x) | none=> !(nxt c.Jts m e).isSome) =c.path r:=hr.done rfl hge
   refine bcd (fun k1=>?_) (fun k1=>(g_q m e (h s).jts).use (i_w _ ⟨?_,ho.ext⟩))
   · obtain ⟨y,hy⟩:=c_s (l:=c.Sigs) (i:=r.Exit) (by omega) e3
     rw[hy] at hF
     refine (h s).sigs.load (a_c (a_l hy).2.2) f_t (by omega) ⟨y.Sec,y.End_,rfl,?_,ho.ext⟩
     rw[←hF]
     congr 3;rw[Bool.eq_iff_iff];cases y;simp;exact ⟨fun ⟨a,b⟩=>⟨a.symm,b.symm⟩,fun ⟨a,b⟩=>⟨a.symm,b.symm⟩⟩
   · rw[c_g (by omega)] at hF
     rw[←hF]
theorem a_ee (a:Int){pd:D}{path:List St}(hp:∀s,At Tryz.prog s d_v pd (path.map St.enc))(hpl:path.length≤2 ^ 20) :
   DCalls Tryz.prog m_f [cfA c0 c1 c2 c3 c4 c,iA a, .one pd] σ (d_b σ b_a ((c.flank a path).map Nd.enc)):=by
 refine (a_g8 _ _ _ _ _ _ _ _ _ a pd σ _ ?_).ret (Q:=fun r s=>∃r' σ',Ret Tryz.prog σ s r σ' r'∧d_b σ b_a ((c.flank a path).map Nd.enc) r' σ') (fun r s h=>h)
 refine (hp σ).lenK ⟨fun d d1 n s=>∃out:List Nd,Own Tryz.prog σ s b_a d (out.map Nd.enc)∧Own Tryz.prog σ s a_h d1 ((out.map Nd.Sec).map Go.Fw.encI)∧Apart d d1∧(out.length:Int)≤4 * n∧Rng path (fun r=>c_n c a path r out=c.flank a path) n,
   fun _ _ n _=>path.length - n.toNat,⟨[], .nil _ (.refl _), .nil _ (.refl _), .nil _,by simp, .start rfl⟩,?_⟩
 rintro d d1 n s ⟨out,ho,ho1,hap,hol,hr⟩
 rw[List.length_map]
 refine bcd (fun hlt=>?_) (fun hge=>?_)
 · obtain ⟨j,x,rfl,hx,hj,hF,nx⟩:=hr.step rfl (by omega) hlt
   refine (hp s).load (a_c hx) i_l rfl ⟨x.Sec,x.In,x.Out,rfl,(i_y (h s) _).use ⟨_,rfl,?_⟩⟩
   have hF':c_n c a path (path.drop (j+1)) (b_i c a path x (b_d (y_l c x.Sec)).toNat 0 out) =c.flank a path:=by
     rw[←hF,c_n]
     cases hg:a_k c.Secs x.Sec with
     | none=>rw[k_q hg];rfl
     | some y=>rw[h_b hg]
   generalize y_l c x.Sec=k at hF'
   have hne:=y_3 k
   refine ⟨fun d d1 m s'=>∃out':List Nd,Own Tryz.prog σ s' b_a d (out'.map Nd.enc)∧Own Tryz.prog σ s' a_h d1 ((out'.map Nd.Sec).map Go.Fw.encI)∧Apart d d1∧0≤m∧m≤b_d k∧(out'.length:Int)≤4 * j+m∧b_i c a path x (b_d k - m).toNat m out'=b_i c a path x (b_d k).toNat 0 out,
     fun _ _ m _=>(b_d k - m).toNat,⟨out,ho,ho1,hap,by omega,hne.1,by omega,by rw[Int.sub_zero]⟩,?_⟩
   rintro d2 d3 m s' ⟨out',ho',ho1',hap',hm0,hm1,hol',hE⟩
   refine (i_z _).use ⟨_,rfl,bcd (fun hlt'=>?_) (fun hge'=>?_)⟩
   · have hw:w64 (m+1) =m+1:=a_u (by omega) (by omega)
     have hk:(b_d k - m).toNat=(b_d k - (m+1)).toNat+1:=by omega
     rw[hk,b_i] at hE
     intro R hR
     have leaf:∀(out2:List Nd) (d4 d5:D) (s2:Store),b_q c a path x out' m=out2→Own Tryz.prog σ s2 b_a d4 (out2.map Nd.enc)→Own Tryz.prog σ s2 a_h d5 ((out2.map Nd.Sec).map Go.Fw.encI)→Apart d4 d5→R d4 d5 s2:=by
       intro out2 d4 d5 s2 h1 h2 h3 h4
       have hlen:=(m_l c a path x out' m).2
       refine hR _ _ _ ⟨rfl,?_⟩
       rw[hw]
       refine ⟨⟨out2,h2,h3,h4,by omega,by omega,by rw[←h1];omega,by rw[←h1];exact hE⟩,by show (b_d k - (m+1)).toNat < (b_d k - m).toNat;omega⟩
     intro R1 hR1
     refine bce (fun h1=>⟨by trivial,leaf out' _ _ s' (by rw[b_q,if_pos (.inl h1)]) ho' ho1' hap'⟩) (fun h1=>bce (fun h2=>⟨by trivial,leaf out' _ _ s' (by rw[b_q,if_pos (.inr h2)]) ho' ho1' hap'⟩) (fun h2=>⟨by trivial,hR1 s' ?_⟩))
     have hst:b_q c a path x out' m=match nxt c.Jts x.Sec m with
       | none=>out'
       | some (q,f)=>match a_k c.Secs q with
         | none=>out'
         | some y=>if y.Kind=1∧(1≤f∧f≤2)∧q≠a∧d_n path q=false∧(out'.any fun n=>n.Sec == q) =false then out' ++ [⟨q,3 - f⟩] else out':=by
       rw[b_q,if_neg (by rintro (e | e);exact h1 e;exact h2 e)] <;> rfl
     refine (g_q x.Sec m (h s').jts).use (i_w _ ?_)
     intro R2 hR2
     cases hn:nxt c.Jts x.Sec m with
     | none=>
       rw[hn] at hst
       exact a_q (fun _=>⟨by trivial,leaf out' _ _ s' hst ho' ho1' hap'⟩) (fun e=>by cases e)
     | some p=>
       obtain ⟨q,f⟩:=p
       rw[hn] at hst hR2
       simp only[Option.getD_some] at hst hR2 ⊢
       refine a_q (fun e=>by cases e) (fun _=>(i_y (h s') q).use ⟨_,rfl,?_⟩)
       refine bcn (fun k1=>⟨by trivial,leaf out' _ _ s' ?_ ho' ho1' hap'⟩) (fun k1=>?_)
       · cases hg:a_k c.Secs q with
         | none=>rw[hg] at hst;exact hst
         | some y=>rw[hg] at hst;rw[h_b hg] at k1;rw[hst];exact if_neg fun g=>k1 g.1
       obtain ⟨y,hg⟩ :∃y,a_k c.Secs q=some y:=by
         cases hg:a_k c.Secs q with
         | none=>rw[k_q hg] at k1;cases k1
         | some y=>exact ⟨y,rfl⟩
       rw[h_b hg] at k1
       rw[hg] at hst
       simp only at hst
       have no:¬((1≤f∧f≤2)∧q≠a∧d_n path q=false∧(out'.any fun n=>n.Sec == q) =false)→b_q c a path x out' m=out':=fun hn=>by rw[hst,if_neg fun g=>hn g.2]
       have main:(1≤f∧f≤2)→DCalls Tryz.prog d_j [.one pd] s' fun r4 s4=>∃d4,r4= .a (.one d4)∧DCalls Tryz.prog d_o [.one d4,iA q] s4 fun r5 s5=>∃b1,r5= .a (bA b1)∧a_b b1 (True∧R d2 d3 s5) (a_b (q == a) (True∧R d2 d3 s5) (DCalls Tryz.prog d_o [.one d3,iA q] s5 fun r6 s6=>∃b2,r6= .a (bA b2)∧a_b b2 (True∧R d2 d3 s6) (True∧R2 s6))):=by
         intro hf
         refine (l_t hp (by omega)).mono ?_
         rintro r4 s4 ⟨rfl,d4,rfl,hd4⟩
         refine ⟨d4,rfl,(i_7 q (hd4 _)).use ⟨_,rfl,?_⟩⟩
         rw[a_jd]
         refine bc (fun k2=>⟨by trivial,leaf out' _ _ _ (no fun g=>by rw[g.2.2.1] at k2;cases k2) ho' ho1' hap'⟩) (fun k2=>bce (fun k3=>⟨by trivial,leaf out' _ _ _ (no fun g=>g.2.1 k3) ho' ho1' hap'⟩) (fun k3=>(i_7 q ho1'.at_).use ⟨_,rfl,?_⟩))
         rw[a_x3]
         refine bc (fun k4=>⟨by trivial,leaf out' _ _ _ (no fun g=>by rw[g.2.2.2] at k4;cases k4) ho' ho1' hap'⟩) (fun k4=>⟨by trivial,hR2 _ ?_⟩)
         refine a_e fun id s5 hid _ he5 hs5=>?_
         refine (ho1'.ext' he5).append2 (ho'.ext' he5) hap' (At.fresh hs5 (by simp) rfl) (by simp;omega) (by simp;omega) fun d5 s6 ho6 ho6' hap6=>?_
         refine a_e fun id7 s7 hid7 _ he7 hs7=>?_
         have hw2:w64 (3 - f) =3 - f:=a_u (by omega) (by omega)
         refine (ho6'.ext' he7).append2 (ho6.ext' he7) hap6.symm (At.fresh hs7 (by simp) rfl) (by simp;omega) (by simp;omega) fun d8 s8 ho8 ho8' hap8=>⟨by trivial,leaf (out' ++ [⟨q,3 - f⟩]) _ _ _ (by rw[hst,if_pos ⟨k1,hf,k3,k2,k4⟩]) ?_ ?_ hap8.symm⟩
         · rw[hw2] at ho8;rw[List.map_append];exact ho8
         · rw[List.map_append,List.map_append];exact ho8'
       refine bcn (fun k2=>bcn (fun k3=>⟨by trivial,leaf out' _ _ s' (no fun g=>by omega) ho' ho1' hap'⟩) (fun k3=>main (by omega))) (fun k2=>main (by omega))
   · have hz:(b_d k - m).toNat=0:=by omega
     rw[hz,b_i] at hE
     rw[←hE] at hF'
     have hn:=nx (fun r=>c_n c a path r out'=c.flank a path) hF'
     exact ⟨⟨out',ho',ho1',hap',by rw[a_o (by omega)];omega,hn.1⟩,hn.2⟩
 · have hF:=hr.done rfl hge
   rw[c_n] at hF
   rw[←hF]
   exact f_i ho (a_ra _)
theorem a_a5 (r:Rt){d1 d2 d3:D}(hp:∀s,At Tryz.prog s d_v d1 (r.Path.map St.enc))(hpl:r.Path.length≤2 ^ 20) :
   DCalls Tryz.prog j_d [cfA c0 c1 c2 c3 c4 c,rtA d1 d2 d3 r] σ (d_b σ a_h ((c.overlap r).map Go.Fw.encI)):=by
 refine (a_cg _ _ _ _ _ _ _ _ _ _ _ d1 d2 d3 _ σ _ ?_).ret (Q:=fun r' s=>∃r'' σ',Ret Tryz.prog σ s r' σ' r''∧d_b σ a_h ((c.overlap r).map Go.Fw.encI) r'' σ') (fun r s h=>h)
 intro R hR
 have nil:c.overlap r=[]→∃r'' σ',Ret Tryz.prog σ σ (.a (.one .nils)) σ' r''∧d_b σ a_h ((c.overlap r).map Go.Fw.encI) r'' σ':=fun e=>by
   rw[e];exact f_i (.nil _ (.refl _)) (u_w _)
 refine bc (fun h1=>nil (by rw[Cf.overlap,if_pos h1])) (fun h1=>?_)
 have hov:c.overlap r=match a_k c.Sigs r.Exit with
   | none=> []
   | some x=>match nxt c.Jts x.Sec x.End_ with
     | none=> []
     | some (q,_)=>match a_k c.Secs q with
       | none=> []
       | some y=>if y.Line=0∧d_n r.Path q=false∧q≠c.approach r then [q] else []:=by
   rw[Cf.overlap,if_neg (by rw[h1];simp)] <;> rfl
 refine bcd (fun e=>nil (by rw[hov,c_g e])) (fun e0=>(h σ).sigs.lenK ?_)
 rw[List.length_map]
 refine bcd (fun e=>nil (by rw[hov,d_u e])) (fun e1=>hR σ ?_)
 obtain ⟨x,hg⟩:=c_s e0 e1
 rw[hg] at hov
 simp only at hov
 refine (h σ).sigs.load (a_c (a_l hg).2.2) f_t (by omega) ⟨x.Sec,x.End_,rfl,(g_q _ _ (h σ).jts).use (i_w _ ?_)⟩
 intro R1 hR1
 have main:R1 (c.approach r) σ:=by
   refine hR1 _ σ ?_
   cases hn:nxt c.Jts x.Sec x.End_ with
   | none=>rw[hn] at hov;exact a_q (fun _=>nil hov) (fun e=>by cases e)
   | some p=>
     obtain ⟨q,f⟩:=p
     rw[hn] at hov
     simp only[Option.getD_some] at hov ⊢
     refine a_q (fun e=>by cases e) (fun _=>bcd (fun e=>nil (by rw[hov,c_g e])) (fun e2=>(h σ).secs.lenK ?_))
     rw[List.length_map]
     refine bcd (fun e=>nil (by rw[hov,d_u e])) (fun e3=>(l_t hp (by omega)).mono ?_)
     obtain ⟨y,hy⟩:=c_s e2 e3
     rw[hy] at hov
     simp only at hov
     have no:¬(y.Line=0∧d_n r.Path q=false∧q≠c.approach r)→c.overlap r=[]:=fun hn=>by rw[hov,if_neg hn]
     rintro r4 s4 ⟨rfl,d4,rfl,hd4⟩
     refine ⟨d4,rfl,(i_7 q (hd4 _)).use ⟨_,rfl,?_⟩⟩
     rw[a_jd]
     refine bc (fun k2=>nil (no fun g=>by rw[g.2.1] at k2;cases k2)) (fun k2=>bce (fun k3=>nil (no fun g=>g.2.2 k3)) (fun k3=>?_))
     refine (h s4).secs.load (a_c (a_l hy).2.2) b_z (by omega) ⟨y.Line,rfl,bcn (fun k4=>nil (no fun g=>k4 g.1)) (fun k4=>?_)⟩
     refine a_e fun id s5 hid _ he5 hs5=>?_
     rw[hov,if_pos ⟨k4,k2,k3⟩]
     exact f_i (.at_new hid he5 hs5 (by simp) rfl) (u_w _)
 refine bcd (fun k0=>(h σ).sigs.lenK ?_) (fun k0=>?_)
 · rw[List.length_map]
   refine bcd (fun k1=>?_) (fun k1=>?_)
   · obtain ⟨z,hz⟩:=c_s (l:=c.Sigs) (i:=r.Entry) (by omega) (by omega)
     refine (h σ).sigs.load (a_c (a_l hz).2.2) f_t (by omega) ⟨z.Sec,rfl,?_⟩
     rw[Cf.approach,hz] at main;exact main
   · rw[Cf.approach,d_u (by omega)] at main;exact main
 · rw[Cf.approach,c_g (by omega)] at main;exact main
theorem q_q:Pure Tryz.prog i_u [cfA c0 c1 c2 c3 c4 c] σ (.a (iA c.check)):=by
 refine a_h0 _ _ _ _ _ _ _ _ _ σ _ ((a_fj (h σ).secs (h σ).jts).use ⟨_,rfl,?_⟩)
 have e6:(if b_m c.Secs c.Jts=true then (0:Int) else 6)≠0↔b_m c.Secs c.Jts=false:=by
   cases b_m c.Secs c.Jts <;> simp
 refine bcn (fun k1=>⟨by rw[Cf.check,if_pos (e6.1 k1)],rfl⟩) (fun k1=>(a_bd (h σ)).use ⟨_,rfl,a_q (fun k2=>⟨?_,rfl⟩) (fun k2=>?_)⟩)
 all_goals have k1':¬b_m c.Secs c.Jts=false:=fun e=>e6.2 e k1
 · rw[Cf.check,if_neg k1',if_pos k2]
 have ht:b_m c.Secs c.Jts=true:=by simpa using k1'
 refine (w_s (h σ) ht).use ⟨_,rfl,a_q (fun k3=>⟨?_,rfl⟩) (fun k3=>?_)⟩
 · rw[Cf.check,if_neg k1',if_neg (by rw[k2];simp),if_pos k3]
 have hck:c.check=if c.Rts.length > 12 then 9 else if c.routes c.Rts≠0 then c.routes c.Rts else if c.timing=true then 0 else 12:=by
   rw[Cf.check,if_neg k1',if_neg (by rw[k2];simp),if_neg (by rw[k3];simp)]
 obtain ⟨rows,hat,hlen,hrow⟩:=g_h fun s=>(h s).rts
 have hl:=(hat σ).size
 refine (hat σ).lenK (bcd (fun k4=>⟨by rw[hck,if_pos (by omega)],rfl⟩) (fun k4=>(hat σ).lenK ?_))
 rw[if_neg (by omega)] at hck
 refine ⟨fun n s=>s=σ∧Rng c.Rts (fun l=>c.routes l=c.routes c.Rts) n,fun n _=>c.Rts.length - n.toNat,⟨rfl, .start rfl⟩,?_⟩
 rintro n τ ⟨rfl,hr⟩
 refine bcd (fun hlt=>?_) (fun hge=>?_)
 · obtain ⟨j,x,rfl,hx,hj,hF,nx⟩:=hr.step hlen (by omega) hlt
   obtain ⟨row,hrw⟩:=a_i (l:=rows) (j:=j) (by omega)
   obtain ⟨d1,d2,d3,rfl,q1,q2,q3⟩:=hrow j row x hrw hx
   rw[Cf.routes] at hF
   have err:∀e,e≠0→c.route x=e→(RV.a (iA e) = .a (iA c.check)∧τ=τ):=fun e he hc=>by
     rw[hc,if_pos he] at hF
     rw[hck,←hF,if_pos he];exact ⟨rfl,rfl⟩
   refine (hat τ).load hrw c_l rfl ⟨_,_,d1,d2,d3,_,rfl,(a_g9 h ht k2 x q1).use ⟨_,rfl,a_q (fun k5=>err 9 (by decide) (by rw[Cf.route,if_pos k5])) (fun k5=>?_)⟩⟩
   have hpl:x.Path.length≤8:=by
     unfold Cf.path at k5
     split at k5
     · cases k5
     · simp at k5;exact k5.1.2.2
   refine (y_8 (h τ) j).use ⟨_,rfl,?_⟩
   rw[show c.Approach j=c.approach x by rw[Cf.Approach,show a_k c.Rts j=some x by unfold a_k;rw[if_neg (by omega),Int.toNat_natCast];exact hx];rfl]
   refine (a_ee h _ q1 (by omega)).mono ?_
   rintro r1 s1 ⟨rfl,d,rfl,hd⟩
   refine ⟨d,rfl,(v_3 (q2 _) (hd _)).use ⟨_,rfl,a_q (fun k6=>err 10 (by decide) ?_) (fun k6=>(a_a5 h x q1 (by omega)).mono ?_)⟩⟩
   · rw[Cf.route,if_neg (by rw[k5];simp),if_pos (of_decide_eq_false k6)]
   rintro r2 s2 ⟨rfl,d',rfl,hd'⟩
   have e2:=of_decide_eq_true k6
   refine ⟨d',rfl,(x_x (q3 _) (hd' _)).use ⟨_,rfl,a_q (fun k7=>err 11 (by decide) ?_) (fun k7=>?_)⟩⟩
   · rw[Cf.route,if_neg (by rw[k5];simp),if_neg (fun hn=>hn e2),if_pos (of_decide_eq_false k7)]
   · have h0:c.route x=0:=by rw[Cf.route,if_neg (by rw[k5];simp),if_neg (fun hn=>hn e2),if_neg (fun hn=>hn (of_decide_eq_true k7))]
     rw[if_neg (by simp[h0])] at hF
     exact c_0 rfl (nx _ hF)
 · have hF:0=c.routes c.Rts:=hr.done hlen hge
   rw[←hF,if_neg (by simp)] at hck
   have bad:¬(((1≤c.Age∧c.Age≤8)∧(0≤c.Brake∧c.Brake≤8))∧(c.Age+c.Brake+1≤c.Hold∧c.Hold≤40)∧(1≤c.Budget∧c.Budget≤1000000))→(RV.a (iA 12) = .a (iA c.check)∧τ=τ):=fun hn=>by
     rw[hck,if_neg (fun e=>hn (by simpa[Cf.timing,and_assoc] using e))];exact ⟨rfl,rfl⟩
   refine bcd (fun e=>bad fun g=>by omega) (fun t1=>bcd (fun e=>bad fun g=>by omega) (fun t2=>bcd (fun e=>bad fun g=>by omega) (fun t3=>bcd (fun e=>bad fun g=>by omega) (fun t4=>?_))))
   rw[a_u (n:=c.Age+c.Brake) (by omega) (by omega),a_u (n:=c.Age+c.Brake+1) (by omega) (by omega)]
   refine bcd (fun e=>bad fun g=>by omega) (fun t5=>bcd (fun e=>bad fun g=>by omega) (fun t6=>bcd (fun e=>bad fun g=>by omega) (fun t7=>bcd (fun e=>bad fun g=>by omega) (fun t8=>⟨?_,rfl⟩))))
   rw[hck,if_pos]
   simp only[Cf.timing,Bool.and_eq_true,decide_eq_true_eq]
   omega
end
end
section
variable {σ:Store}
section
variable {σ0:Store} {d0 d1 d2 d3 d4 d5:D} {k:Co}
theorem k_d {s s':Store}{i:Nat}(he:Ext σ0 s)(hf:σ0 i= .free)(hs:∀j,j≠i→s' j=s j) :Ext σ0 s':=fun j hj=>by
 rw[hs j (fun e=>hj (by rw[e];exact hf))];exact he j hj
end
end
section
variable {σ σ0:Store} {d0 d1 d2 d3 d4 d5:D} {k:Co}
theorem a_ln {t:TypeId}{bytes:Nat}{d:D}{rows:List (List D)}{K:D→Store→Prop}(h:At Tryz.prog σ t d rows)(hb:bytes * rows.length≤140737488355328)
   (hK:∀d' s,Own Tryz.prog σ s t d' rows→K d' s) :Fw.newObj σ (.live t []) fun id σ'=>a_z Tryz.prog σ' t bytes (.osl id 0 0) d K:=by
 refine a_e fun id s hid _ he hs=>?_
 have ho:Own Tryz.prog σ s t (.osl id 0 0) []:= .at_new hid he hs (by simp) rfl
 exact ho.append (h.ext he) (by simpa using hb) (by have:=h.size;simpa using this) fun d' s' ho' _ _=>hK _ _ (by simpa using ho')
structure CoIn (σ0 σ:Store) (id:Nat) (t:TypeId) (pre post:List D) (d0 d1 d2 d3 d4 d5:D) (k:Co) :Prop where
 new:σ0 id= .free
 row:σ id= .live t [pre ++ ([d0,d1,d2,d3,d4,d5, .bool k.Dirty] ++ post)]
 co:CoOwn σ0 σ d0 d1 d2 d3 d4 d5 k
 ids:∀d ∈ [d0,d1,d2,d3,d4,d5],a_0 d≠some id
theorem CoIn.ext {id t pre post}(h:CoIn σ0 σ id t pre post d0 d1 d2 d3 d4 d5 k) :Ext σ0 σ:=h.co.own.ext
theorem CoIn.at {id t pre post}(h:CoIn σ0 σ id t pre post d0 d1 d2 d3 d4 d5 k) :CoAt σ d0 d1 d2 d3 d4 d5 k:=h.co.at
theorem CoIn.dirty {id t pre post}(h:CoIn σ0 σ id t pre post d0 d1 d2 d3 d4 d5 k){b:Bool}{off:Nat}(ho:off=pre.length+6){K:Store→Prop}
   (hK:∀s',CoIn σ0 s' id t pre post d0 d1 d2 d3 d4 d5 { k with Dirty:=b }→(∀i,i≠id→s' i=σ i)→K s') :a_j [.bool b] σ (.osl id 0 1) 0 off K:=by
 refine b_c h.row (by subst ho;simp;omega) fun s' hs hs'=>hK s' ?_ hs'
 have al:∀{d:D} {el:TypeId} {rs:List (List D)},d ∈ [d0,d1,d2,d3,d4,d5]→Own Tryz.prog σ0 σ el d rs→Own Tryz.prog σ0 s' el d rs:=fun hd g=>a_g g h.new (h.ids _ hd) hs'
 refine ⟨h.new,?_,⟨al (by simp) h.co.own,al (by simp) h.co.routes,al (by simp) h.co.points,al (by simp) h.co.xs,al (by simp) h.co.lines,al (by simp) h.co.resets,h.co.apart⟩,h.ids⟩
 rw[hs]
 have e:patch (pre ++ ([d0,d1,d2,d3,d4,d5, .bool k.Dirty] ++ post)) off [.bool b]=pre ++ ([d0,d1,d2,d3,d4,d5, .bool b] ++ post):=by
   subst ho
   unfold patch
   rw[List.take_length_add_append,List.length_singleton,Nat.add_assoc,List.drop_length_add_append]
   rw[List.append_assoc,List.append_assoc];rfl
 rw[e]
theorem CoOwn.putO (h:CoOwn σ0 σ d0 d1 d2 d3 d4 d5 k){j n off:Nat}{x y:Int}{ys:List D}(hj:k.Own[j]? =some x)(hn:n=j)(ho:off+ys.length≤1)(hp:patch (Go.Fw.encI x) off ys=Go.Fw.encI y){K:Store→Prop}
   (hK:∀s',CoOwn σ0 s' d0 d1 d2 d3 d4 d5 { k with Own:=k.Own.set j y }→(∀i,a_0 d0≠some i→s' i=σ i)→K s') :a_j ys σ d0 n off K:=by
 refine h.own.at_.store h.own.nsl (a_c hj) hn ho fun s' i hi hat hs hne=>hK s' ?_ fun i' hi'=>hs i' fun e=>hi' (by rw[e];exact hi)
 have hf:=m_s h.own hi
 have ap:∀{m:Nat} {d:D},[d0,d1,d2,d3,d4,d5][m]? =some d→m≠0→a_0 d≠some i:=fun hm hne0=>pw h.apart (i:=0) rfl hm (Ne.symm hne0) i hi
 refine ⟨⟨?_,k_d h.own.ext hf hs,h.own.new,h.own.nsl,h.own.nz⟩,a_g h.routes hf (ap (m:=1) rfl (by omega)) hs,a_g h.points hf (ap (m:=2) rfl (by omega)) hs,a_g h.xs hf (ap (m:=3) rfl (by omega)) hs,a_g h.lines hf (ap (m:=4) rfl (by omega)) hs,a_g h.resets hf (ap (m:=5) rfl (by omega)) hs,h.apart⟩
 rw[hp,map_set (Go.Fw.encI) k.Own j y] at hat;exact hat
theorem CoIn.putO {id t pre post}(h:CoIn σ0 σ id t pre post d0 d1 d2 d3 d4 d5 k){j n off:Nat}{x y:Int}{ys:List D}(hj:k.Own[j]? =some x)(hn:n=j)(ho:off+ys.length≤1)(hp:patch (Go.Fw.encI x) off ys=Go.Fw.encI y){K:Store→Prop}
   (hK:∀s',CoIn σ0 s' id t pre post d0 d1 d2 d3 d4 d5 { k with Own:=k.Own.set j y }→(∀i,a_0 d0≠some i→s' i=σ i)→K s') :a_j ys σ d0 n off K:=
 h.co.putO hj hn ho hp fun s' h' hs=>hK s' ⟨h.new,(hs id (h.ids _ (by simp))).trans h.row,h',h.ids⟩ hs
theorem CoOwn.putR (h:CoOwn σ0 σ d0 d1 d2 d3 d4 d5 k){j n off:Nat}{x y:Rs}{ys:List D}(hj:k.Routes[j]? =some x)(hn:n=j)(ho:off+ys.length≤4)(hp:patch (Rs.enc x) off ys=Rs.enc y){K:Store→Prop}
   (hK:∀s',CoOwn σ0 s' d0 d1 d2 d3 d4 d5 { k with Routes:=k.Routes.set j y }→(∀i,a_0 d1≠some i→s' i=σ i)→K s') :a_j ys σ d1 n off K:=by
 refine h.routes.at_.store h.routes.nsl (a_c hj) hn ho fun s' i hi hat hs hne=>hK s' ?_ fun i' hi'=>hs i' fun e=>hi' (by rw[e];exact hi)
 have hf:=m_s h.routes hi
 have ap:∀{m:Nat} {d:D},[d0,d1,d2,d3,d4,d5][m]? =some d→m≠1→a_0 d≠some i:=fun hm hne0=>pw h.apart (i:=1) rfl hm (Ne.symm hne0) i hi
 refine ⟨a_g h.own hf (ap (m:=0) rfl (by omega)) hs,⟨?_,k_d h.routes.ext hf hs,h.routes.new,h.routes.nsl,h.routes.nz⟩,a_g h.points hf (ap (m:=2) rfl (by omega)) hs,a_g h.xs hf (ap (m:=3) rfl (by omega)) hs,a_g h.lines hf (ap (m:=4) rfl (by omega)) hs,a_g h.resets hf (ap (m:=5) rfl (by omega)) hs,h.apart⟩
 rw[hp,map_set (Rs.enc) k.Routes j y] at hat;exact hat
theorem CoIn.putR {id t pre post}(h:CoIn σ0 σ id t pre post d0 d1 d2 d3 d4 d5 k){j n off:Nat}{x y:Rs}{ys:List D}(hj:k.Routes[j]? =some x)(hn:n=j)(ho:off+ys.length≤4)(hp:patch (Rs.enc x) off ys=Rs.enc y){K:Store→Prop}
   (hK:∀s',CoIn σ0 s' id t pre post d0 d1 d2 d3 d4 d5 { k with Routes:=k.Routes.set j y }→(∀i,a_0 d1≠some i→s' i=σ i)→K s') :a_j ys σ d1 n off K:=
 h.co.putR hj hn ho hp fun s' h' hs=>hK s' ⟨h.new,(hs id (h.ids _ (by simp))).trans h.row,h',h.ids⟩ hs
theorem CoOwn.putP (h:CoOwn σ0 σ d0 d1 d2 d3 d4 d5 k){j n off:Nat}{x y:Mv}{ys:List D}(hj:k.Points[j]? =some x)(hn:n=j)(ho:off+ys.length≤2)(hp:patch (Mv.enc x) off ys=Mv.enc y){K:Store→Prop}
   (hK:∀s',CoOwn σ0 s' d0 d1 d2 d3 d4 d5 { k with Points:=k.Points.set j y }→(∀i,a_0 d2≠some i→s' i=σ i)→K s') :a_j ys σ d2 n off K:=by
 refine h.points.at_.store h.points.nsl (a_c hj) hn ho fun s' i hi hat hs hne=>hK s' ?_ fun i' hi'=>hs i' fun e=>hi' (by rw[e];exact hi)
 have hf:=m_s h.points hi
 have ap:∀{m:Nat} {d:D},[d0,d1,d2,d3,d4,d5][m]? =some d→m≠2→a_0 d≠some i:=fun hm hne0=>pw h.apart (i:=2) rfl hm (Ne.symm hne0) i hi
 refine ⟨a_g h.own hf (ap (m:=0) rfl (by omega)) hs,a_g h.routes hf (ap (m:=1) rfl (by omega)) hs,⟨?_,k_d h.points.ext hf hs,h.points.new,h.points.nsl,h.points.nz⟩,a_g h.xs hf (ap (m:=3) rfl (by omega)) hs,a_g h.lines hf (ap (m:=4) rfl (by omega)) hs,a_g h.resets hf (ap (m:=5) rfl (by omega)) hs,h.apart⟩
 rw[hp,map_set (Mv.enc) k.Points j y] at hat;exact hat
theorem CoIn.putP {id t pre post}(h:CoIn σ0 σ id t pre post d0 d1 d2 d3 d4 d5 k){j n off:Nat}{x y:Mv}{ys:List D}(hj:k.Points[j]? =some x)(hn:n=j)(ho:off+ys.length≤2)(hp:patch (Mv.enc x) off ys=Mv.enc y){K:Store→Prop}
   (hK:∀s',CoIn σ0 s' id t pre post d0 d1 d2 d3 d4 d5 { k with Points:=k.Points.set j y }→(∀i,a_0 d2≠some i→s' i=σ i)→K s') :a_j ys σ d2 n off K:=
 h.co.putP hj hn ho hp fun s' h' hs=>hK s' ⟨h.new,(hs id (h.ids _ (by simp))).trans h.row,h',h.ids⟩ hs
theorem CoOwn.putX (h:CoOwn σ0 σ d0 d1 d2 d3 d4 d5 k){j n off:Nat}{x y:Mv}{ys:List D}(hj:k.Xs[j]? =some x)(hn:n=j)(ho:off+ys.length≤2)(hp:patch (Mv.enc x) off ys=Mv.enc y){K:Store→Prop}
   (hK:∀s',CoOwn σ0 s' d0 d1 d2 d3 d4 d5 { k with Xs:=k.Xs.set j y }→(∀i,a_0 d3≠some i→s' i=σ i)→K s') :a_j ys σ d3 n off K:=by
 refine h.xs.at_.store h.xs.nsl (a_c hj) hn ho fun s' i hi hat hs hne=>hK s' ?_ fun i' hi'=>hs i' fun e=>hi' (by rw[e];exact hi)
 have hf:=m_s h.xs hi
 have ap:∀{m:Nat} {d:D},[d0,d1,d2,d3,d4,d5][m]? =some d→m≠3→a_0 d≠some i:=fun hm hne0=>pw h.apart (i:=3) rfl hm (Ne.symm hne0) i hi
 refine ⟨a_g h.own hf (ap (m:=0) rfl (by omega)) hs,a_g h.routes hf (ap (m:=1) rfl (by omega)) hs,a_g h.points hf (ap (m:=2) rfl (by omega)) hs,⟨?_,k_d h.xs.ext hf hs,h.xs.new,h.xs.nsl,h.xs.nz⟩,a_g h.lines hf (ap (m:=4) rfl (by omega)) hs,a_g h.resets hf (ap (m:=5) rfl (by omega)) hs,h.apart⟩
 rw[hp,map_set (Mv.enc) k.Xs j y] at hat;exact hat
theorem CoIn.putX {id t pre post}(h:CoIn σ0 σ id t pre post d0 d1 d2 d3 d4 d5 k){j n off:Nat}{x y:Mv}{ys:List D}(hj:k.Xs[j]? =some x)(hn:n=j)(ho:off+ys.length≤2)(hp:patch (Mv.enc x) off ys=Mv.enc y){K:Store→Prop}
   (hK:∀s',CoIn σ0 s' id t pre post d0 d1 d2 d3 d4 d5 { k with Xs:=k.Xs.set j y }→(∀i,a_0 d3≠some i→s' i=σ i)→K s') :a_j ys σ d3 n off K:=
 h.co.putX hj hn ho hp fun s' h' hs=>hK s' ⟨h.new,(hs id (h.ids _ (by simp))).trans h.row,h',h.ids⟩ hs
theorem CoOwn.putL (h:CoOwn σ0 σ d0 d1 d2 d3 d4 d5 k){j n off:Nat}{x y:Ls}{ys:List D}(hj:k.Lines[j]? =some x)(hn:n=j)(ho:off+ys.length≤8)(hp:patch (Ls.enc x) off ys=Ls.enc y){K:Store→Prop}
   (hK:∀s',CoOwn σ0 s' d0 d1 d2 d3 d4 d5 { k with Lines:=k.Lines.set j y }→(∀i,a_0 d4≠some i→s' i=σ i)→K s') :a_j ys σ d4 n off K:=by
 refine h.lines.at_.store h.lines.nsl (a_c hj) hn ho fun s' i hi hat hs hne=>hK s' ?_ fun i' hi'=>hs i' fun e=>hi' (by rw[e];exact hi)
 have hf:=m_s h.lines hi
 have ap:∀{m:Nat} {d:D},[d0,d1,d2,d3,d4,d5][m]? =some d→m≠4→a_0 d≠some i:=fun hm hne0=>pw h.apart (i:=4) rfl hm (Ne.symm hne0) i hi
 refine ⟨a_g h.own hf (ap (m:=0) rfl (by omega)) hs,a_g h.routes hf (ap (m:=1) rfl (by omega)) hs,a_g h.points hf (ap (m:=2) rfl (by omega)) hs,a_g h.xs hf (ap (m:=3) rfl (by omega)) hs,⟨?_,k_d h.lines.ext hf hs,h.lines.new,h.lines.nsl,h.lines.nz⟩,a_g h.resets hf (ap (m:=5) rfl (by omega)) hs,h.apart⟩
 rw[hp,map_set (Ls.enc) k.Lines j y] at hat;exact hat
theorem CoIn.putL {id t pre post}(h:CoIn σ0 σ id t pre post d0 d1 d2 d3 d4 d5 k){j n off:Nat}{x y:Ls}{ys:List D}(hj:k.Lines[j]? =some x)(hn:n=j)(ho:off+ys.length≤8)(hp:patch (Ls.enc x) off ys=Ls.enc y){K:Store→Prop}
   (hK:∀s',CoIn σ0 s' id t pre post d0 d1 d2 d3 d4 d5 { k with Lines:=k.Lines.set j y }→(∀i,a_0 d4≠some i→s' i=σ i)→K s') :a_j ys σ d4 n off K:=
 h.co.putL hj hn ho hp fun s' h' hs=>hK s' ⟨h.new,(hs id (h.ids _ (by simp))).trans h.row,h',h.ids⟩ hs
theorem CoOwn.putZ (h:CoOwn σ0 σ d0 d1 d2 d3 d4 d5 k){j n off:Nat}{x y:Int}{ys:List D}(hj:k.Resets[j]? =some x)(hn:n=j)(ho:off+ys.length≤1)(hp:patch (Go.Fw.encI x) off ys=Go.Fw.encI y){K:Store→Prop}
   (hK:∀s',CoOwn σ0 s' d0 d1 d2 d3 d4 d5 { k with Resets:=k.Resets.set j y }→(∀i,a_0 d5≠some i→s' i=σ i)→K s') :a_j ys σ d5 n off K:=by
 refine h.resets.at_.store h.resets.nsl (a_c hj) hn ho fun s' i hi hat hs hne=>hK s' ?_ fun i' hi'=>hs i' fun e=>hi' (by rw[e];exact hi)
 have hf:=m_s h.resets hi
 have ap:∀{m:Nat} {d:D},[d0,d1,d2,d3,d4,d5][m]? =some d→m≠5→a_0 d≠some i:=fun hm hne0=>pw h.apart (i:=5) rfl hm (Ne.symm hne0) i hi
 refine ⟨a_g h.own hf (ap (m:=0) rfl (by omega)) hs,a_g h.routes hf (ap (m:=1) rfl (by omega)) hs,a_g h.points hf (ap (m:=2) rfl (by omega)) hs,a_g h.xs hf (ap (m:=3) rfl (by omega)) hs,a_g h.lines hf (ap (m:=4) rfl (by omega)) hs,⟨?_,k_d h.resets.ext hf hs,h.resets.new,h.resets.nsl,h.resets.nz⟩,h.apart⟩
 rw[hp,map_set (Go.Fw.encI) k.Resets j y] at hat;exact hat
theorem CoIn.putZ {id t pre post}(h:CoIn σ0 σ id t pre post d0 d1 d2 d3 d4 d5 k){j n off:Nat}{x y:Int}{ys:List D}(hj:k.Resets[j]? =some x)(hn:n=j)(ho:off+ys.length≤1)(hp:patch (Go.Fw.encI x) off ys=Go.Fw.encI y){K:Store→Prop}
   (hK:∀s',CoIn σ0 s' id t pre post d0 d1 d2 d3 d4 d5 { k with Resets:=k.Resets.set j y }→(∀i,a_0 d5≠some i→s' i=σ i)→K s') :a_j ys σ d5 n off K:=
 h.co.putZ hj hn ho hp fun s' h' hs=>hK s' ⟨h.new,(hs id (h.ids _ (by simp))).trans h.row,h',h.ids⟩ hs
end
end Go.Proofs.YtdmfnhbmhkgemaaGreat
namespace Go.Fw
section
section
variable {occ:List Lk} {now:Int} {was may:Bool} {x:Ls} {o:Int} {s:Nat} {lk:Lk}
end
structure SameBut (k k':Co) (l s:Nat) :Prop where
 routes:k'.Routes=k.Routes
 lines:∀m,m≠l→k'.Lines[m]? =k.Lines[m]?
 own:∀t,t≠s→k'.Own[t]? =k.Own[t]?
theorem a_r1 {α:Type}(p:α→Bool) :∀(l:List α) (j:Nat),e_q p l j≠-1→∃(i:Nat) (x:α),e_q p l j=((j+i:Nat) :Int)∧l[i]? =some x∧p x=true
 | [],j,h=>absurd rfl h
 | x::r,j,h=>by
   rw[e_q] at h ⊢
   by_cases hp:p x=true
   · rw[if_pos hp];exact ⟨0,x,rfl,rfl,hp⟩
   · rw[if_neg hp] at h ⊢
     obtain ⟨i,y,h0,h1,h2⟩:=a_r1 p r (j+1) h
     exact ⟨i+1,y,by rw[h0];omega,by simpa using h1,h2⟩
theorem g_5 {c:Cf}{line:Int}{s:Nat}(h:c.lineSec line=s) :∃x,c.Secs[s]? =some x∧x.Line=line:=by
 unfold Cf.lineSec at h
 split at h
 · omega
 · obtain ⟨i,x,h0,h1,h2⟩:=a_r1 (fun s:Sec=>s.Line == line) c.Secs 0 (by omega)
   have:s=i:=by omega
   subst this
   exact ⟨x,h1,by simpa using h2⟩
theorem a_nb {c:Cf}{l m:Int}{s:Nat}(h1:c.lineSec l=s)(h2:c.lineSec m=s) :l=m:=by
 obtain ⟨x,hx,e1⟩:=g_5 h1
 obtain ⟨y,hy,e2⟩:=g_5 h2
 rw[hx] at hy;cases hy;rw[←e1,e2]
end
section
def u_l (c:Cf)(l:List Int) :List Rs→Nat→Bool
 | [],_=>false
 | r::rs,j=>(decide (r.State≠0) && inL l (c.Approach j)) || u_l c l rs (j+1)
end
end Go.Fw
namespace Go.Proofs.YtdmfnhbmhkgemaaGreat
open Go.Fw Go.Proofs Go.RowKit
section
variable {σ:Store}
theorem b_3 (n:Int) :Pure Tryz.prog b_r [iA n] σ (.a (bA (tm 0 n))):=
 a_mt n σ _ (bcd (fun h=>⟨by rw[tm];congr 3;exact decide_eq_decide.2 (by omega),rfl⟩) (fun h=>⟨by rw[tm,decide_eq_false (by omega)],rfl⟩))
theorem u_3 {c0 c1 c2 c3 c4:D}{c:Cf}(h:∀s,CfAt s c0 c1 c2 c3 c4 c){k0 k1 k2 k3 k4 k5:D}{k:Co}(hk:CoAt σ k0 k1 k2 k3 k4 k5 k)(b:Bool) :
   Pure Tryz.prog j_y [cfA c0 c1 c2 c3 c4 c,coA k0 k1 k2 k3 k4 k5 b] σ (.a (bA (k.fits c))):=by
 have l0:=hk.own.size
 have l1:=hk.routes.size
 have l2:=hk.points.size
 have l3:=hk.xs.size
 have l4:=hk.lines.size
 have l5:=hk.resets.size
 simp only[List.length_map] at l0 l1 l2 l3 l4 l5
 refine .of (a_le _ _ _ _ _ _ _ _ _ k0 k1 k2 k3 k4 k5 b σ _ ((h σ).secs.lenK ?_)) (k_o _)
 intro R hR
 refine (q_q h).use ⟨_,rfl,?_⟩
 obtain ⟨rows,hat,hlen,hrow⟩:=g_h fun s=>(h s).rts
 have hl:=(hat σ).size
 have bad:k.lens c=false→∀s,Ext σ s→(RV.a (.one (.bool false)) = .a (bA (k.fits c))∧Ext σ s):=fun hb s he=>⟨by simp[Co.fits,hb],he⟩
 have nl:¬(k.Own.length=c.Secs.length∧k.Points.length=c.Secs.length∧k.Resets.length=c.Secs.length∧k.Routes.length=c.Rts.length∧k.Xs.length=c.Xs.length∧k.Lines.length=4)→k.lens c=false:=fun hn=>by
   rw[Co.lens,decide_eq_false hn]
 refine bcn (fun hc=>⟨by simp[Co.fits,hc], .refl _⟩) (fun hc=>?_)
 simp only[List.length_map]
 refine hk.own.lenK (bcn (fun e=>bad (nl fun g=>by simp only[List.length_map] at e;omega) _ (.refl _)) (fun e0=>?_))
 refine hk.points.lenK (bcn (fun e=>bad (nl fun g=>by simp only[List.length_map] at e;omega) _ (.refl _)) (fun e1=>?_))
 refine hk.resets.lenK (bcn (fun e=>bad (nl fun g=>by simp only[List.length_map] at e;omega) _ (.refl _)) (fun e2=>?_))
 refine hk.routes.lenK ((hat σ).lenK (bcn (fun e=>bad (nl fun g=>by simp only[List.length_map] at e;omega) _ (.refl _)) (fun e3=>?_)))
 refine hk.xs.lenK ((h σ).xs.lenK (bcn (fun e=>bad (nl fun g=>by simp only[List.length_map] at e;omega) _ (.refl _)) (fun e4=>?_)))
 refine hk.lines.lenK (bcn (fun e=>bad (nl fun g=>by simp only[List.length_map] at e;omega) _ (.refl _)) (fun e5=>hR σ ?_))
 simp only[List.length_map] at e0 e1 e2 e3 e4 e5
 have hL:k.lens c=true:=decide_eq_true ⟨by omega,by omega,by omega,by omega,by omega,by omega⟩
 have hfit:k.fits c=k.parts c:=by simp[Co.fits,hc,hL]
 rw[hfit]
 obtain ⟨_,s1,s2,s3,_,_⟩:=a_y hc
 clear bad nl hfit hL hR
 unfold Co.parts
 refine hk.own.lenK ⟨fun n s=>s=σ∧Rng k.Own (fun r=>(r.all fun o=>decide (-2≤o∧o≤(c.Rts.length:Int))) =k.Own.all fun o=>decide (-2≤o∧o≤(c.Rts.length:Int))) n,fun n _=>k.Own.length - n.toNat,⟨rfl, .start rfl⟩,?_⟩
 rintro n τ ⟨rfl,hr⟩
 refine bcd (fun hlt=>?_) (fun hge=>?_)
 · obtain ⟨j,x,rfl,hx,hj,hF,nx⟩:=hr.step (by simp) l0 hlt
   rw[List.all_cons] at hF
   have no:¬(-2≤x∧x≤(c.Rts.length:Int))→(RV.a (.one (.bool false)) = .a (bA ((k.Own.all fun o=>decide (-2≤o∧o≤(c.Rts.length:Int))) && ((k.Routes.zip c.Rts).all Rs.fits && ((k.Points ++ k.Xs).all Mv.fits && (k.Lines.all Ls.fits && k.Resets.all (tm 1))))))∧Ext τ τ):=fun hn=>by
     rw[decide_eq_false hn] at hF
     exact ⟨by rw[←hF];rfl, .refl _⟩
   refine hk.own.load (a_c hx) c_int rfl ⟨x,rfl,bcd (fun e=>no (by omega)) (fun g1=>(hat τ).lenK (bcd (fun e=>no (by omega)) (fun g2=>?_)))⟩
   rw[decide_eq_true ⟨by omega,by omega⟩,Bool.true_and] at hF
   exact c_0 rfl (nx _ hF)
 have hF0:=hr.done (by simp) hge
 rw[←hF0]
 show (∃len2:Nat,_)
 simp only[List.all_nil,Bool.true_and]
 clear hF0 hr hge
 have lz:(k.Routes.zip c.Rts).length=k.Routes.length:=by rw[List.length_zip];omega
 refine hk.routes.lenK ⟨fun n s=>s=τ∧Rng (k.Routes.zip c.Rts) (fun r=>r.all Rs.fits=(k.Routes.zip c.Rts).all Rs.fits) n,fun n _=>(k.Routes.zip c.Rts).length - n.toNat,⟨rfl, .start rfl⟩,?_⟩
 rintro n s ⟨rfl,hr⟩
 refine bcd (fun hlt=>?_) (fun hge=>?_)
 · obtain ⟨j,x,rfl,hx,hj,hF,nx⟩:=hr.step (by rw[List.length_map,lz]) (by omega) hlt
   obtain ⟨g1,g2⟩:=List.getElem?_zip_eq_some.1 hx
   rw[List.all_cons] at hF
   have bad:Rs.fits x=false→(RV.a (.one (.bool false)) = .a (bA ((k.Routes.zip c.Rts).all Rs.fits && ((k.Points ++ k.Xs).all Mv.fits && (k.Lines.all Ls.fits && k.Resets.all (tm 1)))))∧Ext s s):=fun hb=>by
     rw[hb,Bool.false_and] at hF
     exact ⟨by rw[←hF];rfl, .refl _⟩
   have hfx:Rs.fits x=(decide (0≤x.1.State∧x.1.State≤5) && decide (0≤x.1.Next∧x.1.Next≤x.2.Path.length) && (tm 0 x.1.Since && tm 0 x.1.Mark)):=rfl
   refine hk.routes.load (a_c g1) a_x rfl ⟨x.1.State,x.1.Since,x.1.Next,x.1.Mark,rfl,bcd (fun e=>bad (by rw[hfx,decide_eq_false (p:=0≤x.1.State∧_) (by omega)];rfl)) (fun t1=>bcd (fun e=>bad (by rw[hfx,decide_eq_false (p:=0≤x.1.State∧_) (by omega)];rfl)) (fun t2=>bcd (fun e=>bad (by rw[hfx,decide_eq_false (p:=0≤x.1.Next∧_) (by omega)];simp)) (fun t3=>?_)))⟩
   obtain ⟨row,hrw⟩:=a_i (l:=rows) (j:=j) (by rw[lz] at hj;omega)
   obtain ⟨d1,d2,d3,rfl,q1,q2,q3⟩:=hrow j row x.2 hrw g2
   refine (hat s).load hrw c_l rfl ⟨d1,rfl,(q1 s).lenK ?_⟩
   rw[List.length_map]
   refine bcd (fun e=>bad (by rw[hfx,decide_eq_false (p:=0≤x.1.Next∧_) (by omega)];simp)) (fun t4=>(b_3 _).use ⟨_,rfl,a_q (fun e=>bad (by rw[hfx,e];simp)) (fun t5=>(b_3 _).use ⟨_,rfl,a_q (fun e=>bad (by rw[hfx,e];simp)) (fun t6=>?_)⟩)⟩)
   rw[hfx,decide_eq_true ⟨by omega,by omega⟩,decide_eq_true ⟨by omega,by omega⟩,t5,t6] at hF
   exact c_0 rfl (nx (fun r=>r.all Rs.fits=(k.Routes.zip c.Rts).all Rs.fits) hF)
 have hF0:=hr.done (by rw[List.length_map,lz]) hge
 rw[←hF0]
 simp only[List.all_nil,Bool.true_and]
 clear hF0 hr hge
 refine a_ln hk.points (by rw[List.length_map];omega) fun d sa oa=>(oa.append (hk.xs.ext oa.ext) (by simp only[List.length_map];omega) (by simp only[List.length_map];omega) fun d1 s3 ho _ _=>?_)
 rw[←List.map_append] at ho
 have he3:=ho.ext
 have lm:(k.Points ++ k.Xs).length < 2 ^ 60:=by rw[List.length_append];omega
 refine ho.at_.lenK ⟨fun n s'=>s'=s3∧Rng (k.Points ++ k.Xs) (fun r=>r.all Mv.fits=(k.Points ++ k.Xs).all Mv.fits) n,fun n _=>(k.Points ++ k.Xs).length - n.toNat,⟨rfl, .start rfl⟩,?_⟩
 rintro n s4 ⟨rfl,hr⟩
 refine bcd (fun hlt=>?_) (fun hge=>?_)
 · obtain ⟨j,x,rfl,hx,hj,hF,nx⟩:=hr.step (by simp) lm hlt
   rw[List.all_cons] at hF
   have no:x.fits=false→(RV.a (.one (.bool false)) = .a (bA ((k.Points ++ k.Xs).all Mv.fits && (k.Lines.all Ls.fits && k.Resets.all (tm 1))))∧Ext s s4):=fun hn=>by
     rw[hn] at hF
     exact ⟨by rw[←hF];rfl,he3⟩
   have go:x.fits=true→_:=fun hn=>by
     rw[hn,Bool.true_and] at hF
     exact c_0 (rfl:s4=s4) (nx (fun r=>r.all Mv.fits=(k.Points ++ k.Xs).all Mv.fits) hF)
   have hfx:x.fits=(decide (0≤x.Cmd∧x.Cmd≤2) && decide (-1≤x.Other∧x.Other≤4294967295)):=rfl
   refine ho.at_.load (a_c hx) c_r rfl ⟨x.Cmd,x.Other,rfl,bcd (fun e=>no (by rw[hfx,decide_eq_false (by omega)];rfl)) (fun t1=>bcd (fun e=>no (by rw[hfx,decide_eq_false (by omega)];rfl)) (fun t2=>?_))⟩
   refine bcn (fun t3=>(b_3 _).use ⟨_,rfl,a_q (fun e=>no ?_) (fun e=>go ?_)⟩) (fun t3=>go (by rw[hfx,decide_eq_true ⟨by omega,by omega⟩,decide_eq_true ⟨by omega,by omega⟩];rfl))
   · have:=of_decide_eq_false e
     rw[hfx,decide_eq_false (p:= -1≤x.Other∧_) (by omega),Bool.and_false]
   · have:=of_decide_eq_true e
     rw[hfx,decide_eq_true ⟨by omega,by omega⟩,decide_eq_true ⟨by omega,by omega⟩];rfl
 have hF0:=hr.done (by simp) hge
 rw[←hF0]
 simp only[List.all_nil,Bool.true_and]
 clear hF0 hr hge
 refine (hk.resets.ext he3).lenK ⟨fun n s'=>s'=s4∧Rng k.Resets (fun r=>r.all (tm 1) =k.Resets.all (tm 1)) n,fun n _=>k.Resets.length - n.toNat,⟨rfl, .start rfl⟩,?_⟩
 rintro n s5 ⟨rfl,hr⟩
 refine bcd (fun hlt=>?_) (fun hge=>?_)
 · obtain ⟨j,x,rfl,hx,hj,hF,nx⟩:=hr.step (by simp) l5 hlt
   rw[List.all_cons] at hF
   have no:¬(0≤x∧x≤4294967295+1)→(RV.a (.one (.bool false)) = .a (bA (k.Lines.all Ls.fits && k.Resets.all (tm 1)))∧Ext s s5):=fun hn=>by
     rw[tm,decide_eq_false hn] at hF
     exact ⟨by rw[←hF,Bool.false_and,Bool.and_false],he3⟩
   refine (hk.resets.ext he3).load (a_c hx) c_int rfl ⟨x,rfl,bcd (fun e=>no (by omega)) (fun g1=>bcd (fun e=>no (by omega)) (fun g2=>?_))⟩
   rw[tm,decide_eq_true ⟨by omega,by omega⟩,Bool.true_and] at hF
   exact c_0 rfl (nx _ hF)
 have hF0:=hr.done (by simp) hge
 rw[←hF0]
 simp only[List.all_nil,Bool.and_true]
 clear hF0 hr hge
 refine (hk.lines.ext he3).lenK ⟨fun n s'=>s'=s5∧Rng k.Lines (fun r=>r.all Ls.fits=k.Lines.all Ls.fits) n,fun n _=>k.Lines.length - n.toNat,⟨rfl, .start rfl⟩,?_⟩
 rintro n s6 ⟨rfl,hr⟩
 refine bcd (fun hlt=>?_) (fun hge=>?_)
 · obtain ⟨j,x,rfl,hx,hj,hF,nx⟩:=hr.step (by simp) l4 hlt
   rw[List.all_cons] at hF
   have no:x.fits=false→(RV.a (.one (.bool false)) = .a (bA (k.Lines.all Ls.fits))∧Ext s s6):=fun hn=>by
     rw[hn] at hF
     exact ⟨by rw[←hF];rfl,he3⟩
   have hfx:x.fits=((tm 0 x.Ask && (tm 0 x.Done && (tm 0 x.Grant && (tm 0 x.Told && (tm 0 x.PAsk && (tm 0 x.PDone && tm 0 x.PGrant)))))) && tm 1 x.Since):=rfl
   refine (hk.lines.ext he3).load (a_c hx) c_a rfl ⟨x.Ask,x.Done,x.Grant,x.Told,x.PAsk,x.PDone,x.PGrant,x.Since,rfl,?_⟩
   refine (b_3 _).use ⟨_,rfl,a_q (fun e=>no (by rw[hfx,e];rfl)) (fun t1=>?_)⟩
   refine (b_3 _).use ⟨_,rfl,a_q (fun e=>no (by rw[hfx,t1,e];rfl)) (fun t2=>?_)⟩
   refine (b_3 _).use ⟨_,rfl,a_q (fun e=>no (by rw[hfx,t1,t2,e];rfl)) (fun t3=>?_)⟩
   refine (b_3 _).use ⟨_,rfl,a_q (fun e=>no (by rw[hfx,t1,t2,t3,e];rfl)) (fun t4=>?_)⟩
   refine (b_3 _).use ⟨_,rfl,a_q (fun e=>no (by rw[hfx,t1,t2,t3,t4,e];rfl)) (fun t5=>?_)⟩
   refine (b_3 _).use ⟨_,rfl,a_q (fun e=>no (by rw[hfx,t1,t2,t3,t4,t5,e];rfl)) (fun t6=>?_)⟩
   refine (b_3 _).use ⟨_,rfl,a_q (fun e=>no (by rw[hfx,t1,t2,t3,t4,t5,t6,e];rfl)) (fun t7=>?_)⟩
   refine bcd (fun e=>no (by rw[hfx,tm,tm,tm,tm,tm,tm,tm,tm,decide_eq_false (p:=0≤x.Since∧_) (by omega),Bool.and_false])) (fun t8=>bcd (fun e=>no (by rw[hfx,tm,tm,tm,tm,tm,tm,tm,tm,decide_eq_false (p:=0≤x.Since∧_) (by omega),Bool.and_false])) (fun t9=>?_))
   have hs:tm 1 x.Since=true:=decide_eq_true ⟨by omega,by omega⟩
   rw[hfx,t1,t2,t3,t4,t5,t6,t7,hs] at hF
   exact c_0 rfl (nx (fun r=>r.all Ls.fits=k.Lines.all Ls.fits) hF)
 have hF0:=hr.done (by simp) hge
 rw[←hF0]
 exact ⟨rfl,he3⟩
end
end Go.Proofs.YtdmfnhbmhkgemaaGreat
section
namespace Go.Fw
structure StOk (c:Cf) (r:Rt) (s:St) :Prop where
 sec:∃y,a_k c.Secs s.Sec=some y∧(i_t (f_l y.Kind) s.In s.Out).isSome=true∧(r.Shunt=true→y.Line=0)
theorem a_bp {c:Cf}(ht:b_m c.Secs c.Jts=true)(r:Rt)(ex:Option Sg) :∀(l:List St) (a:Sg) (seen:List Int),p_k c r ex l a seen=true→
   (∀s ∈ l,StOk c r s∧s.Sec ∉ seen)∧(l.map St.Sec).Nodup
 | [],a,seen,_=>⟨fun s hs=>by simp at hs,by simp⟩
 | s::rest,a,seen,h=>by
   rw[p_k,Bool.and_eq_true] at h
   obtain ⟨h1,h2⟩:=h
   obtain ⟨q1,q2⟩:=a_bp ht r ex rest _ _ h2
   unfold x_m at h1
   cases hn:nxt c.Jts a.Sec a.End_ with
   | none=>rw[hn] at h1;cases h1
   | some p=>
     obtain ⟨q,i⟩:=p
     rw[hn] at h1
     obtain ⟨y,hy⟩:=a_se ht hn
     simp only[hy,Option.getD_some,Bool.and_eq_true,decide_eq_true_eq,Bool.not_eq_true'] at h1
     obtain ⟨⟨⟨⟨⟨rfl,e2⟩,e3⟩,e4⟩,e5⟩,e6⟩:=h1
     refine ⟨fun x hx=>?_,?_⟩
     · rcases List.mem_cons.1 hx with rfl | hx
       · refine ⟨⟨y,hy,e3,fun hs=>?_⟩,e4⟩
         rw[hs,Bool.true_and,decide_eq_false_iff_not] at e6
         exact Decidable.not_not.1 e6
       · obtain ⟨w1,w2⟩:=q1 x hx
         exact ⟨w1,fun hm=>w2 (List.mem_cons_of_mem _ hm)⟩
     · rw[List.map_cons,List.nodup_cons]
       refine ⟨fun hm=>?_,q2⟩
       obtain ⟨x,hx,e⟩:=List.mem_map.1 hm
       exact (q1 x hx).2 (by rw[e];simp)
structure RtOk (c:Cf) (r:Rt) :Prop where
 entry:∃a,a_k c.Sigs r.Entry=some a
 exit_:r.Exit= -1∨∃x,a_k c.Sigs r.Exit=some x
 len:1≤r.Path.length∧r.Path.length≤8
 step:∀s ∈ r.Path,StOk c r s∧s.Sec≠c.approach r
 dup:(r.Path.map St.Sec).Nodup
 flank:r.Flank=c.flank (c.approach r) r.Path
 over:r.Overlap=c.overlap r
theorem a_bq {c:Cf} :∀{l:List Rt},c.routes l=0→∀r ∈ l,c.route r=0
 | [],_,r,hr=>by simp at hr
 | x::l,h,r,hr=>by
   rw[Cf.routes] at h
   split at h
   · rename_i hne;exact absurd h hne
   · rename_i he
     rcases List.mem_cons.1 hr with rfl | hr
     · simpa using he
     · exact a_bq h r hr
theorem h_e {c:Cf}(h:c.check=0) :b_m c.Secs c.Jts=true∧c.sigsOk=true∧c.xsOk=true∧c.Rts.length≤12∧c.routes c.Rts=0∧c.timing=true:=by
 unfold Cf.check at h
 split at h
 · cases h
 split at h
 · cases h
 split at h
 · cases h
 split at h
 · cases h
 split at h
 · rename_i hne;exact absurd h hne
 split at h
 · rename_i h1 h2 h3 h4 h5 h6
   exact ⟨by simpa using h1,by simpa using h2,by simpa using h3,by omega,by simpa using h5,h6⟩
 · cases h
theorem a_w9 {c:Cf}(ht:b_m c.Secs c.Jts=true){r:Rt}(h:c.route r=0) :RtOk c r:=by
 unfold Cf.route at h
 split at h
 · cases h
 split at h
 · cases h
 split at h
 · cases h
 rename_i h1 h2 h3
 have h1:c.path r=true:=by simpa using h1
 unfold Cf.path at h1
 cases hg:a_k c.Sigs r.Entry with
 | none=>rw[hg] at h1;cases h1
 | some a=>
   rw[hg] at h1
   simp only[Bool.and_eq_true,Bool.or_eq_true,decide_eq_true_eq] at h1
   obtain ⟨⟨e1,e2⟩,e3⟩:=h1
   obtain ⟨q1,q2⟩:=a_bp ht r _ _ _ _ e3
   have ha:c.approach r=a.Sec:=by rw[Cf.approach,hg];rfl
   refine ⟨⟨a,hg⟩,e1.imp id Option.isSome_iff_exists.1,e2,fun s hs=>⟨(q1 s hs).1,fun e=>(q1 s hs).2 (by rw[e,ha];simp)⟩,q2,Decidable.not_not.1 h2,Decidable.not_not.1 h3⟩
theorem b_k {c:Cf}(h:c.check=0){r:Rt}(hr:r ∈ c.Rts) :RtOk c r:=by
 obtain ⟨h1,_,_,_,h5,_⟩:=h_e h
 exact a_w9 h1 (a_bq h5 r hr)
structure NdOk (c:Cf) (a:Int) (path:List St) (n:Nd) :Prop where
 sec:∃y,a_k c.Secs n.Sec=some y∧y.Kind=1
 pos:1≤n.Pos∧n.Pos≤2
 app:n.Sec≠a
 path:d_n path n.Sec=false
def FlOk (c:Cf)(a:Int)(path:List St)(out:List Nd) :Prop:=(∀n ∈ out,NdOk c a path n)∧(out.map Nd.Sec).Nodup
theorem a_kl {c:Cf}{a:Int}{p:List St}{s:St}{out:List Nd}{e:Int}(h:FlOk c a p out) :FlOk c a p (b_q c a p s out e):=by
 unfold b_q
 split
 · exact h
 · split
   · exact h
   · split
     · exact h
     · rename_i y hy
       split
       · rename_i hc
         obtain ⟨c1,c2,c3,c4,c5⟩:=hc
         refine ⟨fun n hn=>?_,?_⟩
         · rcases List.mem_append.1 hn with hn | hn
           · exact h.1 n hn
           · rw[List.mem_singleton] at hn;subst hn
             exact ⟨⟨y,hy,c1⟩,by simp only;omega,c3,c4⟩
         · rw[List.map_append,List.nodup_append]
           refine ⟨h.2,by simp,fun x hx z hz=>?_⟩
           simp only[List.map_cons,List.map_nil,List.mem_singleton] at hz
           subst hz
           intro e
           obtain ⟨n,hn,e2⟩:=List.mem_map.1 hx
           rw[List.any_eq_false] at c5
           exact c5 n hn (by rw[e2,e];simp)
       · exact h
theorem x_q {c:Cf}{a:Int}{p:List St}{s:St} :∀(n:Nat) (e:Int) (out:List Nd),FlOk c a p out→FlOk c a p (b_i c a p s n e out)
 | 0,_,_,h=>h
 | n+1,e,out,h=>by rw[b_i];exact x_q n _ _ (a_kl h)
theorem a_b5 {c:Cf}{a:Int}{p:List St} :∀(l:List St) (out:List Nd),FlOk c a p out→FlOk c a p (c_n c a p l out)
 | [],_,h=>h
 | s::r,out,h=>by
   rw[c_n]
   refine a_b5 r _ ?_
   split
   · exact h
   · exact x_q _ _ _ h
theorem a_v7 (c:Cf)(a:Int)(p:List St) :FlOk c a p (c.flank a p):=a_b5 p [] ⟨fun n h=>by simp at h,by simp⟩
theorem a_s0 (c:Cf)(a:Int)(p:List St) :(c.flank a p).length≤4 * p.length:=by
 have:=(o_p c a p p []).2
 simpa[Cf.flank] using this
theorem a_wg {c:Cf}{r:Rt}{q:Int}(h:q ∈ c.overlap r) :(∃y,a_k c.Secs q=some y∧y.Line=0)∧d_n r.Path q=false∧q≠c.approach r:=by
 unfold Cf.overlap at h
 split at h
 · simp at h
 split at h
 · simp at h
 split at h
 · simp at h
 split at h
 · simp at h
 rename_i y hy
 split at h
 · rename_i hc
   rw[List.mem_singleton] at h;subst h
   exact ⟨⟨y,hy,hc.1⟩,hc.2.1,hc.2.2⟩
 · simp at h
theorem a_u5 (c:Cf)(r:Rt) :(c.overlap r).length≤1:=by
 unfold Cf.overlap
 split
 · simp
 split
 · simp
 split
 · simp
 split
 · simp
 split <;> simp
theorem RtOk.fl {c:Cf}{r:Rt}(h:RtOk c r) :FlOk c (c.approach r) r.Path r.Flank:=by rw[h.flank];exact a_v7 _ _ _
theorem RtOk.flen {c:Cf}{r:Rt}(h:RtOk c r) :r.Flank.length≤32:=by
 rw[h.flank];have:=a_s0 c (c.approach r) r.Path;have:=h.len;omega
theorem RtOk.olen {c:Cf}{r:Rt}(h:RtOk c r) :r.Overlap.length≤1:=by rw[h.over];exact a_u5 _ _
theorem RtOk.ov {c:Cf}{r:Rt}(h:RtOk c r){q:Int}(hq:q ∈ r.Overlap) :(∃y,a_k c.Secs q=some y∧y.Line=0)∧d_n r.Path q=false∧q≠c.approach r:=by rw[h.over] at hq;exact a_wg hq
theorem x_7 {c:Cf}(h:c.check=0) :(∀x ∈ c.Xs,∃s,a_k c.Secs x=some s∧s.Line=0)∧c.Xs.Nodup∧c.Xs.length≤4:=by
 obtain ⟨_,_,h3,_⟩:=h_e h
 rw[Cf.xsOk,Bool.and_eq_true,z_h] at h3
 exact ⟨h3.1.1,h3.1.2.1,of_decide_eq_true h3.2⟩
theorem e_p {α:Type}{l:List α}{j:Nat} :a_k l (j:Int) =l[j]? :=by unfold a_k;rw[if_neg (by omega),Int.toNat_natCast]
theorem k_x {c:Cf}{k:Co}(h:k.fits c=true) :c.check=0:=by
 rw[Co.fits,Bool.and_eq_true] at h;exact of_decide_eq_true h.1
end Go.Fw
namespace Go.Fw
end Go.Fw
end
namespace Go.Fw
section
def zRt:Rt:=⟨0,0,[],[],[],false⟩
def Cf.rt (c:Cf)(i:Int) :Rt:=(a_k c.Rts i).getD zRt
def e_m (c:Cf)(s:St) :Option Nd:=
 match a_k c.Secs s.Sec with
 | none=>none
 | some y=>match i_t (f_l y.Kind) s.In s.Out with
   | none=>none
   | some p=>if p=0 then none else some ⟨s.Sec,p⟩
def Cf.needs (c:Cf)(r:Rt) :List Nd:=r.Path.filterMap (e_m c) ++ r.Flank
def Cf.Needs (c:Cf)(i:Int) :List Nd:=c.needs (c.rt i)
def c_o (path:List St) :List Int→Nat→List Int
 | [],_=> []
 | x::r,j=>if d_n path x=true then (j:Int) ::c_o path r (j+1) else c_o path r (j+1)
def Cf.Cross (c:Cf)(i:Int) :List Int:=c_o (c.rt i).Path c.Xs 0
theorem b_h {c:Cf}{i:Int}{r:Rt}(h:a_k c.Rts i=some r) :c.rt i=r:=by unfold Cf.rt;rw[h];rfl
theorem a_lb {c:Cf}{i:Int}(h:a_k c.Rts i=none) :c.rt i=zRt:=by unfold Cf.rt;rw[h];rfl
theorem l_g (path:List St) :∀(l:List Int) (j:Nat),(c_o path l j).length≤l.length
 | [],_=>by simp[c_o]
 | x::r,j=>by
   rw[c_o];have:=l_g path r (j+1)
   split <;> simp <;> omega
theorem g_y (path:List St) :∀(l:List Int) (j:Nat) (n:Int),n ∈ c_o path l j→∃(i:Nat) (x:Int),n=((j+i:Nat) :Int)∧l[i]? =some x∧d_n path x=true
 | [],j,n,h=>by simp[c_o] at h
 | x::r,j,n,h=>by
   have go:n ∈ c_o path r (j+1)→∃(i:Nat) (y:Int),n=((j+i:Nat) :Int)∧(x::r)[i]? =some y∧d_n path y=true:=fun h=>by
     obtain ⟨i,y,h1,h2,h3⟩:=g_y path r (j+1) n h
     exact ⟨i+1,y,by omega,by simpa using h2,h3⟩
   rw[c_o] at h
   split at h
   · rename_i hx
     rcases List.mem_cons.1 h with rfl | h
     · exact ⟨0,x,by simp,rfl,hx⟩
     · exact go h
   · exact go h
theorem s_t (c:Cf)(r:Rt) :(c.needs r).length≤r.Path.length+r.Flank.length:=by
 unfold Cf.needs
 rw[List.length_append]
 have:=List.length_filterMap_le (e_m c) r.Path
 omega
theorem n_h {c:Cf}{r:Rt}(h:RtOk c r){n:Nd}(hn:n ∈ c.needs r) :(∃y,a_k c.Secs n.Sec=some y)∧1≤n.Pos∧n.Pos≤2:=by
 unfold Cf.needs at hn
 rcases List.mem_append.1 hn with hn | hn
 · obtain ⟨s,hs,e⟩:=List.mem_filterMap.1 hn
   obtain ⟨⟨y,hy,_⟩⟩:=(h.step s hs).1
   unfold e_m at e
   rw[hy] at e
   simp only at e
   cases hp:i_t (f_l y.Kind) s.In s.Out with
   | none=>rw[hp] at e;cases e
   | some p=>
     rw[hp] at e
     simp only at e
     split at e
     · cases e
     · rename_i hp0
       injection e with e;subst e
       refine ⟨⟨y,hy⟩,?_⟩
       have key:∀(l:List (Int × Int × Int)),(∀w ∈ l,w.2.2=0∨w.2.2=1∨w.2.2=2)→∀p,i_t l s.In s.Out=some p→p=0∨p=1∨p=2:=by
         intro l
         induction l with
         | nil=>intro _ p h;cases h
         | cons w r ih=>
           intro hw p h
           rw[i_t] at h
           split at h
           · injection h with h;rw[←h];exact hw w (by simp)
           · exact ih (fun w hw'=>hw w (by simp[hw'])) p h
       have hw:∀w ∈ f_l y.Kind,w.2.2=0∨w.2.2=1∨w.2.2=2:=by
         unfold f_l
         split
         · simp
         split
         · simp
         split
         · simp
         · simp
       have:=key _ hw p hp
       simp only
       omega
 · have:=h.fl.1 n hn
   obtain ⟨y,hy,_⟩:=this.sec
   exact ⟨⟨y,hy⟩,this.pos⟩
end
end Go.Fw
namespace Go.Proofs.YtdmfnhbmhkgemaaGreat
open Go.Fw Go.Proofs Go.RowKit
section
variable {σ:Store}
section
variable {c0 c1 c2 c3 c4:D} {c:Cf} (h:∀s,CfAt s c0 c1 c2 c3 c4 c)
include h
theorem q_3 {i:Nat}{x:Rt}(hx:c.Rts[i]? =some x) :∃rows d1 d2 d3,(∀s,At Tryz.prog s l_v c4 rows)∧rows.length=c.Rts.length∧rows[i]? =some [iD x.Entry,iD x.Exit,d1,d2,d3, .bool x.Shunt]∧
   (∀s,At Tryz.prog s d_v d1 (x.Path.map St.enc))∧(∀s,At Tryz.prog s b_a d2 (x.Flank.map Nd.enc))∧(∀s,At Tryz.prog s a_h d3 (x.Overlap.map Go.Fw.encI)):=by
 obtain ⟨rows,hat,hlen,hrow⟩:=g_h fun s=>(h s).rts
 obtain ⟨row,hrw⟩:=a_i (l:=rows) (j:=i) (by have:=(List.getElem?_eq_some_iff.1 hx).1;omega)
 obtain ⟨d1,d2,d3,rfl,q1,q2,q3⟩:=hrow i row x hrw hx
 exact ⟨rows,d1,d2,d3,hat,hlen,hrw,q1,q2,q3⟩
theorem r_x (i:Int) :DCalls Tryz.prog i_x [cfA c0 c1 c2 c3 c4 c,iA i] σ fun r s=>s=σ∧∃d1 d2 d3,r= .tup [rtA d1 d2 d3 (c.rt i),bA (a_k c.Rts i).isSome]∧
   (∀s,At Tryz.prog s d_v d1 ((c.rt i).Path.map St.enc))∧(∀s,At Tryz.prog s b_a d2 ((c.rt i).Flank.map Nd.enc))∧(∀s,At Tryz.prog s a_h d3 ((c.rt i).Overlap.map Go.Fw.encI)):=by
 have no:a_k c.Rts i=none→(σ=σ∧∃d1 d2 d3,RV.tup [.agg [iD 0,iD 0, .nils, .nils, .nils, .bool false],bA false]= .tup [rtA d1 d2 d3 (c.rt i),bA (a_k c.Rts i).isSome]∧
   (∀s,At Tryz.prog s d_v d1 ((c.rt i).Path.map St.enc))∧(∀s,At Tryz.prog s b_a d2 ((c.rt i).Flank.map Nd.enc))∧(∀s,At Tryz.prog s a_h d3 ((c.rt i).Overlap.map Go.Fw.encI))):=fun e=>by
   rw[a_lb e,e]
   exact ⟨rfl,_,_,_,rfl,fun _=> .nil,fun _=> .nil,fun _=> .nil⟩
 obtain ⟨rows,hat,hlen⟩:=j_s (h σ)
 refine a_hh _ _ _ _ _ _ _ _ _ i σ _ (bcd (fun e=>no (c_g e)) (fun e0=>hat.lenK (bcd (fun e=>no (d_u (by omega))) (fun e1=>?_))))
 obtain ⟨x,hx⟩:=c_s (l:=c.Rts) (i:=i) e0 (by omega)
 obtain ⟨rows,d1,d2,d3,hat,hlen,hrow,q1,q2,q3⟩:=q_3 h (a_l hx).2.2
 refine (hat σ).load hrow c_l (by omega) ⟨_,_,_,_,_,_,rfl,?_⟩
 rw[b_h hx,hx]
 exact ⟨rfl,_,_,_,rfl,q1,q2,q3⟩
theorem l_d (i:Int)(h1:(c.rt i).Path.length≤2 ^ 20)(h2:(c.rt i).Flank.length≤2 ^ 20) :
   DCalls Tryz.prog g_o [cfA c0 c1 c2 c3 c4 c,iA i] σ (d_b σ b_a ((c.Needs i).map Nd.enc)):=by
 refine (a_h2 _ _ _ _ _ _ _ _ _ i σ _ ?_).ret (Q:=fun r s=>∃r' σ',Ret Tryz.prog σ s r σ' r'∧d_b σ b_a ((c.Needs i).map Nd.enc) r' σ') (fun r s h=>h)
 refine (r_x h i).mono ?_
 rintro r s ⟨rfl,d1,d2,d3,rfl,q1,q2,q3⟩
 rw[Cf.Needs]
 generalize c.rt i=x at *
 refine ⟨_,_,_,_,_,_,_,rfl,(q1 s).lenK ⟨fun d n s'=>∃out:List Nd,Own Tryz.prog s s' b_a d (out.map Nd.enc)∧(out.length:Int)≤n∧Rng x.Path (fun r=>out ++ r.filterMap (e_m c) =x.Path.filterMap (e_m c)) n,
   fun _ n _=>x.Path.length - n.toNat,⟨[], .nil _ (.refl _),by simp, .start rfl⟩,?_⟩⟩
 rintro d n s' ⟨out,ho,hol,hr⟩
 rw[List.length_map]
 refine bcd (fun hlt=>?_) (fun hge=>?_)
 · obtain ⟨j,y,rfl,hy,hj,hF,nx⟩:=hr.step rfl (by omega) hlt
   rw[List.filterMap_cons] at hF
   have skip : e_m c y = none → ∀ s2, Ext s' s2 → (∃ out : List Nd, Own Tryz.prog s s2 b_a d (out.map Nd.enc) ∧ (out.length : Int) ≤ w64 ((j : Int) + 1) ∧ Rng x.Path (fun r => out ++ r.filterMap (e_m c) = x.Path.filterMap (e_m c)) (w64 ((j : Int) + 1))) ∧
       x.Path.length - (w64 ((j:Int) +1)).toNat < x.Path.length - (j:Int).toNat:=fun hn s2 he=>by
     rw[hn] at hF
     have:=nx (fun r=>out ++ r.filterMap (e_m c) =x.Path.filterMap (e_m c)) hF
     exact ⟨⟨out,ho.ext' he,by rw[a_o (by omega)];omega,this.1⟩,this.2⟩
   refine (q1 s').load (a_c hy) i_l rfl ⟨y.Sec,y.In,y.Out,rfl,bcd (fun e=>⟨rfl,skip (by unfold e_m;rw[c_g e]) _ (.refl _)⟩) (fun e0=>(h s').secs.lenK ?_)⟩
   rw[List.length_map]
   refine bcd (fun e=>⟨rfl,skip (by unfold e_m;rw[d_u e]) _ (.refl _)⟩) (fun e1=>?_)
   obtain ⟨z,hz⟩:=c_s e0 e1
   have hneed:e_m c y=match i_t (f_l z.Kind) y.In y.Out with | none=>none | some p=>if p=0 then none else some ⟨y.Sec,p⟩:=by unfold e_m;rw[hz] <;> rfl
   refine (h s').secs.load (a_c (a_l hz).2.2) b_z (by omega) ⟨z.Kind,rfl,(a_bn _ _ _).use (a_mx _ ?_)⟩
   cases hp:i_t (f_l z.Kind) y.In y.Out with
   | none=>rw[hp] at hneed;exact bc (fun e=>by cases e) (fun _=>⟨rfl,skip hneed _ (.refl _)⟩)
   | some p=>
     rw[hp] at hneed
     refine bc (fun _=>bcn (fun e=>?_) (fun e=>⟨rfl,skip (by rw[hneed];exact if_pos e) _ (.refl _)⟩)) (fun e=>by cases e)
     have hsome:e_m c y=some ⟨y.Sec,p⟩:=by rw[hneed];exact if_neg e
     rw[hsome] at hF
     refine a_e fun id s2 hid _ he hs2=>(ho.ext' he).append (At.fresh hs2 (by simp) rfl) (by simp;omega) (by simp;omega) fun d4 s5 ho5 _ _=>⟨rfl,?_⟩
     have:=nx (fun r=>(out ++ [⟨y.Sec,p⟩]) ++ r.filterMap (e_m c) =x.Path.filterMap (e_m c)) (by rw[List.append_assoc];exact hF)
     exact ⟨⟨out ++ [⟨y.Sec,p⟩],by rw[List.map_append];exact ho5,by rw[a_o (by omega),List.length_append,List.length_singleton];omega,this.1⟩,this.2⟩
 · have hF:=hr.done rfl hge
   have hn:n≤x.Path.length:=by obtain ⟨j,rfl,hj,_⟩:=hr;omega
   rw[List.filterMap_nil,List.append_nil] at hF
   subst hF
   refine ho.append (q2 s') (by simp only[List.length_map];omega) (by simp only[List.length_map];omega) fun d4 s5 ho5 _ _=>?_
   rw[←List.map_append] at ho5
   exact f_i ho5 (a_ra _)
theorem g_1 (i:Int)(h1:c.Xs.length≤2 ^ 20) :
   DCalls Tryz.prog d_0 [cfA c0 c1 c2 c3 c4 c,iA i] σ (d_b σ a_h ((c.Cross i).map Go.Fw.encI)):=by
 refine (w_7 _ _ _ _ _ _ _ _ _ i σ _ ?_).ret (Q:=fun r s=>∃r' σ',Ret Tryz.prog σ s r σ' r'∧d_b σ a_h ((c.Cross i).map Go.Fw.encI) r' σ') (fun r s h=>h)
 refine (r_x h i).mono ?_
 rintro r s ⟨rfl,d1,d2,d3,rfl,q1,q2,q3⟩
 rw[Cf.Cross]
 generalize c.rt i=x at *
 refine ⟨_,_,_,_,_,_,_,rfl,(h s).xs.lenK ⟨fun d n s'=>∃out:List Int,Own Tryz.prog s s' a_h d (out.map Go.Fw.encI)∧(out.length:Int)≤n∧Rng c.Xs (fun r=>out ++ c_o x.Path r n.toNat=c_o x.Path c.Xs 0) n,
   fun _ n _=>c.Xs.length - n.toNat,⟨[], .nil _ (.refl _),by simp, .start rfl⟩,?_⟩⟩
 rintro d n s' ⟨out,ho,hol,hr⟩
 rw[List.length_map]
 refine bcd (fun hlt=>?_) (fun hge=>?_)
 · obtain ⟨j,y,rfl,hy,hj,hF,nx⟩:=hr.step rfl (by omega) hlt
   have hw:w64 ((j:Int) +1) =((j+1:Nat) :Int):=a_o (by omega)
   have go : ∀ out2 d2 s2, out2 ++ c_o x.Path (c.Xs.drop (j + 1)) (j + 1) = c_o x.Path c.Xs 0 → Own Tryz.prog s s2 a_h d2 (out2.map Go.Fw.encI) → out2.length ≤ j + 1 → (∃ out : List Int, Own Tryz.prog s s2 a_h d2 (out.map Go.Fw.encI) ∧ (out.length : Int) ≤ w64 ((j : Int) + 1) ∧ Rng c.Xs (fun r => out ++ c_o x.Path r (w64 ((j : Int) + 1)).toNat = c_o x.Path c.Xs 0) (w64 ((j : Int) + 1))) ∧
       c.Xs.length - (w64 ((j:Int) +1)).toNat < c.Xs.length - (j:Int).toNat:=fun out2 d2 s2 he ho2 hl=>by
     have:=nx (fun r=>out2 ++ c_o x.Path r (w64 ((j:Int) +1)).toNat=c_o x.Path c.Xs 0) (by rw[hw,Int.toNat_natCast];exact he)
     exact ⟨⟨out2,ho2,by rw[hw];omega,this.1⟩,this.2⟩
   rw[Int.toNat_natCast,c_o] at hF
   refine (h s').xs.load (a_c hy) c_int rfl ⟨y,rfl,a_e fun id s2 hid _ he hs2=>n_c hs2 fun s3 hs3 hs3'=>?_⟩
   have he3:Ext s' s3:=fun i hi=>by
     rw[hs3' i (fun e=>hi (by rw[e];exact hid))];exact he i hi
   have ho3:=ho.ext' he3
   refine (i_9 (p:=fun x=>x.Sec == y) (q1 s3) (a_el hs3 fun x _=>t_u x.Sec x.In x.Out _ s3 _ ⟨_,_,_,rfl,_,a_d hs3,y,rfl,rfl,rfl⟩)).use ⟨_,rfl,?_⟩
   refine bc (fun e=>?_) (fun e=>⟨rfl,go out _ _ (by rw[if_neg (fun g=>by have:d_n x.Path y=false:=e;rw[this] at g;cases g)] at hF;exact hF) ho3 (by omega)⟩)
   rw[if_pos (show d_n x.Path y=true from e)] at hF
   refine a_e fun id1 s4 hid1 _ he4 hs4=>(ho3.ext' he4).append (At.fresh hs4 (by simp) rfl) (by simp;omega) (by simp;omega) fun d4 s5 ho5 _ _=>⟨rfl,go (out ++ [(j:Int)]) _ _ (by rw[List.append_assoc];exact hF) (by rw[List.map_append];exact ho5) (by simp;omega)⟩
 · have hF:=hr.done rfl hge
   rw[c_o,List.append_nil] at hF
   subst hF
   exact f_i ho (u_w _)
end
end
end Go.Proofs.YtdmfnhbmhkgemaaGreat
namespace Go.Fw
section
structure Br where
 Kind:Int
 Route:Int
 Sec:Int
 deriving DecidableEq
def Br.enc (b:Br) :List D:= [iD b.Kind,iD b.Route,iD b.Sec]
def opt (b:Bool)(x:Br) :List Br:=if b=true then [x] else []
def a_m (k:Co)(s:Int) :Int:=(a_k k.Own s).getD 0
def c_3 (k:Co)(i:Int) :Int:=((a_k k.Routes i).map Rs.State).getD 0
def q_m (k:Co)(i:Int) :Int:=((a_k k.Routes i).map Rs.Next).getD 0
def d_y (l:List Mv)(i:Int) :Int:=((a_k l i).map Mv.Cmd).getD 0
def xAt (c:Cf)(i:Int) :Int:=(a_k c.Xs i).getD 0
def f_5 (st:Int) :Bool:=inL [1,2,3] st
def e_h (k:Co)(r len:Nat) :Nat:=if f_5 (c_3 k r) =true then 0 else if inL [4,5] (c_3 k r) =true then (q_m k r).toNat else len
def ownP (k:Co)(r:Nat) :List St→List Br
 | []=> []
 | s::l=>opt (a_m k s.Sec !=(r:Int) +1) ⟨2,r,s.Sec⟩ ++ ownP k r l
def c_c (k:Co) :List Rt→Nat→List Br
 | [],_=> []
 | x::l,r=>ownP k r (x.Path.drop (e_h k r x.Path.length)) ++ c_c k l (r+1)
def e_f (k:Co) :List Int→Nat→List Br
 | [],_=> []
 | o::l,s=>opt (decide (o > 0) && inL [0] (c_3 k (o - 1))) ⟨3,o - 1,s⟩ ++ e_f k l (s+1)
def u_f (k:Co)(r:Nat) :List Nd→List Br
 | []=> []
 | n::l=>opt ((a_m k n.Sec ==(r:Int) +1) && (d_y k.Points n.Sec != n.Pos)) ⟨4,r,n.Sec⟩ ++ u_f k r l
def a_2 (c:Cf)(k:Co) :List Rt→Nat→List Br
 | [],_=> []
 | x::l,r=>(if f_5 (c_3 k r) =true then u_f k r (c.needs x) else []) ++ a_2 c k l (r+1)
def u_g (c:Cf)(k:Co)(r:Nat) :List Int→List Br
 | []=> []
 | i::l=>opt ((a_m k (xAt c i) ==(r:Int) +1) && (d_y k.Xs i != 1)) ⟨5,r,xAt c i⟩ ++ u_g c k r l
def b_e (c:Cf)(k:Co) :List Rt→Nat→List Br
 | [],_=> []
 | x::l,r=>(if inL [0] (c_3 k r) =true then [] else u_g c k r (c_o x.Path c.Xs 0)) ++ b_e c k l (r+1)
def a_pz (c:Cf)(k:Co)(line:Nat) :List Br:=
 let s:=c.lineSec line
 let l:=(k.Lines[line]?).getD zLs
 opt (decide (0≤s) && (decide (l.Done > l.Ask) || (decide (l.Told > l.Grant) || ((a_m k s == -2) && (l.Ask != l.Done))))) ⟨6,-1,s⟩
def d_s (c:Cf)(k:Co) :Nat→List Br
 | 0=> []
 | j+1=>d_s c k j ++ a_pz c k (j+1)
def Co.judge (c:Cf)(k:Co) :List Br:=
 if k.fits c=true then c_c k c.Rts 0 ++ e_f k k.Own 0 ++ a_2 c k c.Rts 0 ++ b_e c k c.Rts 0 ++ d_s c k 3 else [⟨1,-1,-1⟩]
def e_w:List (Int × Int)→Nat→List Int
 | [],_=> []
 | p::l,j=>if p.1≠p.2∧p.1≠0∧p.2≠0 then (j:Int) ::e_w l (j+1) else e_w l (j+1)
def Co.worse (c:Cf)(k n:Co) :List Int:=if k.fits c=true∧n.fits c=true then e_w (k.Own.zip n.Own) 0 else []
theorem x_h (b:Bool)(x:Br) :(opt b x).length≤1:=by unfold opt;split <;> simp
theorem a_o9 (k:Co)(r:Nat) :∀l:List St,(ownP k r l).length≤l.length
 | []=>by simp[ownP]
 | s::l=>by rw[ownP,List.length_append,List.length_cons];have:=x_h (a_m k s.Sec !=(r:Int) +1) ⟨2,r,s.Sec⟩;have:=a_o9 k r l;omega
theorem a_bm (k:Co) :∀(l:List Rt) (r:Nat),(∀x ∈ l,x.Path.length≤8)→(c_c k l r).length≤8 * l.length
 | [],_,_=>by simp[c_c]
 | x::l,r,h=>by
   rw[c_c,List.length_append,List.length_cons]
   have h1:=a_o9 k r (x.Path.drop (e_h k r x.Path.length))
   have h2:=a_bm k l (r+1) (fun y hy=>h y (by simp[hy]))
   have h3:=h x (by simp)
   rw[List.length_drop] at h1;omega
theorem a_jv (k:Co) :∀(l:List Int) (s:Nat),(e_f k l s).length≤l.length
 | [],_=>by simp[e_f]
 | o::l,s=>by rw[e_f,List.length_append,List.length_cons];have:=x_h (decide (o > 0) && inL [0] (c_3 k (o - 1))) ⟨3,o - 1,s⟩;have:=a_jv k l (s+1);omega
theorem a_jw (k:Co)(r:Nat) :∀l:List Nd,(u_f k r l).length≤l.length
 | []=>by simp[u_f]
 | n::l=>by rw[u_f,List.length_append,List.length_cons];have:=x_h ((a_m k n.Sec ==(r:Int) +1) && (d_y k.Points n.Sec != n.Pos)) ⟨4,r,n.Sec⟩;have:=a_jw k r l;omega
theorem u_n (c:Cf)(k:Co) :∀(l:List Rt) (r:Nat),(∀x ∈ l,(c.needs x).length≤40)→(a_2 c k l r).length≤40 * l.length
 | [],_,_=>by simp[a_2]
 | x::l,r,h=>by
   rw[a_2,List.length_append,List.length_cons]
   have h2:=u_n c k l (r+1) (fun y hy=>h y (by simp[hy]))
   have h3:=h x (by simp)
   have h4:=a_jw k r (c.needs x)
   split <;> simp <;> omega
theorem a_jz (c:Cf)(k:Co)(r:Nat) :∀l:List Int,(u_g c k r l).length≤l.length
 | []=>by simp[u_g]
 | i::l=>by rw[u_g,List.length_append,List.length_cons];have:=x_h ((a_m k (xAt c i) ==(r:Int) +1) && (d_y k.Xs i != 1)) ⟨5,r,xAt c i⟩;have:=a_jz c k r l;omega
theorem x_o (c:Cf)(k:Co) :∀(l:List Rt) (r:Nat),c.Xs.length≤4→(b_e c k l r).length≤4 * l.length
 | [],_,_=>by simp[b_e]
 | x::l,r,h=>by
   rw[b_e,List.length_append,List.length_cons]
   have h2:=x_o c k l (r+1) h
   have h4:=a_jz c k r (c_o x.Path c.Xs 0)
   have h5:=l_g x.Path c.Xs 0
   split <;> simp <;> omega
theorem o_4 (c:Cf)(k:Co) :∀j:Nat,(d_s c k j).length≤j
 | 0=>by simp[d_s]
 | j+1=>by rw[d_s,List.length_append];have:=o_4 c k j;have:(a_pz c k (j+1)).length≤1:=x_h _ _;omega
theorem a_fy {k:Co}{i:Int}{j:Nat}{x:Rs}(hi:i=j)(h:k.Routes[j]? =some x) :c_3 k i=x.State∧q_m k i=x.Next:=by
 unfold c_3 q_m;subst hi;rw[e_p,h];exact ⟨rfl,rfl⟩
theorem d_w {k:Co}{i:Int}{j:Nat}{x:Int}(hi:i=j)(h:k.Own[j]? =some x) :a_m k i=x:=by unfold a_m;subst hi;rw[e_p,h];rfl
theorem s_p {l:List Mv}{i:Int}{j:Nat}{x:Mv}(hi:i=j)(h:l[j]? =some x) :d_y l i=x.Cmd:=by unfold d_y;subst hi;rw[e_p,h];rfl
theorem a_sm {c:Cf}{i:Int}{j:Nat}{x:Int}(hi:i=j)(h:c.Xs[j]? =some x) :xAt c i=x:=by unfold xAt;subst hi;rw[e_p,h];rfl
def ctr (d:D)(s:Store) :Nat:=
 match d with
 | .el (.osl i _ _) _ _=>match s i with
   | .live _ ((.int _ n::_) ::_)=>(4 - n).toNat
   | _=>0
 | _=>0
theorem a_v6 {s:Store}{i:Nat}{t:TypeId}{j:Nat}(h:s i= .live t [[iD j]]) :ctr (.el (.osl i 0 1) 0 0) s=4 - j:=by
 unfold ctr;simp only[h];omega
end
end Go.Fw
namespace Go.Proofs.YtdmfnhbmhkgemaaGreat
open Go.Fw Go.Proofs Go.RowKit
section
variable {σ:Store}
theorem g_x {d:D}{l:List Int}(v:Int)(h:At Tryz.prog σ a_h d (l.map Go.Fw.encI)) :Pure Tryz.prog b_1 [.one d,iA v] σ (.a (bA (inL l v))):=by
 refine p_7 d v σ _ ((j_p v h).use ⟨_,rfl,?_,rfl⟩)
 have key:∀(l:List Int) (j:Nat),decide (k_5 l v j≥0) =inL l v:=by
   intro l
   induction l with
   | nil=>intro j;simp[k_5,inL]
   | cons x r ih=>
     intro j
     rw[k_5]
     by_cases hx:v=x
     · rw[if_pos hx];simp[inL,hx]
     · rw[if_neg hx,ih,inL,inL];simp[hx]
 rw[key]
theorem y_c {α:Type}{a b t:List α}{n:Nat}(h:a ++ b=t)(ht:t.length≤n) :a.length≤n:=by
 have:=congrArg List.length h
 rw[List.length_append] at this;omega
section
variable {c0 c1 c2 c3 c4:D} {c:Cf} {k0 k1 k2 k3 k4 k5:D} {k:Co} {σ0:Store} {b:Bool} {id:Nat} {d:D} {out:List Br}
structure JAt (σ0 σ:Store) (id:Nat) (k0 k1 k2 k3 k4 k5:D) (b:Bool) (c0 c1 c2 c3 c4:D) (c:Cf) (d:D) (out:List Br) :Prop where
 new:σ0 id= .free
 row:σ id= .live m_i [[k0,k1,k2,k3,k4,k5, .bool b,c0,c1,c2,c3,c4,iD c.Age,iD c.Brake,iD c.Hold,iD c.Budget,d]]
 own:Own Tryz.prog σ0 σ i_6 d (out.map Br.enc)
 ido:a_0 d≠some id
theorem JAt.ext' {σ':Store}(h:JAt σ0 σ id k0 k1 k2 k3 k4 k5 b c0 c1 c2 c3 c4 c d out)(he:Ext σ σ') :JAt σ0 σ' id k0 k1 k2 k3 k4 k5 b c0 c1 c2 c3 c4 c d out:=
 ⟨h.new,(he id (by rw[h.row];intro e;cases e)).trans h.row,h.own.ext' he,h.ido⟩
theorem c_t (h:JAt σ0 σ id k0 k1 k2 k3 k4 k5 b c0 c1 c2 c3 c4 c d out)(hl:out.length≤2 ^ 30)(w:Bool)(x y z:Int) :
   DCalls Tryz.prog a_s [.one (dp id),bA w,iA x,iA y,iA z] σ fun r s=>r= .tup []∧∃d',JAt σ0 s id k0 k1 k2 k3 k4 k5 b c0 c1 c2 c3 c4 c d' (out ++ opt w ⟨x,y,z⟩)∧
     (∀i,σ i≠ .free→i≠id→a_0 d≠some i→s i=σ i)∧∀i,a_0 d'=some i→σ i= .free∨a_0 d=some i:=by
 refine w_u (dp id) w x y z σ _ (bc (fun e=>?_) (fun e=>⟨rfl,d,by rw[opt,e];simpa using h,fun _ _ _ _=>rfl,fun _ h=> .inr h⟩))
 refine ⟨trivial,_,_,_,rfl,_,a_d h.row,d,rfl,a_e fun id2 s2 hid2 _ he2 hs2=>?_⟩
 have h2:=h.ext' he2
 refine h2.own.append (At.fresh hs2 (by simp) rfl) (by simp;omega) (by simp;omega) fun d4 s5 ho5 hk hd4=>?_
 have hr5:s5 id= .live m_i [[k0,k1,k2,k3,k4,k5, .bool b,c0,c1,c2,c3,c4,iD c.Age,iD c.Brake,iD c.Hold,iD c.Budget,d]]:=
   (hk id (by rw[h2.row];intro e;cases e) fun a b e=>h2.ido (by rw[e];rfl)).trans h2.row
 have hid4:a_0 d4≠some id:=fun e=>by
   cases d4 with
   | osl i a n=>
     have e1:i=id:=by simpa[a_0] using e
     subst e1
     rcases hd4 i a n rfl with q | ⟨a2,b2,q⟩
     · rw[h2.row] at q;cases q
     · exact h2.ido (by rw[q];rfl)
   | _=>simp[a_0] at e
 refine ⟨trivial,_,_,_,rfl,b_c hr5 (by simp) fun s6 hs6 hs6'=>⟨rfl,d4,⟨h.new,hs6,?_,hid4⟩,fun i hi hne hd=>?_,fun i hi=>?_⟩⟩
 · have:=a_g ho5 h.new hid4 hs6'
   rw[opt,if_pos e,List.map_append];exact this
 · rw[hs6' i hne,hk i (by rw[he2 i hi];exact hi) fun a b e=>hd (by rw[e];rfl),he2 i hi]
 · cases d4 with
   | osl i' a n=>
     have e1:i'=i:=by simpa[a_0] using hi
     subst e1
     rcases hd4 i' a n rfl with q | ⟨a2,b2,q⟩
     · left
       by_cases hf:σ i'= .free
       · exact hf
       · have:=he2 i' hf;rw[q] at this;exact this.symm
     · right;rw[q];rfl
   | _=>simp[a_0] at hi
theorem l_4 {e:D}{l:List Int}{r:Nat}{x:Rs}(h:JAt σ0 σ id k0 k1 k2 k3 k4 k5 b c0 c1 c2 c3 c4 c d out)(hk:CoAt σ k0 k1 k2 k3 k4 k5 k)(hx:k.Routes[r]? =some x)(hl:At Tryz.prog σ a_h e (l.map Go.Fw.encI)) :
   Pure Tryz.prog d_i [.one (dp id),iA r, .one e] σ (.a (bA (inL l (c_3 k r)))):=by
 rw[(a_fy rfl hx).1]
 exact a_ay (dp id) r e σ _ ⟨trivial,_,_,_,rfl,_,a_d h.row,k1,rfl,hk.routes.load (a_c hx) a_x rfl ⟨x.State,rfl,(g_x _ hl).use ⟨_,rfl,rfl,rfl⟩⟩⟩
theorem n_j {r:Nat}{x:Rs}(h:JAt σ0 σ id k0 k1 k2 k3 k4 k5 b c0 c1 c2 c3 c4 c d out)(hk:CoAt σ k0 k1 k2 k3 k4 k5 k)(hx:k.Routes[r]? =some x) :
   Pure Tryz.prog d_t [.one (dp id),iA r] σ (.a (bA (f_5 (c_3 k r)))):=by
 refine .of (p_t (dp id) r σ _ (a_e fun id2 s2 hid2 _ he2 hs2=>?_)) (k_o _)
 exact (l_4 (l:= [1,2,3]) (h.ext' he2) (hk.ext he2) hx (At.fresh hs2 (by simp) rfl)).use ⟨_,rfl,rfl,he2⟩
variable (hc:∀s,CfAt s c0 c1 c2 c3 c4 c) (hk:CoAt σ0 k0 k1 k2 k3 k4 k5 k) (hfit:k.fits c=true)
include hc hk hfit
theorem a_c6 (h:JAt σ0 σ id k0 k1 k2 k3 k4 k5 b c0 c1 c2 c3 c4 c d out)(hl:(out ++ (c_c k c.Rts 0 ++ e_f k k.Own 0)).length≤2 ^ 30) :
   DCalls Tryz.prog d_2 [.one (dp id)] σ fun r s=>r= .tup []∧∃d',JAt σ0 s id k0 k1 k2 k3 k4 k5 b c0 c1 c2 c3 c4 c d' (out ++ (c_c k c.Rts 0 ++ e_f k k.Own 0)):=by
 obtain ⟨lo,lp,lr,lt,lx,ll⟩:=i_s hfit
 have hck:=k_x hfit
 obtain ⟨_,s1,s2,s3,_,_⟩:=a_y hck
 obtain ⟨rows,hat,hlen,hrow⟩:=g_h fun s=>(hc s).rts
 refine r_f (dp id) σ _ ⟨trivial,_,_,_,rfl,_,a_d h.row,c4,rfl,(hat σ).lenK ⟨fun n s=>∃d' out',JAt σ0 s id k0 k1 k2 k3 k4 k5 b c0 c1 c2 c3 c4 c d' out'∧Rng c.Rts (fun l=>out' ++ (c_c k l n.toNat ++ e_f k k.Own 0) =out ++ (c_c k c.Rts 0 ++ e_f k k.Own 0)) n,
   fun n _=>c.Rts.length - n.toNat,⟨d,out,h, .start rfl⟩,?_⟩⟩
 rintro n s ⟨d1,out1,h1,hr⟩
 refine bcd (fun hlt=>?_) (fun hge=>?_)
 · obtain ⟨j,x,rfl,hx,hj,hF,nx⟩:=hr.step hlen (by omega) hlt
   have hw:w64 ((j:Int) +1) =((j+1:Nat) :Int):=a_o (by omega)
   have hxo:=b_k hck (List.mem_of_getElem? hx)
   obtain ⟨row,hrw⟩:=a_i (l:=rows) (j:=j) (by omega)
   obtain ⟨e1,e2,e3,rfl,q1,q2,q3⟩:=hrow j row x hrw hx
   obtain ⟨rs,hrs⟩:=a_i (l:=k.Routes) (j:=j) (by omega)
   have hst:=a_fy (i:=j) rfl hrs
   rw[Int.toNat_natCast,c_c] at hF
   refine (hat s).load hrw c_l rfl ⟨_,_,e1,e2,e3,_,rfl,(q1 s).lenK ?_⟩
   rw[List.length_map]
   intro R hR
   have body : ∀ (fr : Nat) (s' : Store) (R1 : Store → Prop), fr = e_h k j x.Path.length → JAt σ0 s' id k0 k1 k2 k3 k4 k5 b c0 c1 c2 c3 c4 c d1 out1 →
       ∃len3:Nat,IdxN Tryz.prog s' e1 3 len3∧(0:Int)≤(fr:Int)∧(fr:Int)≤(len3:Int)∧∃len4:Nat,Len (g_f e1 (Int.toNat fr) len3) len4∧∃I1:Int→Store→Prop,∃μ1:Int→Store→Nat,I1 0 s'∧∀n5:Int,∀s3:Store,I1 n5 s3→
         a_b (decide (n5 < (len4:Int))) (∃len5:Nat,Idx Tryz.prog s3 (g_f e1 (Int.toNat fr) len3) 3 len5∧(0:Int)≤n5∧n5 < (len5:Int)∧∃row2:List D,Row s3 (g_f e1 (Int.toNat fr) len3) (Int.toNat n5) row2∧∃n6 n7 n8:Int,List.take 3 row2=[iD n6,iD n7,iD n8]∧a_f (dp id)∧
           ∃s1:D,∃i1 off1:Nat,dp id= .el s1 i1 off1∧∃row3:List D,Row s3 s1 i1 row3∧∃d4:D,List.take 1 (List.drop ((off1+0) +0) row3) =[d4]∧∃len6:Nat,Idx Tryz.prog s3 d4 1 len6∧(0:Int)≤n6∧n6 < (len6:Int)∧∃row4:List D,Row s3 d4 (Int.toNat n6) row4∧∃n9:Int,List.take 1 row4=[iD n9]∧
           DCalls Tryz.prog a_s [.one (dp id),bA (n9 != w64 ((j:Int) +1)),iA 2,iA j,iA n6] s3 fun r s4=>r= .tup []∧I1 (w64 (n5+1)) s4∧μ1 (w64 (n5+1)) s4 < μ1 n5 s3)
         ((fun (n:Int) (s:Store)=>∃d' out',JAt σ0 s id k0 k1 k2 k3 k4 k5 b c0 c1 c2 c3 c4 c d' out'∧Rng c.Rts (fun l=>out' ++ (c_c k l n.toNat ++ e_f k k.Own 0) =out ++ (c_c k c.Rts 0 ++ e_f k k.Own 0)) n) (w64 ((j:Int) +1)) s3∧c.Rts.length - (w64 ((j:Int) +1)).toNat < c.Rts.length - (j:Int).toNat):=by
     intro fr s' R1 hfr h'
     have hfl:fr≤x.Path.length:=by
       subst hfr;unfold e_h
       split
       · omega
       · split
         · rw[hst.2]
           have:=hfit
           simp only[Co.fits,Co.parts,Bool.and_eq_true] at this
           have hz:=List.all_eq_true.1 this.2.2.2.1 (rs,x) (List.mem_of_getElem? (i:=j) (by rw[List.getElem?_zip_eq_some];exact ⟨hrs,hx⟩))
           simp only[Rs.fits,Bool.and_eq_true,decide_eq_true_eq] at hz
           omega
         · omega
     rw[←hfr] at hF
     have hps:=(q1 s').size
     rw[List.length_map] at hps
     refine (q1 s').sliceFromK i_l rfl (by rw[List.length_map];exact hfl) ?_
     have hsub:=fun s=>(q1 s).sub (lo:=fr) (hi:=x.Path.length) hfl (by simp)
     rw[List.length_map]
     have es:∀s,At Tryz.prog s d_v (g_f e1 fr x.Path.length) ((x.Path.drop fr).map St.enc):=fun s=>by
       have:=hsub s
       rw[List.take_of_length_le (by simp),←List.map_drop] at this
       exact this
     rw[Int.toNat_natCast]
     have hdl:(x.Path.drop fr).length < 2 ^ 60:=by rw[List.length_drop];omega
     refine (es s').lenK ⟨fun m s=>∃d' out',JAt σ0 s id k0 k1 k2 k3 k4 k5 b c0 c1 c2 c3 c4 c d' out'∧Rng (x.Path.drop fr) (fun l=>out' ++ (ownP k j l ++ (c_c k (c.Rts.drop (j+1)) (j+1) ++ e_f k k.Own 0)) =out ++ (c_c k c.Rts 0 ++ e_f k k.Own 0)) m,
       fun m _=>(x.Path.drop fr).length - m.toNat,⟨d1,out1,h', .start (by rw[List.append_assoc] at hF;exact hF)⟩,?_⟩
     rintro m s3 ⟨d2,out2,h2,hr2⟩
     refine bcd (fun hlt2=>?_) (fun hge2=>?_)
     · obtain ⟨j2,y,rfl,hy,hj2,hF2,nx2⟩:=hr2.step (by simp) hdl hlt2
       have hys:=(hxo.step y (List.mem_of_mem_drop (List.mem_of_getElem? hy))).1
       obtain ⟨z,hz,_⟩:=hys.sec
       have hzg:=a_l hz
       obtain ⟨o,ho⟩:=a_i (l:=k.Own) (j:=y.Sec.toNat) (by omega)
       rw[ownP,List.append_assoc] at hF2
       have hol:=y_c hF2 hl
       have hoa:=d_w (i:=y.Sec) (j:=y.Sec.toNat) (by omega) ho
       refine (es s3).load (a_c hy) i_l rfl ⟨y.Sec,y.In,y.Out,rfl,trivial,_,_,_,rfl,_,a_d h2.row,k0,rfl,(hk.ext h2.own.ext).own.load (a_c ho) c_int (by omega) ⟨o,rfl,(c_t h2 hol _ _ _ _).mono ?_⟩⟩
       rintro r s4 ⟨rfl,d3,h3,_⟩
       have:=nx2 (fun l=>(out2 ++ opt (o != w64 ((j:Int) +1)) ⟨2,j,y.Sec⟩) ++ (ownP k j l ++ (c_c k (c.Rts.drop (j+1)) (j+1) ++ e_f k k.Own 0)) =out ++ (c_c k c.Rts 0 ++ e_f k k.Own 0)) (by
         rw[List.append_assoc,hw]
         rw[hoa] at hF2
         exact hF2)
       exact ⟨rfl,⟨d3,_,h3,this.1⟩,this.2⟩
     · have hF2:=hr2.done (by simp) hge2
       rw[ownP,List.nil_append] at hF2
       have:=nx (fun l=>out2 ++ (c_c k l (w64 ((j:Int) +1)).toNat ++ e_f k k.Own 0) =out ++ (c_c k c.Rts 0 ++ e_f k k.Own 0)) (by rw[hw,Int.toNat_natCast];exact hF2)
       exact ⟨⟨d2,out2,h2,this.1⟩,this.2⟩
   have main:∀(n3:Int) (s':Store),(inL [4,5] (c_3 k j) =false→n3=(e_h k j x.Path.length:Int))→JAt σ0 s' id k0 k1 k2 k3 k4 k5 b c0 c1 c2 c3 c4 c d1 out1→(inL [4,5] (c_3 k j) =true→f_5 (c_3 k j) =false)→R n3 s':=by
     intro n3 s' hn3 h' hex
     refine hR n3 s' ?_
     intro R1 hR1
     have hfits2:=hfit
     simp only[Co.fits,Co.parts,Bool.and_eq_true] at hfits2
     have hz:=List.all_eq_true.1 hfits2.2.2.2.1 (rs,x) (List.mem_of_getElem? (i:=j) (by rw[List.getElem?_zip_eq_some];exact ⟨hrs,hx⟩))
     simp only[Rs.fits,Bool.and_eq_true,decide_eq_true_eq] at hz
     refine a_e fun id2 s2 hid2 _ he2 hs2=>(l_4 (l:= [4,5]) (h'.ext' he2) ((hk.ext h'.own.ext).ext he2) hrs (At.fresh hs2 (by simp) rfl)).use ⟨_,rfl,bc (fun e=>?_) (fun e=>⟨rfl,?_⟩)⟩
     · refine ⟨trivial,_,_,_,rfl,_,a_d (h'.ext' he2).row,k1,rfl,((hk.ext h'.own.ext).ext he2).routes.load (a_c hrs) a_x rfl ⟨rs.Next,rfl,rfl,?_⟩⟩
       obtain ⟨fr,hfr⟩ :∃fr:Nat,rs.Next=fr:=⟨rs.Next.toNat,by omega⟩
       rw[hfr]
       exact hR1 _ _ (body fr s2 (fun _=>True) (by unfold e_h;rw[if_neg (by rw[hex e];simp),if_pos e,hst.2,hfr,Int.toNat_natCast]) (h'.ext' he2))
     · have:=hn3 e
       subst this
       exact hR1 _ _ (body _ s2 (fun _=>True) rfl (h'.ext' he2))
   have dis:inL [4,5] (c_3 k j) =true→f_5 (c_3 k j) =false:=fun e=>by
     simp[inL] at e
     rcases e with e | e <;> rw[e] <;> rfl
   refine (n_j h1 (hk.ext h1.own.ext) hrs).use ⟨_,rfl,bc (fun e=>⟨rfl,main 0 s (fun _=>by unfold e_h;rw[if_pos e];rfl) h1 dis⟩) (fun e=>⟨rfl,main _ s (fun e2=>by unfold e_h;rw[if_neg (by rw[e];simp),if_neg (by rw[e2];simp)]) h1 dis⟩)⟩
 · have hF:=hr.done hlen hge
   rw[c_c,List.nil_append] at hF
   refine ⟨trivial,_,_,_,rfl,_,a_d h1.row,k0,rfl,(hk.ext h1.own.ext).own.lenK ⟨fun n s=>∃d' out',JAt σ0 s id k0 k1 k2 k3 k4 k5 b c0 c1 c2 c3 c4 c d' out'∧Rng k.Own (fun l=>out' ++ e_f k l n.toNat=out ++ (c_c k c.Rts 0 ++ e_f k k.Own 0)) n,
     fun n _=>k.Own.length - n.toNat,⟨d1,out1,h1, .start hF⟩,?_⟩⟩
   rintro m s3 ⟨d2,out2,h2,hr2⟩
   refine bcd (fun hlt2=>?_) (fun hge2=>?_)
   · obtain ⟨j2,o,rfl,ho,hj2,hF2,nx2⟩:=hr2.step (by simp) (by omega) hlt2
     have hw:w64 ((j2:Int) +1) =((j2+1:Nat) :Int):=a_o (by omega)
     have hfits2:=hfit
     simp only[Co.fits,Co.parts,Bool.and_eq_true] at hfits2
     have hz:=of_decide_eq_true (List.all_eq_true.1 hfits2.2.2.1 o (List.mem_of_getElem? ho))
     rw[Int.toNat_natCast,e_f] at hF2
     have hol:=y_c hF2 hl
     have go : ∀ d3 s4, JAt σ0 s4 id k0 k1 k2 k3 k4 k5 b c0 c1 c2 c3 c4 c d3 (out2 ++ opt (decide (o > 0) && inL [0] (c_3 k (o - 1))) ⟨3, o - 1, j2⟩) →
         (∃d' out',JAt σ0 s4 id k0 k1 k2 k3 k4 k5 b c0 c1 c2 c3 c4 c d' out'∧Rng k.Own (fun l=>out' ++ e_f k l (w64 ((j2:Int) +1)).toNat=out ++ (c_c k c.Rts 0 ++ e_f k k.Own 0)) (w64 ((j2:Int) +1)))∧k.Own.length - (w64 ((j2:Int) +1)).toNat < k.Own.length - (j2:Int).toNat:=fun d3 s4 h3=>by
       have:=nx2 (fun l=>(out2 ++ opt (decide (o > 0) && inL [0] (c_3 k (o - 1))) ⟨3,o - 1,j2⟩) ++ e_f k l (w64 ((j2:Int) +1)).toNat=out ++ (c_c k c.Rts 0 ++ e_f k k.Own 0)) (by
         rw[List.append_assoc,hw,Int.toNat_natCast];exact hF2)
       exact ⟨⟨d3,_,h3,this.1⟩,this.2⟩
     have hm:w64 (o - 1) =o - 1:=a_u (by omega) (by omega)
     refine (hk.ext h2.own.ext).own.load (a_c ho) c_int rfl ⟨o,rfl,bcd (fun e=>?_) (fun e=>?_)⟩
     · obtain ⟨jr,hjr⟩ :∃jr:Nat,o - 1=jr:=⟨(o - 1).toNat,by omega⟩
       obtain ⟨rs,hrs⟩:=a_i (l:=k.Routes) (j:=jr) (by omega)
       rw[hm]
       refine a_e fun id2 s2 hid2 _ he2 hs2=>?_
       rw[hjr] at go ⊢
       refine (l_4 (l:= [0]) (h2.ext' he2) ((hk.ext h2.own.ext).ext he2) hrs (At.fresh hs2 (by simp) rfl)).use ⟨_,rfl,(c_t (h2.ext' he2) hol _ _ _ _).mono ?_⟩
       rintro r s4 ⟨rfl,d3,h3,_⟩
       rw[decide_eq_true e,Bool.true_and] at go
       exact ⟨rfl,go d3 s4 h3⟩
     · rw[hm]
       refine (c_t h2 hol _ _ _ _).mono ?_
       rintro r s4 ⟨rfl,d3,h3,_⟩
       rw[decide_eq_false e,Bool.false_and] at go
       exact ⟨rfl,go d3 s4 h3⟩
   · have hF2:=hr2.done (by simp) hge2
     rw[e_f,List.append_nil] at hF2
     exact ⟨rfl,d2,hF2 ▸ h2⟩
theorem a_dm (h:JAt σ0 σ id k0 k1 k2 k3 k4 k5 b c0 c1 c2 c3 c4 c d out)(hl:(out ++ a_2 c k c.Rts 0).length≤2 ^ 30) :
   DCalls Tryz.prog d_z [.one (dp id)] σ fun r s=>r= .tup []∧∃d',JAt σ0 s id k0 k1 k2 k3 k4 k5 b c0 c1 c2 c3 c4 c d' (out ++ a_2 c k c.Rts 0):=by
 obtain ⟨lo,lp,lr,lt,lx,ll⟩:=i_s hfit
 have hck:=k_x hfit
 obtain ⟨_,s1,s2,s3,_,_⟩:=a_y hck
 obtain ⟨rows,hat,hlen,hrow⟩:=g_h fun s=>(hc s).rts
 refine q_p (dp id) σ _ ⟨trivial,_,_,_,rfl,_,a_d h.row,c4,rfl,(hat σ).lenK ⟨fun n s=>∃d' out',JAt σ0 s id k0 k1 k2 k3 k4 k5 b c0 c1 c2 c3 c4 c d' out'∧Rng c.Rts (fun l=>out' ++ a_2 c k l n.toNat=out ++ a_2 c k c.Rts 0) n,
   fun n _=>c.Rts.length - n.toNat,⟨d,out,h, .start rfl⟩,?_⟩⟩
 rintro n s ⟨d1,out1,h1,hr⟩
 refine bcd (fun hlt=>?_) (fun hge=>?_)
 · obtain ⟨j,x,rfl,hx,hj,hF,nx⟩:=hr.step hlen (by omega) hlt
   have hw:w64 ((j:Int) +1) =((j+1:Nat) :Int):=a_o (by omega)
   have hxo:=b_k hck (List.mem_of_getElem? hx)
   obtain ⟨rs,hrs⟩:=a_i (l:=k.Routes) (j:=j) (by omega)
   rw[Int.toNat_natCast,a_2] at hF
   have fin : ∀ d2 out2 s2, JAt σ0 s2 id k0 k1 k2 k3 k4 k5 b c0 c1 c2 c3 c4 c d2 out2 → out2 ++ a_2 c k (c.Rts.drop (j + 1)) (j + 1) = out ++ a_2 c k c.Rts 0 →
       (∃d' out',JAt σ0 s2 id k0 k1 k2 k3 k4 k5 b c0 c1 c2 c3 c4 c d' out'∧Rng c.Rts (fun l=>out' ++ a_2 c k l (w64 ((j:Int) +1)).toNat=out ++ a_2 c k c.Rts 0) (w64 ((j:Int) +1)))∧c.Rts.length - (w64 ((j:Int) +1)).toNat < c.Rts.length - (j:Int).toNat:=fun d2 out2 s2 h2 he=>by
     have:=nx (fun l=>out2 ++ a_2 c k l (w64 ((j:Int) +1)).toNat=out ++ a_2 c k c.Rts 0) (by rw[hw,Int.toNat_natCast];exact he)
     exact ⟨⟨d2,out2,h2,this.1⟩,this.2⟩
   refine (n_j h1 (hk.ext h1.own.ext) hrs).use ⟨_,rfl,a_q (fun e=>fin _ _ _ h1 (by rw[if_neg (by rw[e];simp)] at hF;exact hF)) (fun e=>?_)⟩
   rw[if_pos e] at hF
   have hrt:c.rt j=x:=b_h (by rw[e_p];exact hx)
   refine ⟨trivial,_,_,_,rfl,_,a_d h1.row,c0,c1,c2,c3,c4,_,_,_,_,rfl,(l_d hc j (by rw[hrt];have:=hxo.len;omega) (by rw[hrt];have:=hxo.flen;omega)).mono ?_⟩
   rintro r s2 ⟨rfl,e1,rfl,q1⟩
   rw[Cf.Needs,hrt] at q1
   have hnl:(c.needs x).length≤40:=by have:=s_t c x;have:=hxo.len;have:=hxo.flen;omega
   refine ⟨e1,rfl,(q1 s2).lenK ⟨fun m s=>∃d' out',JAt σ0 s id k0 k1 k2 k3 k4 k5 b c0 c1 c2 c3 c4 c d' out'∧Rng (c.needs x) (fun l=>out' ++ (u_f k j l ++ a_2 c k (c.Rts.drop (j+1)) (j+1)) =out ++ a_2 c k c.Rts 0) m,
     fun m _=>(c.needs x).length - m.toNat,⟨d1,out1,h1, .start hF⟩,?_⟩⟩
   rintro m s3 ⟨d2,out2,h2,hr2⟩
   rw[List.length_map]
   refine bcd (fun hlt2=>?_) (fun hge2=>?_)
   · obtain ⟨j2,y,rfl,hy,hj2,hF2,nx2⟩:=hr2.step rfl (by omega) hlt2
     obtain ⟨⟨z,hz⟩,_⟩:=n_h hxo (List.mem_of_getElem? hy)
     have hzg:=a_l hz
     obtain ⟨o,ho⟩:=a_i (l:=k.Own) (j:=y.Sec.toNat) (by omega)
     obtain ⟨mv,hmv⟩:=a_i (l:=k.Points) (j:=y.Sec.toNat) (by omega)
     rw[u_f,List.append_assoc] at hF2
     have hol:=y_c hF2 hl
     rw[d_w (i:=y.Sec) (j:=y.Sec.toNat) (by omega) ho,s_p (i:=y.Sec) (j:=y.Sec.toNat) (by omega) hmv] at hF2
     have go : ∀ w d3 s4, w = ((o == (j : Int) + 1) && (mv.Cmd != y.Pos)) → JAt σ0 s4 id k0 k1 k2 k3 k4 k5 b c0 c1 c2 c3 c4 c d3 (out2 ++ opt w ⟨4, j, y.Sec⟩) →
         (∃d' out',JAt σ0 s4 id k0 k1 k2 k3 k4 k5 b c0 c1 c2 c3 c4 c d' out'∧Rng (c.needs x) (fun l=>out' ++ (u_f k j l ++ a_2 c k (c.Rts.drop (j+1)) (j+1)) =out ++ a_2 c k c.Rts 0) (w64 ((j2:Int) +1)))∧(c.needs x).length - (w64 ((j2:Int) +1)).toNat < (c.needs x).length - (j2:Int).toNat:=fun w d3 s4 hw h3=>by
       subst hw
       have:=nx2 (fun l=>(out2 ++ opt ((o ==(j:Int) +1) && (mv.Cmd != y.Pos)) ⟨4,j,y.Sec⟩) ++ (u_f k j l ++ a_2 c k (c.Rts.drop (j+1)) (j+1)) =out ++ a_2 c k c.Rts 0) (by
         rw[List.append_assoc];exact hF2)
       exact ⟨⟨d3,_,h3,this.1⟩,this.2⟩
     have hk2:=hk.ext h2.own.ext
     refine (q1 s3).load (a_c hy) n_4 rfl ⟨y.Sec,y.Pos,rfl,trivial,_,_,_,rfl,_,a_d h2.row,k0,rfl,hk2.own.load (a_c ho) c_int (by omega) ⟨o,rfl,?_⟩⟩
     rw[hw]
     refine bce (fun e=>⟨trivial,_,_,_,rfl,_,a_d h2.row,k2,rfl,hk2.points.load (a_c hmv) c_r (by omega) ⟨mv.Cmd,rfl,(c_t h2 hol _ _ _ _).mono ?_⟩⟩) (fun e=>(c_t h2 hol _ _ _ _).mono ?_)
     · rintro r s4 ⟨rfl,d3,h3,_⟩
       exact ⟨rfl,go _ d3 s4 (by rw[show (o ==(j:Int) +1) =true by simpa using e,Bool.true_and]) h3⟩
     · rintro r s4 ⟨rfl,d3,h3,_⟩
       exact ⟨rfl,go _ d3 s4 (by rw[show (o ==(j:Int) +1) =false by simpa using e,Bool.false_and]) h3⟩
   · have hF2:=hr2.done rfl hge2
     rw[u_f,List.nil_append] at hF2
     exact fin _ _ _ h2 hF2
 · have hF:=hr.done hlen hge
   rw[a_2,List.append_nil] at hF
   exact ⟨rfl,d1,hF ▸ h1⟩
theorem a_f6 (h:JAt σ0 σ id k0 k1 k2 k3 k4 k5 b c0 c1 c2 c3 c4 c d out)(hl:(out ++ b_e c k c.Rts 0).length≤2 ^ 30) :
   DCalls Tryz.prog e_e [.one (dp id)] σ fun r s=>r= .tup []∧∃d',JAt σ0 s id k0 k1 k2 k3 k4 k5 b c0 c1 c2 c3 c4 c d' (out ++ b_e c k c.Rts 0):=by
 obtain ⟨lo,lp,lr,lt,lx,ll⟩:=i_s hfit
 have hck:=k_x hfit
 obtain ⟨_,s1,s2,s3,_,_⟩:=a_y hck
 obtain ⟨rows,hat,hlen,hrow⟩:=g_h fun s=>(hc s).rts
 have hxs:=x_7 hck
 refine t_1 (dp id) σ _ ⟨trivial,_,_,_,rfl,_,a_d h.row,c4,rfl,(hat σ).lenK ⟨fun n s=>∃d' out',JAt σ0 s id k0 k1 k2 k3 k4 k5 b c0 c1 c2 c3 c4 c d' out'∧Rng c.Rts (fun l=>out' ++ b_e c k l n.toNat=out ++ b_e c k c.Rts 0) n,
   fun n _=>c.Rts.length - n.toNat,⟨d,out,h, .start rfl⟩,?_⟩⟩
 rintro n s ⟨d1,out1,h1,hr⟩
 refine bcd (fun hlt=>?_) (fun hge=>?_)
 · obtain ⟨j,x,rfl,hx,hj,hF,nx⟩:=hr.step hlen (by omega) hlt
   have hw:w64 ((j:Int) +1) =((j+1:Nat) :Int):=a_o (by omega)
   obtain ⟨rs,hrs⟩:=a_i (l:=k.Routes) (j:=j) (by omega)
   rw[Int.toNat_natCast,b_e] at hF
   have fin : ∀ d2 out2 s2, JAt σ0 s2 id k0 k1 k2 k3 k4 k5 b c0 c1 c2 c3 c4 c d2 out2 → out2 ++ b_e c k (c.Rts.drop (j + 1)) (j + 1) = out ++ b_e c k c.Rts 0 →
       (∃d' out',JAt σ0 s2 id k0 k1 k2 k3 k4 k5 b c0 c1 c2 c3 c4 c d' out'∧Rng c.Rts (fun l=>out' ++ b_e c k l (w64 ((j:Int) +1)).toNat=out ++ b_e c k c.Rts 0) (w64 ((j:Int) +1)))∧c.Rts.length - (w64 ((j:Int) +1)).toNat < c.Rts.length - (j:Int).toNat:=fun d2 out2 s2 h2 he=>by
     have:=nx (fun l=>out2 ++ b_e c k l (w64 ((j:Int) +1)).toNat=out ++ b_e c k c.Rts 0) (by rw[hw,Int.toNat_natCast];exact he)
     exact ⟨⟨d2,out2,h2,this.1⟩,this.2⟩
   refine a_e fun id2 s2 hid2 _ he2 hs2=>(l_4 (l:= [0]) (h1.ext' he2) ((hk.ext h1.own.ext).ext he2) hrs (At.fresh hs2 (by simp) rfl)).use ⟨_,rfl,bc (fun e=>fin _ _ _ (h1.ext' he2) (by rw[if_pos e] at hF;exact hF)) (fun e=>?_)⟩
   rw[if_neg (by rw[e];simp)] at hF
   have h1':=h1.ext' he2
   have hrt:c.rt j=x:=b_h (by rw[e_p];exact hx)
   refine ⟨trivial,_,_,_,rfl,_,a_d h1'.row,c0,c1,c2,c3,c4,_,_,_,_,rfl,(g_1 hc j (by omega)).mono ?_⟩
   rintro r s2 ⟨rfl,e1,rfl,q1⟩
   rw[Cf.Cross,hrt] at q1
   have hnl:=l_g x.Path c.Xs 0
   have hmem:=g_y x.Path c.Xs 0
   generalize c_o x.Path c.Xs 0=cr at *
   refine ⟨e1,rfl,(q1 s2).lenK ⟨fun m s=>∃d' out',JAt σ0 s id k0 k1 k2 k3 k4 k5 b c0 c1 c2 c3 c4 c d' out'∧Rng cr (fun l=>out' ++ (u_g c k j l ++ b_e c k (c.Rts.drop (j+1)) (j+1)) =out ++ b_e c k c.Rts 0) m,
     fun m _=>cr.length - m.toNat,⟨d1,out1,h1', .start hF⟩,?_⟩⟩
   rintro m s3 ⟨d2,out2,h2,hr2⟩
   rw[List.length_map]
   refine bcd (fun hlt2=>?_) (fun hge2=>?_)
   · obtain ⟨j2,y,rfl,hy,hj2,hF2,nx2⟩:=hr2.step rfl (by omega) hlt2
     obtain ⟨jx,sx,rfl,hsx,_⟩:=hmem y (List.mem_of_getElem? hy)
     rw[Nat.zero_add] at *
     obtain ⟨z,hz,_⟩:=hxs.1 sx (List.mem_of_getElem? hsx)
     have hzg:=a_l hz
     have hjx:=(List.getElem?_eq_some_iff.1 hsx).1
     obtain ⟨o,ho⟩:=a_i (l:=k.Own) (j:=sx.toNat) (by omega)
     obtain ⟨mv,hmv⟩:=a_i (l:=k.Xs) (j:=jx) (by omega)
     rw[u_g,List.append_assoc] at hF2
     have hol:=y_c hF2 hl
     rw[a_sm (i:=jx) rfl hsx,d_w (i:=sx) (j:=sx.toNat) (by omega) ho,s_p (i:=jx) rfl hmv] at hF2
     have go : ∀ w d3 s4, w = ((o == (j : Int) + 1) && (mv.Cmd != 1)) → JAt σ0 s4 id k0 k1 k2 k3 k4 k5 b c0 c1 c2 c3 c4 c d3 (out2 ++ opt w ⟨5, j, sx⟩) →
         (∃d' out',JAt σ0 s4 id k0 k1 k2 k3 k4 k5 b c0 c1 c2 c3 c4 c d' out'∧Rng cr (fun l=>out' ++ (u_g c k j l ++ b_e c k (c.Rts.drop (j+1)) (j+1)) =out ++ b_e c k c.Rts 0) (w64 ((j2:Int) +1)))∧cr.length - (w64 ((j2:Int) +1)).toNat < cr.length - (j2:Int).toNat:=fun w d3 s4 hw h3=>by
       subst hw
       have:=nx2 (fun l=>(out2 ++ opt ((o ==(j:Int) +1) && (mv.Cmd != 1)) ⟨5,j,sx⟩) ++ (u_g c k j l ++ b_e c k (c.Rts.drop (j+1)) (j+1)) =out ++ b_e c k c.Rts 0) (by
         rw[List.append_assoc];exact hF2)
       exact ⟨⟨d3,_,h3,this.1⟩,this.2⟩
     have hk2:=hk.ext h2.own.ext
     refine (q1 s3).load (a_c hy) c_int rfl ⟨jx,rfl,trivial,_,_,_,rfl,_,a_d h2.row,c3,rfl,(hc s3).xs.load (a_c hsx) c_int rfl ⟨sx,rfl,trivial,_,_,_,rfl,_,a_d h2.row,k0,rfl,hk2.own.load (a_c ho) c_int (by omega) ⟨o,rfl,?_⟩⟩⟩
     rw[hw]
     refine bce (fun e=>⟨trivial,_,_,_,rfl,_,a_d h2.row,k3,rfl,hk2.xs.load (a_c hmv) c_r rfl ⟨mv.Cmd,rfl,(c_t h2 hol _ _ _ _).mono ?_⟩⟩) (fun e=>(c_t h2 hol _ _ _ _).mono ?_)
     · rintro r s4 ⟨rfl,d3,h3,_⟩
       exact ⟨rfl,go _ d3 s4 (by rw[show (o ==(j:Int) +1) =true by simpa using e,Bool.true_and]) h3⟩
     · rintro r s4 ⟨rfl,d3,h3,_⟩
       exact ⟨rfl,go _ d3 s4 (by rw[show (o ==(j:Int) +1) =false by simpa using e,Bool.false_and]) h3⟩
   · have hF2:=hr2.done rfl hge2
     rw[u_g,List.nil_append] at hF2
     exact fin _ _ _ h2 hF2
 · have hF:=hr.done hlen hge
   rw[b_e,List.append_nil] at hF
   exact ⟨rfl,d1,hF ▸ h1⟩
end
end
section
variable {σ:Store}
section
variable {c0 c1 c2 c3 c4:D} {c:Cf} {k0 k1 k2 k3 k4 k5:D} {k:Co} {σ0:Store} {b:Bool} {id:Nat} {d:D} {out:List Br}
 (hc:∀s,CfAt s c0 c1 c2 c3 c4 c)
include hc
theorem a_f7 (hk:CoAt σ0 k0 k1 k2 k3 k4 k5 k)(hfit:k.fits c=true)(h:JAt σ0 σ id k0 k1 k2 k3 k4 k5 b c0 c1 c2 c3 c4 c d out)(hl:out.length≤2 ^ 20) :
   DCalls Tryz.prog e_d [.one (dp id)] σ fun r s=>r= .tup []∧∃d',JAt σ0 s id k0 k1 k2 k3 k4 k5 b c0 c1 c2 c3 c4 c d' (out ++ d_s c k 3):=by
 obtain ⟨lo,lp,lr,lt,lx,ll⟩:=i_s hfit
 have hid:=h.row
 refine s_9 (dp id) σ _ (a_e fun ia sa hia _ hea hsa=>n_c hsa fun sb hsb hsb'=>?_)
 have heb:Ext σ sb:=fun i hi=>by rw[hsb' i (fun e=>hi (by rw[e];exact hia))];exact hea i hi
 have hne:ia≠id:=fun e=>by rw[e,hid] at hia;cases hia
 have hda:a_0 d≠some ia:=fun e=>by
   cases d with
   | osl i a n=>
     have e1:i=ia:=by simpa[a_0] using e
     subst e1
     obtain ⟨t,rows,g1,_⟩:=h.own.at_.rows
     rw[hia] at g1;cases g1
   | _=>simp[a_0] at e
 refine ⟨fun d s=>∃(ic j:Nat) (d':D),d=dp ic∧1≤j∧j≤4∧s ic= .live a_h [[iD j]]∧ic≠id∧a_0 d'≠some ic∧JAt σ0 s id k0 k1 k2 k3 k4 k5 b c0 c1 c2 c3 c4 c d' (out ++ d_s c k (j - 1)),ctr,
   ⟨ia,1,d,rfl,by omega,by omega,hsb,hne,hda,by simpa[d_s] using h.ext' heb⟩,?_⟩
 rintro _ s ⟨ic,j,d1,rfl,hj1,hj4,hic,hne,hd1,h1⟩
 refine ⟨_,_,_,rfl,_,a_d hic,j,rfl,bcd (fun hlt=>?_) (fun hge=>⟨rfl,d1,by rw[show j - 1=3 by omega] at h1;exact h1⟩)⟩
 obtain ⟨j',rfl⟩ :∃j':Nat,j=j'+1:=⟨j - 1,by omega⟩
 rw[Nat.add_sub_cancel] at h1
 have hol:(out ++ d_s c k j').length≤2 ^ 30:=by rw[List.length_append];have:=o_4 c k j';omega
 have next : ∀ (s3 : Store) (d3 : D), JAt σ0 s3 id k0 k1 k2 k3 k4 k5 b c0 c1 c2 c3 c4 c d3 (out ++ d_s c k (j' + 1)) → s3 ic = .live a_h [[iD ((j' + 1 : Nat) : Int)]] →
     ∃s2:D,∃i2 off2:Nat,dp ic= .el s2 i2 off2∧∃row2:List D,Row s3 s2 i2 row2∧∃n2:Int,List.take 1 (List.drop off2 row2) =[iD n2]∧Fw.newObj s3 (.live a_h [[iD 0]]) fun id1 σ4=>a_j [iD n2] σ4 (.osl id1 0 1) 0 0 fun σ5=>∃row3:List D,Row σ5 (.osl id1 0 1) 0 row3∧∃n3:Int,List.take 1 row3=[iD n3]∧a_j [iD (w64 (n3+1))] σ5 (.osl id1 0 1) 0 0 fun σ6=>
       (∃(ic j:Nat) (d':D),D.el (.osl id1 0 1) 0 0=dp ic∧1≤j∧j≤4∧σ6 ic= .live a_h [[iD j]]∧ic≠id∧a_0 d'≠some ic∧JAt σ0 σ6 id k0 k1 k2 k3 k4 k5 b c0 c1 c2 c3 c4 c d' (out ++ d_s c k (j - 1)))∧ctr (.el (.osl id1 0 1) 0 0) σ6 < ctr (dp ic) s:=by
   intro s3 d3 h3 hc3
   refine ⟨_,_,_,rfl,_,a_d hc3,_,rfl,a_e fun i4 s4 hi4 _ he4 hs4=>n_c hs4 fun s5 hs5 hs5'=>⟨_,a_d hs5,_,rfl,n_c hs5 fun s6 hs6 hs6'=>?_⟩⟩
   have he6:Ext s3 s6:=fun i hi=>by
     have hne:i≠i4:=fun e=>hi (by rw[e];exact hi4)
     rw[hs6' i hne,hs5' i hne];exact he4 i hi
   rw[a_u (n:=((j'+1:Nat) :Int) +1) (by omega) (by omega)] at hs6
   have hs6:s6 i4= .live a_h [[iD ((j'+2:Nat) :Int)]]:=by rw[hs6];congr 3
   refine ⟨⟨i4,j'+2,d3,rfl,by omega,by omega,hs6,fun e=>?_,fun e=>?_,h3.ext' he6⟩,?_⟩
   · rw[e,h3.row] at hi4;cases hi4
   · cases d3 with
     | osl i a n=>
       have e1:i=i4:=by simpa[a_0] using e
       subst e1
       obtain ⟨t,rows,g1,_⟩:=h3.own.at_.rows
       rw[hi4] at g1;cases g1
     | _=>simp[a_0] at e
   · rw[a_v6 hs6,a_v6 hic];omega
 have note : ∀ (w : Bool) (si : Int), opt w ⟨6, -1, si⟩ = a_pz c k (j' + 1) → DCalls Tryz.prog a_s [.one (dp id), bA w, iA 6, iA (-1), iA si] s fun r s3 => r = .tup [] ∧
     ∃s2:D,∃i2 off2:Nat,dp ic= .el s2 i2 off2∧∃row2:List D,Row s3 s2 i2 row2∧∃n2:Int,List.take 1 (List.drop off2 row2) =[iD n2]∧Fw.newObj s3 (.live a_h [[iD 0]]) fun id1 σ4=>a_j [iD n2] σ4 (.osl id1 0 1) 0 0 fun σ5=>∃row3:List D,Row σ5 (.osl id1 0 1) 0 row3∧∃n3:Int,List.take 1 row3=[iD n3]∧a_j [iD (w64 (n3+1))] σ5 (.osl id1 0 1) 0 0 fun σ6=>
       (∃(ic j:Nat) (d':D),D.el (.osl id1 0 1) 0 0=dp ic∧1≤j∧j≤4∧σ6 ic= .live a_h [[iD j]]∧ic≠id∧a_0 d'≠some ic∧JAt σ0 σ6 id k0 k1 k2 k3 k4 k5 b c0 c1 c2 c3 c4 c d' (out ++ d_s c k (j - 1)))∧ctr (.el (.osl id1 0 1) 0 0) σ6 < ctr (dp ic) s:=by
   intro w si hw
   refine (c_t h1 hol w 6 (-1) si).mono ?_
   rintro r s4 ⟨rfl,d3,h3,hf,_⟩
   rw[hw,List.append_assoc] at h3
   exact ⟨rfl,next s4 d3 h3 ((hf ic (by rw[hic];intro e;cases e) hne hd1).trans hic)⟩
 have hls:c.lineSec ((j'+1:Nat) :Int) =e_q (fun x:Sec=>x.Line ==((j'+1:Nat) :Int)) c.Secs 0:=if_neg (by omega)
 have hlb:∀x:Ls,k.Lines[j'+1]? =some x→a_pz c k (j'+1) =opt (decide (0≤c.lineSec ((j'+1:Nat) :Int)) && (decide (x.Done > x.Ask) || (decide (x.Told > x.Grant) || ((a_m k (c.lineSec ((j'+1:Nat) :Int)) == -2) && (x.Ask != x.Done))))) ⟨6,-1,c.lineSec ((j'+1:Nat) :Int)⟩:=fun x hx=>by
   unfold a_pz;simp only[hx,Option.getD_some]
 have hk1:=hk.ext h1.own.ext
 refine ⟨trivial,_,_,_,rfl,_,a_d h1.row,c0,rfl,(i_1 (p:=fun x=>x.Line ==((j'+1:Nat) :Int)) (hc s).secs (a_el hic fun x _=>p_o x.Kind x.OC x.Line _ s _ ⟨_,_,_,rfl,_,a_d hic,_,rfl,rfl,rfl⟩)).use ⟨_,rfl,?_⟩⟩
 rw[←hls]
 obtain ⟨x,hx⟩:=a_i (l:=k.Lines) (j:=j'+1) (by omega)
 have hlb:=hlb x hx
 have hsb:=u_o c ((j'+1:Nat) :Int)
 generalize c.lineSec ((j'+1:Nat) :Int) =sec at hlb hsb ⊢
 refine bcd (fun e=>next s d1 (by rw[d_s,hlb,decide_eq_false (by omega),Bool.false_and];simpa[opt] using h1) hic) (fun e=>?_)
 rw[decide_eq_true (by omega),Bool.true_and] at hlb
 refine ⟨trivial,_,_,_,rfl,_,a_d h1.row,k4,rfl,_,_,_,rfl,_,a_d hic,_,rfl,hk1.lines.load (a_c hx) c_a rfl ⟨x.Ask,x.Done,x.Grant,x.Told,x.PAsk,x.PDone,x.PGrant,x.Since,rfl,?_⟩⟩
 refine bcd (fun t1=>note true sec (by rw[hlb,decide_eq_true t1];rfl)) (fun t1=>bcd (fun t2=>note true sec (by rw[hlb,decide_eq_true t2,Bool.true_or,Bool.or_true])) (fun t2=>?_))
 rw[decide_eq_false t1,decide_eq_false t2,Bool.false_or,Bool.false_or] at hlb
 obtain ⟨o,ho⟩:=a_i (l:=k.Own) (j:=sec.toNat) (by omega)
 rw[d_w (i:=sec) (j:=sec.toNat) (by omega) ho] at hlb
 refine ⟨trivial,_,_,_,rfl,_,a_d h1.row,k0,rfl,hk1.own.load (a_c ho) c_int (by omega) ⟨o,rfl,bce (fun t3=>note _ sec (by rw[hlb,show (o == -2) =true by simpa using t3,Bool.true_and])) (fun t3=>note _ sec (by rw[hlb,show (o == -2) =false by simpa using t3,Bool.false_and]))⟩⟩
theorem a_e8 (hk:CoAt σ k0 k1 k2 k3 k4 k5 k)(hb:b=k.Dirty) :
   DCalls Tryz.prog g_m [cfA c0 c1 c2 c3 c4 c,coA k0 k1 k2 k3 k4 k5 b] σ fun r s=>∃d,r= .a (.one d)∧Own Tryz.prog σ s i_6 d ((k.judge c).map Br.enc):=by
 subst hb
 refine a_i7 _ _ _ _ _ _ _ _ _ k0 k1 k2 k3 k4 k5 k.Dirty σ _ (a_e fun id s1 hid _ he1 hs1=>?_)
 have h1:JAt σ s1 id k0 k1 k2 k3 k4 k5 k.Dirty c0 c1 c2 c3 c4 c .nils []:=⟨hid,hs1, .nil _ he1,fun e=>by cases e⟩
 refine (e_9 hc (hk.ext he1)).use ⟨_,rfl,a_q (fun e=>?_) (fun hfit=>?_)⟩
 · refine (c_t h1 (by simp) true 1 (-1) (-1)).mono ?_
   rintro r s2 ⟨rfl,d2,h2,_⟩
   refine ⟨rfl,_,a_d h2.row,d2,rfl,d2,rfl,?_⟩
   rw[Co.judge,if_neg (by rw[e];simp)];exact h2.own
 have hck:=k_x hfit
 obtain ⟨lo,lp,lr,lt,lx,ll⟩:=i_s hfit
 obtain ⟨_,z1,z2,z3,_,_⟩:=a_y hck
 have b1:=a_bm k c.Rts 0 (fun x hx=>(b_k hck hx).len.2)
 have b2:=a_jv k k.Own 0
 have b3:=u_n c k c.Rts 0 (fun x hx=>by have:=b_k hck hx;have:=s_t c x;have:=(b_k hck hx).len;have:=(b_k hck hx).flen;omega)
 have b4:=x_o c k c.Rts 0 z3
 have hJ:k.judge c=((c_c k c.Rts 0 ++ e_f k k.Own 0) ++ a_2 c k c.Rts 0) ++ b_e c k c.Rts 0 ++ d_s c k 3:=by rw[Co.judge,if_pos hfit]
 refine a_e fun id2 s2 hid2 _ he2 hs2=>?_
 have h2:=h1.ext' he2
 have hne2:id2≠id:=fun e=>by rw[e,hs1] at hid2;cases hid2
 obtain ⟨τ,hτ⟩ :∃τ,τ=s2.set id .free:=⟨_,rfl⟩
 have t0:τ id= .free:=by rw[hτ,Store.set_same]
 have t1:∀i,i≠id→τ i=s2 i:=fun i hi=>by rw[hτ,Store.set_ne _ _ hi]
 have e0:Ext σ τ:=fun i hi=>by
   rw[t1 i (fun e=>hi (by rw[e];exact hid)),he2 i (by rw[he1 i hi];exact hi),he1 i hi]
 have e1:Ext τ s2:=fun i hi=>(t1 i (fun e=>hi (by rw[e];exact t0))).symm
 have hk':=hk.ext e0
 have hJ2:JAt τ s2 id k0 k1 k2 k3 k4 k5 k.Dirty c0 c1 c2 c3 c4 c .nils []:=⟨t0,h2.row, .nil _ e1,fun e=>by cases e⟩
 have hfn:∀s,Ext τ s→s id2=s2 id2:=fun s he=>by rw[he id2 (by rw[t1 id2 hne2,hs2];intro e;cases e),t1 id2 hne2]
 generalize hp:([c_c k c.Rts 0 ++ e_f k k.Own 0,a_2 c k c.Rts 0,b_e c k c.Rts 0,d_s c k 3]:List (List Br)) =parts
 have hpf:parts.flatten=k.judge c:=by rw[hJ,←hp];simp
 refine (At.fresh hs2 (by simp) rfl:At Tryz.prog s2 _ (.osl id2 0 4) _).lenK ?_
 refine ⟨fun n s=>∃(j:Nat) (d':D),n=j∧j≤4∧JAt τ s id k0 k1 k2 k3 k4 k5 k.Dirty c0 c1 c2 c3 c4 c d' (parts.take j).flatten,fun n _=>4 - n.toNat,⟨0, .nils,rfl,by omega,hJ2⟩,?_⟩
 rintro _ s ⟨j,d1,rfl,hj4,h3⟩
 refine bcd (fun hlt=>?_) (fun hge=>?_)
 · have hlt:j < 4:=by simp at hlt;omega
   have hat:=At.fresh (P:=Tryz.prog) ((hfn s h3.own.ext).trans hs2) (by simp) (n:=4) rfl
   have step : ∀ (r : RV) (s4 : Store) (p : List Br), parts[j]? = some p → (r = .tup [] ∧ ∃ d', JAt τ s4 id k0 k1 k2 k3 k4 k5 k.Dirty c0 c1 c2 c3 c4 c d' ((parts.take j).flatten ++ p)) →
       r= .tup []∧(∃(j':Nat) (d':D),w64 ((j:Int) +1) =j'∧j'≤4∧JAt τ s4 id k0 k1 k2 k3 k4 k5 k.Dirty c0 c1 c2 c3 c4 c d' (parts.take j').flatten)∧4 - (w64 ((j:Int) +1)).toNat < 4 - (j:Int).toNat:=by
     rintro r s4 p hpj ⟨rfl,d',h4⟩
     rw[a_o (by omega)]
     refine ⟨rfl,⟨j+1,d',rfl,by omega,?_⟩,by omega⟩
     rw[List.take_add_one,hpj]
     simpa using h4
   have hlen:(parts.flatten).length≤2 ^ 20:=by
     rw[hpf,hJ]
     simp only[List.length_append] at *
     have:=o_4 c k 3
     omega
   have:j=0∨j=1∨j=2∨j=3:=by omega
   rcases this with rfl | rfl | rfl | rfl
   · refine hat.load (j:=0) rfl (by kernel_rfl) rfl ⟨_,rfl,d_2,_,_,[.one (dp id)],[],rfl,rfl,rfl,(a_c6 hc hk' hfit h3 ?_).mono fun r s4 h4=>step r s4 _ (by rw[←hp];rfl) h4⟩
     rw[hpf,hJ] at hlen;simp only[List.length_append,List.take_zero,List.flatten_nil,List.length_nil] at hlen ⊢;omega
   · refine hat.load (j:=1) rfl (by kernel_rfl) rfl ⟨_,rfl,d_z,_,_,[.one (dp id)],[],rfl,rfl,rfl,(a_dm hc hk' hfit h3 ?_).mono fun r s4 h4=>step r s4 _ (by rw[←hp];rfl) h4⟩
     rw[hpf,hJ] at hlen;rw[←hp];simp only[List.length_append,List.take_succ_cons,List.take_zero,List.flatten_cons,List.flatten_nil,List.length_nil] at hlen ⊢;omega
   · refine hat.load (j:=2) rfl (by kernel_rfl) rfl ⟨_,rfl,e_e,_,_,[.one (dp id)],[],rfl,rfl,rfl,(a_f6 hc hk' hfit h3 ?_).mono fun r s4 h4=>step r s4 _ (by rw[←hp];rfl) h4⟩
     rw[hpf,hJ] at hlen;rw[←hp];simp only[List.length_append,List.take_succ_cons,List.take_zero,List.flatten_cons,List.flatten_nil,List.length_nil] at hlen ⊢;omega
   · refine hat.load (j:=3) rfl (by kernel_rfl) rfl ⟨_,rfl,e_d,_,_,[.one (dp id)],[],rfl,rfl,rfl,(a_f7 hc hk' hfit h3 ?_).mono fun r s4 h4=>step r s4 _ (by rw[←hp];rfl) h4⟩
     rw[hpf,hJ] at hlen;rw[←hp];simp only[List.length_append,List.take_succ_cons,List.take_zero,List.flatten_cons,List.flatten_nil,List.length_nil] at hlen ⊢;omega
 · have hj:j=4:=by simp at hge;omega
   subst hj
   refine ⟨_,a_d h3.row,d1,rfl,d1,rfl,?_⟩
   rw[←hpf]
   have:=h3.own.from e0
   rw[show parts.take 4=parts by rw[←hp];rfl] at this
   exact this
end
end
section
variable {σ:Store}
theorem a_yb (l:List Br) :∀row ∈ l.map Br.enc,∀x ∈ row,Flat x:=
 h_h Br.enc (fun r d hd=>by simp[Br.enc] at hd;rcases hd with rfl | rfl | rfl <;> exact .int _ _) l
section
variable {c0 c1 c2 c3 c4:D} {c:Cf} {k0 k1 k2 k3 k4 k5:D} {k:Co} {b:Bool}
 (hc:∀s,CfAt s c0 c1 c2 c3 c4 c) (hk:∀s,CoAt s k0 k1 k2 k3 k4 k5 k) (hfit:k.fits c=true)
include hc hk hfit
end
theorem a_h1 {a b:D}{la lb:List Br}(ha:At Tryz.prog σ i_6 a (la.map Br.enc))(hb:At Tryz.prog σ i_6 b (lb.map Br.enc)) :Pure Tryz.prog o_w [.one a, .one b] σ (.a (bA (decide (la=lb)))):=by
 have hs:=ha.size
 rw[List.length_map] at hs
 refine a_k0 a b σ _ (ha.lenK (hb.lenK ?_))
 rw[List.length_map,List.length_map]
 refine bcn (fun hne=>⟨?_,rfl⟩) (fun he=>ha.lenK ?_)
 · rw[decide_eq_false (fun e=>hne (by rw[e]))]
 have hl:la.length=lb.length:=by omega
 rw[List.length_map]
 refine ⟨fun n s=>s=σ∧EqR la lb n,fun n _=>la.length - n.toNat,⟨rfl, .start _ _⟩,?_⟩
 rintro n s ⟨rfl,hr⟩
 refine bcd (fun hlt=>?_) (fun hge=>⟨?_,rfl⟩)
 · obtain ⟨j,x,y,rfl,hx,hy,hn,hy2⟩:=hr.step hl rfl hs hlt
   refine ha.load (a_c hx) a_fq rfl ⟨x.Kind,x.Route,x.Sec,rfl,hb.load (a_c hy) a_fq rfl ⟨y.Kind,y.Route,y.Sec,rfl,a_q (fun e=>⟨?_,rfl⟩) (fun e=>c_0 rfl (hy2 ?_))⟩⟩
   · rw[decide_eq_false (hn fun g=>by rw[g] at e;simp at e)]
   · simp at e;cases x;cases y;simp at e;simp[e]
 · rw[decide_eq_true (hr.done hl rfl hge)]
section
variable {c0 c1 c2 c3 c4:D} {c:Cf} {k0 k1 k2 k3 k4 k5:D} {k:Co}
 (hc:∀s,CfAt s c0 c1 c2 c3 c4 c) (hk:∀s,CoAt s k0 k1 k2 k3 k4 k5 k)
include hc hk
theorem a_gn {m0 m1 m2 m3 m4 m5:D}{m:Co}(hm:∀s,CoAt s m0 m1 m2 m3 m4 m5 m)(b b':Bool) :
   DCalls Tryz.prog m_2 [cfA c0 c1 c2 c3 c4 c,coA k0 k1 k2 k3 k4 k5 b,coA m0 m1 m2 m3 m4 m5 b'] σ (d_b σ a_h ((k.worse c m).map Go.Fw.encI)):=by
 refine (a_i4 _ _ _ _ _ _ _ _ _ k0 k1 k2 k3 k4 k5 b m0 m1 m2 m3 m4 m5 b' σ _ ?_).ret (Q:=fun r' s=>∃r'' σ',Ret Tryz.prog σ s r' σ' r''∧d_b σ a_h ((k.worse c m).map Go.Fw.encI) r'' σ') (fun r s h=>h)
 intro R hR
 have nil:¬(k.fits c=true∧m.fits c=true)→∃r'' σ',Ret Tryz.prog σ σ (.a (.one .nils)) σ' r''∧d_b σ a_h ((k.worse c m).map Go.Fw.encI) r'' σ':=fun e=>by rw[Co.worse,if_neg e];exact f_i (.nil _ (.refl _)) (u_w _)
 refine (u_3 hc (hk σ) b).use ⟨_,rfl,a_q (fun e=>nil (by rw[e];simp)) (fun e1=>(u_3 hc (hm σ) b').use ⟨_,rfl,a_q (fun e=>nil (by rw[e];simp)) (fun e2=>hR σ ?_)⟩)⟩
 rw[Co.worse,if_pos ⟨e1,e2⟩]
 have f1:=i_s e1
 have f2:=i_s e2
 have hsm:=(a_y (k_x e1)).2.1
 have lz:(k.Own.zip m.Own).length=k.Own.length:=by rw[List.length_zip];omega
 refine (hk σ).own.lenK ⟨fun d n s=>∃out:List Int,Own Tryz.prog σ s a_h d (out.map Go.Fw.encI)∧(out.length:Int)≤n∧Rng (k.Own.zip m.Own) (fun r=>out ++ e_w r n.toNat=e_w (k.Own.zip m.Own) 0) n,fun _ n _=>(k.Own.zip m.Own).length - n.toNat,
   ⟨[], .nil _ (.refl _),by simp, .start rfl⟩,?_⟩
 rintro d n s ⟨out,ho,hol,hr⟩
 refine bcd (fun hlt=>?_) (fun hge=>?_)
 · obtain ⟨j,x,rfl,hx,hj,hF,nx⟩:=hr.step (by rw[List.length_map,lz]) (by omega) hlt
   obtain ⟨g1,g2⟩:=List.getElem?_zip_eq_some.1 hx
   have hw:w64 ((j:Int) +1) =((j+1:Nat) :Int):=a_o (by omega)
   rw[Int.toNat_natCast,e_w] at hF
   have go : ∀ out2 d2 s2, out2 ++ e_w ((k.Own.zip m.Own).drop (j + 1)) (j + 1) = e_w (k.Own.zip m.Own) 0 → Own Tryz.prog σ s2 a_h d2 (out2.map Go.Fw.encI) → out2.length ≤ j + 1 → (∃ out : List Int, Own Tryz.prog σ s2 a_h d2 (out.map Go.Fw.encI) ∧ (out.length : Int) ≤ w64 ((j : Int) + 1) ∧ Rng (k.Own.zip m.Own) (fun r => out ++ e_w r (w64 ((j : Int) + 1)).toNat = e_w (k.Own.zip m.Own) 0) (w64 ((j : Int) + 1))) ∧
       (k.Own.zip m.Own).length - (w64 ((j:Int) +1)).toNat < (k.Own.zip m.Own).length - (j:Int).toNat:=fun out2 d2 s2 he ho2 hl=>by
     have:=nx (fun r=>out2 ++ e_w r (w64 ((j:Int) +1)).toNat=e_w (k.Own.zip m.Own) 0) (by rw[hw,Int.toNat_natCast];exact he)
     exact ⟨⟨out2,ho2,by rw[hw];omega,this.1⟩,this.2⟩
   have no:¬(x.1≠x.2∧x.1≠0∧x.2≠0)→_:=fun hn=>go out d s (by rw[if_neg hn] at hF;exact hF) ho (by omega)
   refine (hk s).own.load (a_c g1) c_int rfl ⟨x.1,rfl,(hm s).own.load (a_c g2) c_int rfl ⟨x.2,rfl,bcn (fun t1=>(hk s).own.load (a_c g1) c_int rfl ⟨x.1,rfl,bcn (fun t2=>(hm s).own.load (a_c g2) c_int rfl ⟨x.2,rfl,bcn (fun t3=>?_) (fun t=>no (fun g=>g.2.2 t))⟩) (fun t=>no (fun g=>g.2.1 t))⟩) (fun t=>no (fun g=>g.1 t))⟩⟩
   rw[if_pos ⟨t1,t2,t3⟩] at hF
   exact a_e fun id1 s4 hid1 _ he4 hs4=>(ho.ext' he4).append (At.fresh hs4 (by simp) rfl) (by simp;omega) (by simp;omega) fun d4 s5 ho5 _ _=>go (out ++ [(j:Int)]) _ _ (by rw[List.append_assoc];exact hF) (by rw[List.map_append];exact ho5) (by simp;omega)
 · have hF:=hr.done (by rw[List.length_map,lz]) hge
   rw[e_w,List.append_nil] at hF
   rw[←hF]
   exact f_i ho (u_w _)
end
end
section
variable {σ:Store}
def a_xc (f:FuncId)(xs:List A) :Prop:=DCalls Tryz.prog f xs noS fun r _=>r= .a (.one (.bool true))
end
section
variable {σ:Store}
def endK (o:Int)(x:Ls)(b:Bool) :Co:=⟨[o,0],[⟨0,0,0,0⟩],[⟨0,0⟩,⟨0,0⟩],[],[zLs,x,zLs,zLs],[0,0],b⟩
def l_z (occ stamp now:Int)(o:Int)(x:Ls)(b:Bool) :Co:=
 let m:=decide (x.PAsk > (if x.PDone > x.Grant then x.PDone else x.Grant)) && decide (x.Ask=x.Done)
 let k' : Co := if o = -2 then
     if x.PDone < x.Grant then endK o { x with Since:=0 } b
     else if x.Since=0 then endK o { x with Since:=w64 (now+1) } b
     else if occ=0∧x.Since≤stamp then endK 0 { x with Since:=0 } true
     else endK o x b
   else if o=0∧m=true then endK (-2) { x with Grant:=x.PAsk,Since:=0 } true
   else endK o x b
 if b=true then k' else { k' with Lines:=k'.Lines.set 1 { (k'.Lines[1]?).getD zLs with Told:=x.Grant } }
end
section
variable {σ:Store}
def CoPostK (σ:Store)(p:Co × Int)(r:RV)(s:Store) :Prop:=CoPost σ p r s∨(s=σ∧∃d0 d1 d2 d3 d4 d5,r= .tup [coA d0 d1 d2 d3 d4 d5 p.1.Dirty,iA p.2]∧CoFz d0 d1 d2 d3 d4 d5 p.1)
theorem flat_co:(∀n:Int,∀d ∈ Go.Fw.encI n,Flat d)∧(∀r:Rs,∀d ∈ r.enc,Flat d)∧(∀r:Mv,∀d ∈ r.enc,Flat d)∧∀r:Ls,∀d ∈ r.enc,Flat d:=
 ⟨fun n d hd=>by simp[Go.Fw.encI] at hd;subst hd;exact .int _ _,fun r d hd=>by simp[Rs.enc] at hd;rcases hd with rfl | rfl | rfl | rfl <;> exact .int _ _,
   fun r d hd=>by simp[Mv.enc] at hd;rcases hd with rfl | rfl <;> exact .int _ _,
   fun r d hd=>by simp[Ls.enc] at hd;rcases hd with rfl | rfl | rfl | rfl | rfl | rfl | rfl | rfl <;> exact .int _ _⟩
section
variable {c0 c1 c2 c3 c4 k0 k1 k2 k3 k4 k5 v0 v1 v2 v3:D} {c:Cf} {k:Co} {v:Vw}
end
end
section
variable {σ:Store}
theorem CoOwn.ext' {σ0 s s':Store}{d0 d1 d2 d3 d4 d5:D}{k:Co}(h:CoOwn σ0 s d0 d1 d2 d3 d4 d5 k)(he:Ext s s') :CoOwn σ0 s' d0 d1 d2 d3 d4 d5 k:=
 ⟨h.own.ext' he,h.routes.ext' he,h.points.ext' he,h.xs.ext' he,h.lines.ext' he,h.resets.ext' he,h.apart⟩
end
section
variable {σ:Store}
def litC:Cf:=⟨[⟨0,0,0⟩,⟨0,0,0⟩],[⟨0,1,1,0⟩],[⟨0,1⟩],[],[⟨0,-1,[⟨1,0,1⟩],[],[],false⟩],2,1,4,1000⟩
theorem a_rw (s:Store) :CfAt s (.sl 3 [[iD 0,iD 0,iD 0],[iD 0,iD 0,iD 0]]) (.sl 4 [[iD 0,iD 1,iD 1,iD 0]]) (.sl 2 [[iD 0,iD 1]]) .nils (.sl 6 [[iD 0,iD (-1), .sl 3 [[iD 1,iD 0,iD 1]], .nils, .nils, .bool false]]) litC:=
 ⟨a_ai b_z (by simp),a_ai s_q (by simp),a_ai f_t (by simp), .nil,⟨_,a_ai c_l (by simp),rfl,fun i row r h1 h2=>by
   have hi:i=0:=by have:=(List.getElem?_eq_some_iff.1 h1).1;simp at this;exact this
   subst hi
   simp at h1;subst h1
   simp[litC] at h2;subst h2
   exact ⟨_,_,_,rfl,a_ai i_l (by simp), .nil, .nil⟩⟩⟩
theorem u_k {c0 c1 c2 c3 c4:D}{c:Cf}{k0 k1 k2 k3 k4 k5:D}{k:Co}(hc:∀s,CfAt s c0 c1 c2 c3 c4 c)(hk:CoAt σ k0 k1 k2 k3 k4 k5 k) :
   DCalls Tryz.prog g_m [cfA c0 c1 c2 c3 c4 c,coA k0 k1 k2 k3 k4 k5 k.Dirty] σ (d_b σ i_6 ((k.judge c).map Br.enc)):=by
 refine (a_e8 hc hk rfl).ret ?_
 rintro r s ⟨d,rfl,ho⟩
 exact f_i ho (a_yb _)
theorem a_t2:Co.judge litC (b_j litC 0) =[]:=by decide +kernel
theorem a_tc:Co.judge litC { b_j litC 0 with Own:= [-1,1] } =[⟨3,0,1⟩]:=by decide +kernel
theorem law22_lives_ok:Pure Tryz.prog m_y [] σ (.a (bA true)):=by
 refine .of (a_ii σ _ ((o_3 a_rw 0 (by decide) (by decide) (by decide)).mono ?_)) (k_o _)
 rintro r s ⟨k0,k1,k2,k3,k4,k5,rfl,hk⟩
 refine ⟨_,_,_,_,_,_,_,rfl,hk.own.at_.lenK (bcn (fun e=>absurd rfl e) (fun _=>(u_k a_rw hk.at).mono ?_))⟩
 rintro r s1 ⟨rfl,d,rfl,hd⟩
 rw[a_t2] at hd
 refine ⟨_,rfl,(hd s1).lenK (bcn (fun e=>absurd rfl e) (fun _=>hk.own.at_.idxK (j:=1) c_int rfl (by decide) (hk.putO (j:=1) (x:= -1) (y:=1) rfl rfl (by simp) rfl fun s2 hk2 _=>?_)))⟩
 refine (u_k (k:= { b_j litC 0 with Own:= [-1,1] }) a_rw hk2.at).mono ?_
 rintro r s3 ⟨rfl,d2,rfl,hd2⟩
 rw[a_tc] at hd2
 refine ⟨_,rfl,(a_h1 (lb:= [⟨3,0,1⟩]) (hd2 _) (a_ai a_fq (by simp))).use ⟨_,rfl,?_,hk2.own.ext⟩⟩
 rw[decide_eq_true rfl]
end
end Go.Proofs.YtdmfnhbmhkgemaaGreat
namespace Go.Fw
open Go.Shelf Go.Sort Go.Proofs
section
variable {P:Program} {ρ:Ren} {σ:Store}
def i_j (z:Int) :List D:= [.int .i64 z]
def l_f (l:List Int) :List Int:=l.mergeSort fun x y=>decide (x≤y)
theorem a_jq {k:Nat→Prop}{β:Bk}{W:World}(hS:SRel P k β W σ){id i0:Nat}{t:TypeId}{rows:List (List D)}{ys:List Int}{bi:BI}(ht:P.cellsOf t=1)(hl:σ id= .live t rows)(hb:β id=some bi)
   (hfit:i0+ys.length≤rows.length) (n:Nat) (os:Array Obj) :
   SRel P k β (grow (putRow (Value.int .i64) (Sort.ahead W n) bi.blk (i0 * bi.es) ys.toArray) os) (σ.set id (.live t (rows.take i0 ++ ys.map i_j ++ rows.drop (i0+ys.length))))∧
   Ghost k β σ W k β (σ.set id (.live t (rows.take i0 ++ ys.map i_j ++ rows.drop (i0+ys.length))))∧
   Frm β σ W (grow (putRow (Value.int .i64) (Sort.ahead W n) bi.blk (i0 * bi.es) ys.toArray) os):=by
 obtain ⟨arr,g1,g2,g3,g4,g5,g6,g7⟩:=hS.obj id bi t rows hb hl
 have hes:bi.es=1:=by rw[←g3,ht]
 have hsz2:i0+ys.length≤arr.size:=by rw[hes] at g4;omega
 have hov:=hS.over hb hl g1 (ns:=ys.map i_j) (vx:=ys.map (Value.int .i64)) i0 (by omega) (by omega) (by simp[hes])
   (by
     have e:∀l:List Int,((l.map i_j).flatten) =l.map (D.int .i64):=by
       intro l;induction l with
       | nil=>rfl
       | cons x r ih=>simp only[List.map_cons,List.flatten_cons,ih];rfl
     rw[e]
     refine ⟨by simp,fun i v d hv hd=>?_⟩
     rw[List.getElem?_map] at hv hd
     cases hx:ys[i]? with
     | none=>rw[hx] at hv;cases hv
     | some x=>rw[hx] at hv hd;cases hv;cases hd;exact .int _ _)
   (by
     intro i r hr
     rw[List.getElem?_map] at hr
     cases hx:ys[i]? with
     | none=>rw[hx] at hr;cases hr
     | some x=>rw[hx] at hr;cases hr;rw[hes];rfl)
   (by simp only[hes,List.length_map];omega)
 have hrl:(ys.map i_j).length=ys.length:=by rw[List.length_map]
 rw[hrl] at hov
 have hG : Grow (W.setRow bi.blk (arr.toList.take (i0 * bi.es) ++ ys.map (Value.int .i64) ++ arr.toList.drop (i0 * bi.es + (ys.map (Value.int .i64)).length)).toArray)
     (grow (putRow (Value.int .i64) (Sort.ahead W n) bi.blk (i0 * bi.es) ys.toArray) os):=by
   refine ⟨rfl,rfl,rfl,by rw[setRow_size];simp,fun b hb=>?_⟩
   rw[setRow_size] at hb
   rw[heap_grow_old _ _ (by simpa using hb)]
   by_cases he:b=bi.blk
   · subst he
     rw[setRow_heap _ _ _ _ _ _ g1]
     simp only[putRow,mapBlock,heap_ahead,Array.getElem?_modify,if_true,g1,Option.map_some,onCells]
     congr 2
     apply Array.ext_getElem?
     intro m
     simp only[putCells,Array.getElem?_mapIdx,List.getElem?_toArray,hes,Nat.mul_one,List.length_map,List.size_toArray]
     by_cases c1:m < i0
     · rw[List.getElem?_append_left (by simp;omega),List.getElem?_append_left (by simp;omega),List.getElem?_take,if_pos c1,Array.getElem?_toList,Array.getElem?_eq_getElem (by omega),Option.map_some,if_neg (by omega)]
     · by_cases c2:m < i0+ys.length
       · rw[List.getElem?_append_left (by simp;omega),List.getElem?_append_right (by simp;omega),Array.getElem?_eq_getElem (by omega),Option.map_some,if_pos ⟨by omega,by omega⟩]
         have hl1:(arr.toList.take i0).length=i0:=by simp;omega
         have hk:m - i0 < ys.length:=by omega
         rw[hl1,List.getElem?_map,List.getElem?_eq_getElem hk]
         simp[hk]
       · rw[List.getElem?_append_right (by simp;omega),List.getElem?_drop,Array.getElem?_toList]
         have hl1:i0+ys.length+ (m - (arr.toList.take i0 ++ ys.map (Value.int .i64)).length) =m:=by simp;omega
         rw[hl1]
         cases arr[m]? with
         | none=>rfl
         | some y=>rw[Option.map_some,if_neg (by omega)]
   · rw[a_9 _ _ _ _ he]
     simp only[putRow,mapBlock,heap_ahead,Array.getElem?_modify]
     rw[if_neg (fun e=>he e.symm)]
 have hne:σ id≠ .dead:=by rw[hl];intro e;cases e
 refine ⟨hov.grow hG,⟨fun _ h=>h,fun _ h=> .inl h,fun _ _ h=>h,fun _ _ h=> .inl h,fun i hi=>?_⟩,?_⟩
 · rw[Store.set_ne _ _ (by intro e;subst e;exact hne hi)];exact hi
 · refine ⟨hG.os,hG.tape,hG.output,by have:=hG.size;rwa [setRow_size] at this,fun b hb' hn=>?_⟩
   rw[hG.block b (by rw[setRow_size];exact hb'),a_9 _ _ _ _ (fun e=>hn id bi hb hne e.symm)]
theorem a_j4 {k:Nat→Prop}{β:Bk}{W:World}(hS:SRel P k β W σ){id i0:Nat}{t:TypeId}{rows:List (List D)}{zs:List Int}{bi:BI}(ht:P.cellsOf t=1)(hl:σ id= .live t rows)(hb:β id=some bi)
   (hrows:(rows.drop i0).take zs.length=zs.map i_j) :Holds (Value.int .i64) W bi.blk (i0 * bi.es) zs.toArray:=by
 obtain ⟨arr,g1,g2,g3,g4,g5,g6,g7⟩:=hS.obj id bi t rows hb hl
 have hes:bi.es=1:=by rw[←g3,ht]
 have hget:∀j,j < zs.length→arr[i0+j]? =some (Value.int .i64 (zs.getD j 0)):=by
   intro j hj
   have h1:((rows.drop i0).take zs.length)[j]? =some (i_j (zs.getD j 0)):=by rw[hrows];simp[hj]
   rw[List.getElem?_take_of_lt hj,List.getElem?_drop] at h1
   obtain ⟨u,hu,hVu⟩:=g7 _ _ 0 (.int .i64 (zs.getD j 0)) h1 rfl
   rw[hes,Nat.mul_one,Nat.add_zero] at hu
   rw[hu];cases hVu;rfl
 intro j hj
 have hj:j < zs.length:=by simpa using hj
 refine ⟨?_,by simp[World.frozen?,g1]⟩
 have:=hget j hj
 simp only[World.cell?,g1,hes,Nat.mul_one,Option.isSome_none,Bool.false_eq_true,if_false]
 rw[this]
 simp[hj]
theorem a_sp {k:Nat→Prop}{β:Bk}{W:World}{x:A}{vs:Array Value}(hvs:vs.size=[x].length)(hargs:∀(i:Nat) v y,vs[i]? =some v→[x][i]? =some y→VA k β W v y) :∃v,vs= #[v]∧VA k β W v x:=by
 have hvs:vs.size=1:=hvs
 obtain ⟨l⟩:=vs
 match l,hvs with
 | [v],_=>exact ⟨v,rfl,hargs 0 v x rfl rfl⟩
theorem a_p0 (Ly:Lays.n189 P ρ){id i0:Nat}{t:TypeId}{rows:List (List D)}{zs:List Int}(ht:P.cellsOf t=1)(hl:σ id= .live t rows)
   (hfit:i0+zs.length≤rows.length) (hrows:(rows.drop i0).take zs.length=zs.map i_j) (h0:0 < zs.length) (hsz:zs.length < 4611686018427387904) :
   DCalls P (ρ.f 189) [.one (.osl id i0 zs.length)] σ fun r σ'=>r= .tup []∧σ'=σ.set id (.live t (rows.take i0 ++ (l_f zs).map i_j ++ rows.drop (i0+zs.length))):=by
 refine ⟨by unfold w_c;rw[Ly.f189];rfl,fun k β W vs hS hvs hargs=>?_⟩
 obtain ⟨v,rfl,hV⟩:=a_sp hvs hargs
 have hV:V k β W v (.osl id i0 zs.length):=hV
 cases hV with
 | osl _ _ _ cap a bi hb ha hc hs=>
   have ha:=ha (by omega)
   subst ha
   refine (calls_of_every_depth fun D=>Go.Proofs.AnyS.slices_Sort_int_in Ly D bi.blk (i0 * bi.es) cap zs W (a_j4 hS ht hl hb hrows) (hS.blt id bi hb) hsz).mono ?_
   rintro e W' ⟨rfl,n,os,rfl⟩
   have hlen:(l_f zs).length=zs.length:=by simp[l_f]
   obtain ⟨h1,h2,h3⟩:=a_jq hS (i0:=i0) (ys:=l_f zs) ht hl hb (by omega) n os
   rw[hlen] at h1 h2
   exact ⟨.tuple #[], .tup [],_,k,β,rfl,⟨rfl,rfl⟩,⟨#[],rfl,rfl,fun i u x hu=>by simp at hu⟩,h1,h2,h3⟩
theorem a_fx (Ly:Lays2.n20 P ρ){id i0:Nat}{t:TypeId}{rows:List (List D)}{zs:List Int}(ht:P.cellsOf t=1)(hl:σ id= .live t rows)
   (hfit:i0+zs.length≤rows.length) (hrows:(rows.drop i0).take zs.length=zs.map i_j) (h0:0 < zs.length) (hsz:zs.length < 4611686018427387904) :
   DCalls P (ρ.f 20) [.one (.osl id i0 zs.length)] σ fun r σ'=>r= .a (.one (.osl id i0 (Lib.compact zs).length))∧
     σ'=σ.set id (.live t (rows.take i0 ++ (Lib.compact zs ++ List.replicate (zs.length - (Lib.compact zs).length) 0).map i_j ++ rows.drop (i0+zs.length))):=by
 refine ⟨by unfold w_c;rw[Ly.f20];rfl,fun k β W vs hS hvs hargs=>?_⟩
 obtain ⟨v,rfl,hV⟩:=a_sp hvs hargs
 have hV:V k β W v (.osl id i0 zs.length):=hV
 cases hV with
 | osl _ _ _ cap a bi hb ha hc hs=>
   have ha:=ha (by omega)
   subst ha
   refine (Go.Proofs.Any.slices_Compact_int Ly bi.blk (i0 * bi.es) cap zs W (a_j4 hS ht hl hb hrows) (by omega) hc).mono ?_
   rintro e W' ⟨rfl,n,rfl⟩
   have hle:(Lib.compact zs).length≤zs.length:=by
     unfold Lib.compact Lib.compactUpTo
     rw[List.length_map]
     exact Nat.le_trans (List.length_filter_le _ _) (by simp)
   have hlen:(Lib.compact zs ++ List.replicate (zs.length - (Lib.compact zs).length) 0).length=zs.length:=by simp;omega
   obtain ⟨h1,h2,h3⟩:=a_jq hS (i0:=i0) (ys:=Lib.compact zs ++ List.replicate (zs.length - (Lib.compact zs).length) 0) ht hl hb (by omega) n #[]
   rw[hlen] at h1 h2
   rw[grow_empty] at h1 h3
   exact ⟨_, .a (.one (.osl id i0 (Lib.compact zs).length)),_,k,β,rfl,⟨rfl,rfl⟩, .osl id i0 _ cap _ bi hb (fun _=>rfl) (by omega) hs,h1,h2,h3⟩
theorem a_pf (l:List Int) :(l_f l).Perm l:=List.mergeSort_perm _ _
theorem a_pu (l:List Int) :(l_f l).Pairwise (·≤·):=by
 have:=List.pairwise_mergeSort (le:=fun x y:Int=>decide (x≤y)) (by intro a b c;simp;omega) (by intro a b;simp;omega) l
 exact this.imp fun h=>by simpa using h
theorem a_n4 {zs:List Int}{z:Int} :z ∈ Lib.compact zs↔z ∈ zs:=by
 unfold Lib.compact Lib.compactUpTo
 rw[List.mem_map]
 constructor
 · rintro ⟨j,hj,rfl⟩
   have hj:=List.mem_range.1 (List.mem_filter.1 hj).1
   simp[hj]
 · intro hz
   obtain ⟨j,hj,e⟩:=List.getElem_of_mem hz
   have key:∀j,(hj:j < zs.length)→zs[j]=z→∃a,a ∈ List.filter (Lib.keeps zs.toArray) (List.range zs.length)∧zs.toArray[a]! =z:=by
     intro j
     induction j with
     | zero=>exact fun hj e=>⟨0,List.mem_filter.2 ⟨List.mem_range.2 hj,by simp[Lib.keeps]⟩,by simp[hj,e]⟩
     | succ j ih=>
       intro hj e
       by_cases h:zs[j]'(by omega) =z
       · exact ih (by omega) h
       · refine ⟨j+1,List.mem_filter.2 ⟨List.mem_range.2 hj,Lib.keeps_pos ?_⟩,by simp[hj,e]⟩
         simp only[Nat.add_sub_cancel]
         have:j < zs.length:=by omega
         simp only[List.getElem!_toArray,hj,this,getElem!_pos,e]
         exact fun h'=>h h'.symm
   exact key j hj e
theorem a_gz {zs:List Int}(h:zs.Pairwise (·≤·)) :(Lib.compact zs).Pairwise (· < ·):=by
 unfold Lib.compact Lib.compactUpTo
 rw[List.pairwise_map]
 have hr:(List.filter (Lib.keeps zs.toArray) (List.range zs.length)).Pairwise (· < ·):=List.Pairwise.filter _ List.pairwise_lt_range
 refine hr.imp_of_mem ?_
 intro i j hi hj hij
 obtain ⟨h1,_⟩:=List.mem_filter.1 hi
 obtain ⟨h2,h3⟩:=List.mem_filter.1 hj
 have h1:=List.mem_range.1 h1
 have h2:=List.mem_range.1 h2
 have hm:j - 1 < zs.length:=by omega
 have hne:zs[j]'h2≠zs[j - 1]'hm:=by
   intro e
   have:Lib.keeps zs.toArray j=false:=Lib.keeps_neg (by omega) (by simp only[List.getElem!_toArray,h2,hm,getElem!_pos,e])
   rw[h3] at this;cases this
 have hle1:zs[j - 1]'hm≤zs[j]'h2:=List.pairwise_iff_getElem.1 h _ _ _ _ (by omega)
 have hle2:zs[i]'h1≤zs[j - 1]'hm:=by
   by_cases e:i=j - 1
   · subst e;exact Int.le_refl _
   · exact List.pairwise_iff_getElem.1 h _ _ _ _ (by omega)
 simp only[List.getElem!_toArray,h1,h2,getElem!_pos]
 omega
end
end Go.Fw
namespace Go.Fw
section
def cpt:List Int→List Int
 | []=> []
 | x::r=>match cpt r with
   | []=> [x]
   | y::q=>if x=y then y::q else x::y::q
theorem a_dx:∀(l:List Int) (z:Int),z ∈ cpt l↔z ∈ l
 | [],z=>by simp[cpt]
 | x::r,z=>by
   have ih:=a_dx r z
   rw[cpt]
   split
   · rename_i h;rw[h] at ih;simp at ih;simp[ih]
   · rename_i y q h
     rw[h] at ih
     split
     · rename_i e;rw[ih,List.mem_cons];exact ⟨.inr,fun hz=>hz.elim (fun e'=>by rw[←ih,e',e];simp) id⟩
     · rw[List.mem_cons,ih,List.mem_cons]
theorem a_nw:∀{l:List Int},l.Pairwise (·≤·)→(cpt l).Pairwise (· < ·)
 | [],_=>by simp[cpt]
 | x::r,h=>by
   rw[List.pairwise_cons] at h
   have ih:=a_nw h.2
   rw[cpt]
   split
   · simp
   · rename_i y q hq
     rw[hq] at ih
     split
     · exact ih
     · rename_i hne
       rw[List.pairwise_cons]
       refine ⟨fun z hz=>?_,ih⟩
       have h1:y ∈ r:=(a_dx r y).1 (by rw[hq];simp)
       have h2:=h.1 y h1
       rcases List.mem_cons.1 hz with rfl | hz
       · omega
       · have:=(List.pairwise_cons.1 ih).1 z hz;omega
theorem a_ey:∀{a b:List Int},a.Pairwise (· < ·)→b.Pairwise (· < ·)→(∀z,z ∈ a↔z ∈ b)→a=b
 | [],[],_,_,_=>rfl
 | [],y::b,_,_,h=>absurd ((h y).2 (by simp)) (by simp)
 | x::a,[],_,_,h=>absurd ((h x).1 (by simp)) (by simp)
 | x::a,y::b,ha,hb,h=>by
   rw[List.pairwise_cons] at ha hb
   have e:x=y:=by
     have h1:=(h x).1 (by simp)
     have h2:=(h y).2 (by simp)
     rcases List.mem_cons.1 h1 with h1 | h1
     · exact h1
     · rcases List.mem_cons.1 h2 with h2 | h2
       · exact h2.symm
       · have:=hb.1 x h1;have:=ha.1 y h2;omega
   subst e
   congr 1
   refine a_ey ha.2 hb.2 fun z=>⟨fun hz=>?_,fun hz=>?_⟩
   · rcases List.mem_cons.1 ((h z).1 (by simp[hz])) with e | hz'
     · subst e;have:=ha.1 z hz;omega
     · exact hz'
   · rcases List.mem_cons.1 ((h z).2 (by simp[hz])) with e | hz'
     · subst e;have:=hb.1 z hz;omega
     · exact hz'
theorem a_p1 {l:List Int}(h:l.Pairwise (·≤·)) :Lib.compact l=cpt l:=a_ey (a_gz h) (a_nw h) fun z=>by rw[a_n4,a_dx]
def Cf.lockR (r:Rt) :List Int:=cpt (l_f (r.Overlap ++ r.Path.map St.Sec ++ r.Flank.map Nd.Sec))
def Cf.lockL (c:Cf)(i:Int) :List Int:=match a_k c.Rts i with
 | some r=>Cf.lockR r
 | none=> []
theorem mem_lockR {r:Rt}{z:Int} :z ∈ Cf.lockR r↔z ∈ r.Overlap∨z ∈ r.Path.map St.Sec∨z ∈ r.Flank.map Nd.Sec:=by
 rw[Cf.lockR,a_dx,(a_pf _).mem_iff];simp[or_assoc]
theorem a_a4 {c:Cf}{r:Rt}(h:RtOk c r){z:Int}(hz:z ∈ Cf.lockR r) :∃y,a_k c.Secs z=some y:=by
 rcases mem_lockR.1 hz with hz | hz | hz
 · obtain ⟨y,hy,_⟩:=(h.ov hz).1;exact ⟨y,hy⟩
 · obtain ⟨s,hs,rfl⟩:=List.mem_map.1 hz
   obtain ⟨y,hy,_⟩:=(h.step s hs).1.sec;exact ⟨y,hy⟩
 · obtain ⟨n,hn,rfl⟩:=List.mem_map.1 hz
   obtain ⟨y,hy,_⟩:=(h.fl.1 n hn).sec;exact ⟨y,hy⟩
theorem a_sg:∀l:List Int,(cpt l).length≤l.length
 | []=>Nat.le_refl _
 | x::r=>by
   have ih:=a_sg r
   rw[cpt]
   split
   · simp
   · rename_i y q h
     rw[h] at ih
     split
     · simp at ih ⊢;omega
     · simp at ih ⊢;omega
def g_k (m:Mv)(now cmd:Int) :Mv:=if m.Cmd≠cmd then ⟨cmd,now⟩ else m
def Co.inh (c:Cf)(k:Co)(r s:Int) :Bool:=
 let o:=(a_k k.Own s).getD 0 - 1
 decide (0≤o∧o≠r) && (decide ((c.rt o).Exit=(c.rt r).Entry) && inL (c.rt o).Overlap s)
def Co.blocked (c:Cf)(k:Co)(r:Int)(l:List Int) :Bool:=l.any fun s=>decide ((a_k k.Own s).getD 0≠0) && !k.inh c r s
def Co.may (c:Cf)(k:Co)(r:Int)(l:List Int) :Int:=
 if u_l c l k.Routes 0=true then 23 else if k.blocked c r l=true then 22 else 0
def a_5 (c:Cf) :List St→Int
 | []=>0
 | s::r=>let n:=((a_k c.Secs s.Sec).getD ⟨0,0,0⟩).Line;if n > 0 then n else a_5 c r
def j_w (now:Int)(l:List Nd)(w:List Mv) :List Mv:=l.foldl (fun w n=>w.set n.Sec.toNat (g_k ((a_k w n.Sec).getD ⟨0,0⟩) now n.Pos)) w
def xsC (now:Int)(l:List Int)(w:List Mv) :List Mv:=l.foldl (fun w i=>w.set i.toNat (g_k ((a_k w i).getD ⟨0,0⟩) now 1)) w
def k_1 (n:Int)(w:List Ls) :List Ls:=if n > 0 then w.set n.toNat { (a_k w n).getD zLs with Ask:=((a_k w n).getD zLs).Ask+1 } else w
def Co.lockC (c:Cf)(k:Co)(now r:Int) :Co:=
 { k with Own := (c.lockL r).foldl (fun w s => w.set s.toNat ((r + 1))) k.Own, Routes := k.Routes.set r.toNat ⟨1, 0, 0, 0⟩, Points := j_w now (c.Needs r) k.Points, Xs := xsC now (c.Cross r) k.Xs,
          Lines:=k_1 (a_5 c (c.rt r).Path) k.Lines,Dirty:=true }
def Co.reqE (c:Cf)(k:Co)(r:Int) :Int:=
 match a_k k.Routes r with
 | none=>20
 | some x=>if x.State≠0 then 28 else if k.may c r (c.lockL r)≠0 then k.may c r (c.lockL r)
   else if a_5 c (c.rt r).Path > 0∧((a_k k.Lines (a_5 c (c.rt r).Path)).getD zLs).Ask≥4294967295 then 5 else 0
def Co.gate (c:Cf)(k:Co)(now:Int)(e:Int) :Int:=if k.fits c=false then 21 else if tm 0 now=false then 32 else e
def Co.done (k:Co)(e:Int)(y:Co) :Co × Int:=(if e=0 then y else k,e)
def Co.requestC (c:Cf)(k:Co)(now r:Int) :Co × Int:=k.done (k.gate c now (k.reqE c r)) (k.lockC c now r)
def Co.leadE (k:Co)(r:Int)(fr:List Int) :Int:=
 match a_k k.Routes r with
 | none=>20
 | some x=>if inL fr x.State=false then 28 else 0
def Co.leadY (k:Co)(r to now:Int) :Co:=
 let x:=(a_k k.Routes r).getD ⟨0,0,0,0⟩
 if to=4 then { k with Routes:=k.Routes.set r.toNat { x with State:=to,Since:=now,Mark:=0 },Dirty:=true } else { k with Routes:=k.Routes.set r.toNat { x with State:=to } }
def Co.leadC (c:Cf)(k:Co)(r to now:Int)(fr:List Int) :Co × Int:=k.done (k.gate c now (k.leadE r fr)) (k.leadY r to now)
def Co.cancelC (c:Cf)(k:Co)(now r:Int) :Co × Int:=k.leadC c r 4 now [1,2,3]
def Co.restoreC (c:Cf)(k:Co)(r:Int) :Co × Int:=k.leadC c r 1 0 [3]
def Co.releaseC (c:Cf)(k:Co)(now r:Int) :Co × Int:=k.leadC c r 4 now [5]
def Co.resetE (k:Co)(s:Int) :Int:=
 match a_k k.Own s with
 | none=>20
 | some o=>if o≠-1 then 28 else 0
def Co.resetC (c:Cf)(k:Co)(now s:Int) :Co × Int:=k.done (k.gate c now (k.resetE s)) { k with Resets:=k.Resets.set s.toNat ((now+1)) }
def Co.throwE (c:Cf)(k:Co)(s pos:Int) :Int:=
 match a_k k.Own s with
 | none=>20
 | some o=>if y_l c s≠1 then 20 else if pos≠1∧pos≠2 then 32 else if o≠0 then 22 else 0
def Co.throwC (c:Cf)(k:Co)(now s pos:Int) :Co × Int:=
 k.done (k.gate c now (k.throwE c s pos)) { k with Points:=k.Points.set s.toNat (g_k ((a_k k.Points s).getD ⟨0,0⟩) now pos) }
end
section
theorem zip_all {α β:Type}{f:α × β→Bool} :∀{a:List α} {b:List β},(a.zip b).all f=true↔∀(i:Nat) x y,a[i]? =some x→b[i]? =some y→f (x,y) =true
 | [],b=>by simp
 | x::a,[]=>by simp
 | x::a,y::b=>by
   rw[List.zip_cons_cons,List.all_cons,Bool.and_eq_true,zip_all (a:=a) (b:=b)]
   constructor
   · rintro ⟨h1,h2⟩ i p q hp hq
     cases i with
     | zero=>cases hp;cases hq;exact h1
     | succ i=>exact h2 i p q (by simpa using hp) (by simpa using hq)
   · intro h
     exact ⟨h 0 x y rfl rfl,fun i p q hp hq=>h (i+1) p q (by simpa using hp) (by simpa using hq)⟩
structure FitIs (c:Cf) (k:Co) :Prop where
 chk:c.check=0
 lOwn:k.Own.length=c.Secs.length
 lPts:k.Points.length=c.Secs.length
 lRes:k.Resets.length=c.Secs.length
 lRts:k.Routes.length=c.Rts.length
 lXs:k.Xs.length=c.Xs.length
 lLn:k.Lines.length=4
 own:∀o ∈ k.Own,-2≤o∧o≤c.Rts.length
 rts:∀(i:Nat) x r,k.Routes[i]? =some x→c.Rts[i]? =some r→Rs.fits (x,r) =true
 pts:∀m ∈ k.Points,Mv.fits m=true
 xs:∀m ∈ k.Xs,Mv.fits m=true
 lns:∀l ∈ k.Lines,Ls.fits l=true
 res:∀z ∈ k.Resets,tm 1 z=true
theorem fits_iff {c:Cf}{k:Co} :k.fits c=true↔FitIs c k:=by
 simp only[Co.fits,Co.lens,Co.parts,Bool.and_eq_true,decide_eq_true_eq,zip_all,List.all_eq_true,List.mem_append]
 constructor
 · rintro ⟨h1,⟨a1,a2,a3,a4,a5,a6⟩,b1,b2,b3,b4,b5⟩
   exact ⟨h1,a1,a2,a3,a4,a5,a6,b1,zip_all.1 (List.all_eq_true.2 b2),fun m h=>b3 m (.inl h),fun m h=>b3 m (.inr h),b4,b5⟩
 · intro h
   exact ⟨h.chk,⟨h.lOwn,h.lPts,h.lRes,h.lRts,h.lXs,h.lLn⟩,h.own,List.all_eq_true.1 (zip_all.2 h.rts),fun m hm=>hm.elim (h.pts m) (h.xs m),h.lns,h.res⟩
theorem d_l {α:Type}{l:List α}{i:Int}{x:α}(h:a_k l i=some x) :x ∈ l:=List.mem_of_getElem? (a_l h).2.2
theorem v_l {α:Type}{l:List α}{i:Int}{p:α→Prop}{z:α}(hz:p z)(h:∀x ∈ l,p x) :p ((a_k l i).getD z):=by
 cases hg:a_k l i with
 | none=>exact hz
 | some x=>exact h x (d_l hg)
theorem x_3 {m:Mv}{now p:Int}(hm:Mv.fits m=true)(hn:tm 0 now=true)(hp:1≤p∧p≤2) :Mv.fits (g_k m now p) =true:=by
 unfold g_k
 split
 · simp only[tm,decide_eq_true_eq] at hn
   simp only[Mv.fits,Bool.and_eq_true,decide_eq_true_eq];omega
 · exact hm
theorem a_e6 (now:Int) :∀(l:List Nd) (w:List Mv),(j_w now l w).length=w.length
 | [],w=>rfl
 | n::l,w=>by unfold j_w;rw[List.foldl_cons];exact (a_e6 now l _).trans (by simp)
theorem a_jf {now:Int}(hn:tm 0 now=true) :∀(l:List Nd) (w:List Mv),(∀n ∈ l,1≤n.Pos∧n.Pos≤2)→(∀m ∈ w,Mv.fits m=true)→∀m ∈ j_w now l w,Mv.fits m=true
 | [],w,_,h=>h
 | n::l,w,hl,h=>by
   unfold j_w;rw[List.foldl_cons]
   refine a_jf hn l _ (fun x hx=>hl x (by simp[hx])) fun m hm=>?_
   rcases List.mem_or_eq_of_mem_set hm with hm | rfl
   · exact h m hm
   · exact x_3 (v_l (p:=fun m=>Mv.fits m=true) rfl h) hn (hl n (by simp))
theorem a_mk (now:Int) :∀(l:List Int) (w:List Mv),(xsC now l w).length=w.length
 | [],w=>rfl
 | n::l,w=>by unfold xsC;rw[List.foldl_cons];exact (a_mk now l _).trans (by simp)
theorem a_ph {now:Int}(hn:tm 0 now=true) :∀(l:List Int) (w:List Mv),(∀m ∈ w,Mv.fits m=true)→∀m ∈ xsC now l w,Mv.fits m=true
 | [],w,h=>h
 | n::l,w,h=>by
   unfold xsC;rw[List.foldl_cons]
   refine a_ph hn l _ fun m hm=>?_
   rcases List.mem_or_eq_of_mem_set hm with hm | rfl
   · exact h m hm
   · exact x_3 (v_l (p:=fun m=>Mv.fits m=true) rfl h) hn (by omega)
theorem x_6 (o:Int) :∀(l w:List Int),(l.foldl (fun w s=>w.set s.toNat o) w).length=w.length
 | [],w=>rfl
 | s::l,w=>by rw[List.foldl_cons,x_6 o l];simp
theorem a_oe {o:Int} :∀(l w:List Int) {z:Int},z ∈ l.foldl (fun w s=>w.set s.toNat o) w→z ∈ w∨z=o
 | [],w,z,h=> .inl h
 | s::l,w,z,h=>by
   rw[List.foldl_cons] at h
   rcases a_oe l _ h with h | h
   · rcases List.mem_or_eq_of_mem_set h with h | h
     · exact .inl h
     · exact .inr h
   · exact .inr h
theorem a_g1 {o:Int} :∀(l w:List Int) {s:Nat},(∀x ∈ l,0≤x)→s < w.length→(l.foldl (fun w s=>w.set s.toNat o) w)[s]? =if (s:Int) ∈ l then some o else w[s]?
 | [],w,s,_,_=>by simp
 | x::l,w,s,hl,hs=>by
   rw[List.foldl_cons,a_g1 l _ (fun y hy=>hl y (by simp[hy])) (by simpa using hs),List.getElem?_set]
   have hx:=hl x (by simp)
   by_cases h1:(s:Int) ∈ l
   · rw[if_pos h1,if_pos (by simp[h1])]
   · rw[if_neg h1]
     by_cases h2:(s:Int) =x
     · rw[if_pos (show x.toNat=s by omega),if_pos (show x.toNat < w.length by omega),if_pos (show (s:Int) ∈ x::l by simp[h2])]
     · rw[if_neg (show ¬x.toNat=s by omega),if_neg (show ¬(s:Int) ∈ x::l by simp[h1,h2])]
theorem x_r {c:Cf}(h:c.check=0)(l:List St) :0≤a_5 c l∧a_5 c l≤3:=by
 induction l with
 | nil=>exact ⟨Int.le_refl _,by unfold a_5;omega⟩
 | cons s r ih=>
   rw[a_5]
   have hs:0≤((a_k c.Secs s.Sec).getD ⟨0,0,0⟩).Line∧((a_k c.Secs s.Sec).getD ⟨0,0,0⟩).Line≤3:=by
     refine v_l (p:=fun y:Sec=>0≤y.Line∧y.Line≤3) (by decide) fun y hy=>?_
     obtain ⟨i,hi,e⟩:=List.getElem_of_mem hy
     exact k_e (h_e h).1 (i:=i) (by rw[List.getElem?_eq_getElem hi,e])
   split
   · exact hs
   · exact ih
theorem a_e7 {c:Cf}{k:Co}{r:Int}(h:k.reqE c r=0) :(∃x,a_k k.Routes r=some x∧x.State=0)∧u_l c (c.lockL r) k.Routes 0=false∧k.blocked c r (c.lockL r) =false∧
   (a_5 c (c.rt r).Path > 0→((a_k k.Lines (a_5 c (c.rt r).Path)).getD zLs).Ask < 4294967295):=by
 unfold Co.reqE at h
 split at h
 · cases h
 · rename_i x hx
   split at h
   · cases h
   split at h
   · rename_i h2;exact absurd h h2
   rename_i h1 h2
   have h2:k.may c r (c.lockL r) =0:=Decidable.not_not.1 h2
   split at h
   · cases h
   rename_i h3
   unfold Co.may at h2
   split at h2
   · cases h2
   split at h2
   · cases h2
   rename_i h4 h5
   exact ⟨⟨x,hx,Decidable.not_not.1 h1⟩,by simpa using h4,by simpa using h5,fun hl=>by have:=fun ha=>h3 ⟨hl,ha⟩;omega⟩
theorem a_sv {c:Cf}{k:Co}(hf:FitIs c k){r:Int}{x:Rs}(hx:a_k k.Routes r=some x) :∃y,a_k c.Rts r=some y∧y ∈ c.Rts:=by
 obtain ⟨h1,h2,h3⟩:=a_l hx
 have:=(List.getElem?_eq_some_iff.1 h3).1
 obtain ⟨y,hy⟩:=c_s (l:=c.Rts) (i:=r) (by omega) (by have:=hf.lRts;omega)
 exact ⟨y,hy,d_l hy⟩
theorem a_t3 {c:Cf}{k:Co}{now r:Int}(h:k.fits c=true)(hn:tm 0 now=true)(he:k.reqE c r=0) :(k.lockC c now r).fits c=true:=by
 rw[fits_iff] at h ⊢
 obtain ⟨⟨x,hx,hs⟩,h2,h3,h4⟩:=a_e7 he
 obtain ⟨y,hy,hm⟩:=a_sv h hx
 have hok:=b_k h.chk hm
 have hr:=(a_l hy)
 have hrl:=(List.getElem?_eq_some_iff.1 hr.2.2).1
 refine ⟨h.chk,by simp only[Co.lockC,x_6];exact h.lOwn,by simp only[Co.lockC,a_e6];exact h.lPts,h.lRes,by simp only[Co.lockC,List.length_set];exact h.lRts,by simp only[Co.lockC,a_mk];exact h.lXs,?_,?_,?_,?_,?_,?_,h.res⟩
 · simp only[Co.lockC,k_1];split <;> simp[h.lLn]
 · intro o ho
   simp only[Co.lockC] at ho
   rcases a_oe _ _ ho with ho | rfl
   · exact h.own o ho
   · omega
 · intro i z q hz hq
   simp only[Co.lockC,List.getElem?_set] at hz
   split at hz
   · split at hz
     · cases hz
       have:(0:Int)≤q.Path.length:=by omega
       simp only[Rs.fits,tm,Bool.and_eq_true,decide_eq_true_eq];omega
     · cases hz
   · exact h.rts i z q hz hq
 · refine a_jf hn _ _ (fun n hn'=>?_) h.pts
   rw[Cf.Needs,b_h hy] at hn'
   exact (n_h hok hn').2
 · exact a_ph hn _ _ h.xs
 · intro l hl
   simp only[Co.lockC,k_1] at hl
   split at hl
   · rename_i hg
     rcases List.mem_or_eq_of_mem_set hl with hl | rfl
     · exact h.lns l hl
     · have h5:=h4 hg
       have h6:=v_l (i:=a_5 c (c.rt r).Path) (p:=fun l=>Ls.fits l=true) (z:=zLs) rfl h.lns
       simp only[Ls.fits,tm,Bool.and_eq_true,decide_eq_true_eq] at h6 ⊢
       omega
   · exact h.lns l hl
theorem a_tz {c:Cf}{k:Co}{r to now:Int}{fr:List Int}(h:k.fits c=true)(hn:tm 0 now=true)(ht:0≤to∧to≤5)(he:k.leadE r fr=0) :(k.leadY r to now).fits c=true:=by
 rw[fits_iff] at h ⊢
 unfold Co.leadE at he
 split at he
 · cases he
 rename_i x hx
 have hfx:∀(q:Rt),c.Rts[r.toNat]? =some q→Rs.fits (x,q) =true:=fun q hq=>h.rts _ _ _ (a_l hx).2.2 hq
 have key:∀x',(∀q,Rs.fits (x,q) =true→Rs.fits (x',q) =true)→∀d,FitIs c { k with Routes:=k.Routes.set r.toNat x',Dirty:=d } :=by
   intro x' hx' d
   refine ⟨h.chk,h.lOwn,h.lPts,h.lRes,by simp only[List.length_set];exact h.lRts,h.lXs,h.lLn,h.own,fun i z q hz hq=>?_,h.pts,h.xs,h.lns,h.res⟩
   simp only[List.getElem?_set] at hz
   split at hz
   · rename_i e
     split at hz
     · cases hz;exact hx' q (hfx q (by rw[e];exact hq))
     · cases hz
   · exact h.rts i z q hz hq
 unfold Co.leadY
 simp only[hx,Option.getD_some]
 split
 · refine key _ (fun q hq=>?_) true
   simp only[Rs.fits,tm,Bool.and_eq_true,decide_eq_true_eq] at hq hn ⊢;omega
 · refine key _ (fun q hq=>?_) k.Dirty
   simp only[Rs.fits,tm,Bool.and_eq_true,decide_eq_true_eq] at hq ⊢;omega
theorem a_qs {c:Cf}{k:Co}{now s:Int}(h:k.fits c=true)(hn:tm 0 now=true) :Co.fits c { k with Resets:=k.Resets.set s.toNat (now+1) } =true:=by
 rw[fits_iff] at h ⊢
 refine ⟨h.chk,h.lOwn,h.lPts,by simp only[List.length_set];exact h.lRes,h.lRts,h.lXs,h.lLn,h.own,h.rts,h.pts,h.xs,h.lns,fun z hz=>?_⟩
 rcases List.mem_or_eq_of_mem_set hz with hz | rfl
 · exact h.res z hz
 · simp only[tm,decide_eq_true_eq] at hn ⊢;omega
theorem a_fz {c:Cf}{k:Co}{s pos:Int}(h:k.throwE c s pos=0) :a_k k.Own s=some 0∧y_l c s=1∧(pos=1∨pos=2):=by
 unfold Co.throwE at h
 split at h
 · cases h
 split at h
 · cases h
 split at h
 · cases h
 split at h
 · cases h
 rename_i o ho h1 h2 h3
 exact ⟨by rw[ho,Decidable.not_not.1 h3],Decidable.not_not.1 h1,by omega⟩
theorem a_rt {c:Cf}{k:Co}{now s pos:Int}(h:k.fits c=true)(hn:tm 0 now=true)(he:k.throwE c s pos=0) :
   Co.fits c { k with Points:=k.Points.set s.toNat (g_k ((a_k k.Points s).getD ⟨0,0⟩) now pos) } =true:=by
 rw[fits_iff] at h ⊢
 refine ⟨h.chk,h.lOwn,by simp only[List.length_set];exact h.lPts,h.lRes,h.lRts,h.lXs,h.lLn,h.own,h.rts,fun m hm=>?_,h.xs,h.lns,h.res⟩
 rcases List.mem_or_eq_of_mem_set hm with hm | rfl
 · exact h.pts m hm
 · exact x_3 (v_l (p:=fun m=>Mv.fits m=true) rfl h.pts) hn (by have:=(a_fz he).2.2;omega)
theorem n_r {c:Cf}{k:Co}{now e:Int}(h:k.gate c now e=0) :k.fits c=true∧tm 0 now=true∧e=0:=by
 unfold Co.gate at h
 split at h
 · cases h
 split at h
 · cases h
 rename_i h1 h2
 exact ⟨by simpa using h1,by simpa using h2,h⟩
theorem a_ev {c:Cf}{now:Int}(h:c.check=0)(hn:tm 0 now=true) :(b_j c now).fits c=true:=by
 rw[fits_iff]
 simp only[tm,decide_eq_true_eq] at hn
 refine ⟨h,by simp[b_j],by simp[b_j],by simp[b_j],by simp[b_j],by simp[b_j],by simp[b_j],fun o ho=>?_,fun i x r hx hr=>?_,fun m hm=>?_,fun m hm=>?_,fun l hl=>?_,fun z hz=>?_⟩
 · obtain ⟨_,rfl⟩:=List.mem_replicate.1 ho;omega
 · obtain ⟨_,rfl⟩:=List.mem_replicate.1 (List.mem_of_getElem? hx)
   have:(0:Int)≤r.Path.length:=by omega
   simp only[Rs.fits,tm,Bool.and_eq_true,decide_eq_true_eq];omega
 · obtain ⟨s,hs,rfl⟩:=List.mem_map.1 hm
   simp only[Mv.fits,Bool.and_eq_true,decide_eq_true_eq];split <;> omega
 · obtain ⟨_,rfl⟩:=List.mem_replicate.1 hm
   simp only[Mv.fits,Bool.and_eq_true,decide_eq_true_eq];omega
 · obtain ⟨_,rfl⟩:=List.mem_replicate.1 hl;rfl
 · obtain ⟨_,rfl⟩:=List.mem_replicate.1 hz;rfl
end
end Go.Fw
namespace Go.Proofs.YtdmfnhbmhkgemaaGreat
open Go.Shelf Go.Proofs
section
def a_l4:Go.Shelf.Ren:=⟨fun | 189=>136 | 125=>164 | 257=>163 | 128=>182 | 129=>183 | 294=>173 | 295=>174 | 296=>175 | 297=>176 | 298=>177 | 299=>178 | 216=>179 | 300=>180 | 301=>181 | 328=>187 | 329=>188 | 330=>189 | 331=>190 | 332=>191 | 215=>192 | 343=>193 | n=>n,fun | 28=>25 | 3=>3 | 46=>116 | 0=>0 | 51=>167 | 53=>170 | 4=>4 | 183=>246 | 182=>245 | 131=>111 | 5=>5 | 9=>9 | 218=>255 | 222=>259 | 228=>261 | 229=>262 | n=>n,fun | n=>n⟩
theorem a_ug:Go.Proofs.Lays.n189 Tryz.prog a_l4:= {
 mixed:=by kernel_rfl
 f125:=Tryz.func164.trans (congrArg some (by kernel_rfl))
 f128:=Tryz.func182.trans (congrArg some (by kernel_rfl))
 f129:=Tryz.func183.trans (congrArg some (by kernel_rfl))
 f189:=Tryz.func136.trans (congrArg some (by kernel_rfl))
 f215:=Tryz.func192.trans (congrArg some (by kernel_rfl))
 f216:=Tryz.func179.trans (congrArg some (by kernel_rfl))
 f257:=Tryz.func163.trans (congrArg some (by kernel_rfl))
 f294:=Tryz.func173.trans (congrArg some (by kernel_rfl))
 f295:=Tryz.func174.trans (congrArg some (by kernel_rfl))
 f296:=Tryz.func175.trans (congrArg some (by kernel_rfl))
 f297:=Tryz.func176.trans (congrArg some (by kernel_rfl))
 f298:=Tryz.func177.trans (congrArg some (by kernel_rfl))
 f299:=Tryz.func178.trans (congrArg some (by kernel_rfl))
 f300:=Tryz.func180.trans (congrArg some (by kernel_rfl))
 f301:=Tryz.func181.trans (congrArg some (by kernel_rfl))
 f328:=Tryz.func187.trans (congrArg some (by kernel_rfl))
 f329:=Tryz.func188.trans (congrArg some (by kernel_rfl))
 f330:=Tryz.func189.trans (congrArg some (by kernel_rfl))
 f331:=Tryz.func190.trans (congrArg some (by kernel_rfl))
 f332:=Tryz.func191.trans (congrArg some (by kernel_rfl))
 f343:=Tryz.func193.trans (congrArg some (by kernel_rfl))
 t0:=Tryz.underlying0
 a0:=Tryz.isAgg0
 z0:=Tryz.sizeOf0
 v0:=Tryz.zeroValue0
 t3:=Tryz.underlying3
 a3:=Tryz.isAgg3
 z3:=Tryz.sizeOf3
 v3:=Tryz.zeroValue3
 t4:=Tryz.underlying4
 a4:=Tryz.isAgg4
 z4:=Tryz.sizeOf4
 v4:=Tryz.zeroValue4
 t5:=Tryz.underlying5
 a5:=Tryz.isAgg5
 z5:=Tryz.sizeOf5
 v5:=Tryz.zeroValue5
 t9:=Tryz.underlying9
 a9:=Tryz.isAgg9
 z9:=Tryz.sizeOf9
 v9:=Tryz.zeroValue9
 t28:=Tryz.underlying25
 a28:=Tryz.isAgg25
 z28:=Tryz.sizeOf25
 v28:=Tryz.zeroValue25
 t46:=Tryz.underlying116
 a46:=Tryz.isAgg116
 z46:=Tryz.sizeOf116
 v46:=Tryz.zeroValue116
 t51:=Tryz.underlying167
 a51:=Tryz.isAgg167
 z51:=Tryz.sizeOf167
 v51:=Tryz.zeroValue167
 t53:=Tryz.underlying170
 a53:=Tryz.isAgg170
 z53:=Tryz.sizeOf170
 v53:=Tryz.zeroValue170
 t131:=Tryz.underlying111
 a131:=Tryz.isAgg111
 z131:=Tryz.sizeOf111
 v131:=Tryz.zeroValue111
 t182:=Tryz.underlying245
 a182:=Tryz.isAgg245
 z182:=Tryz.sizeOf245
 v182:=Tryz.zeroValue245
 t183:=Tryz.underlying246
 a183:=Tryz.isAgg246
 z183:=Tryz.sizeOf246
 v183:=Tryz.zeroValue246
 t218:=Tryz.underlying255
 a218:=Tryz.isAgg255
 z218:=Tryz.sizeOf255
 v218:=Tryz.zeroValue255
 t222:=Tryz.underlying259
 a222:=Tryz.isAgg259
 z222:=Tryz.sizeOf259
 v222:=Tryz.zeroValue259
 t228:=Tryz.underlying261
 a228:=Tryz.isAgg261
 z228:=Tryz.sizeOf261
 v228:=Tryz.zeroValue261
 t229:=Tryz.underlying262
 a229:=Tryz.isAgg262
 z229:=Tryz.sizeOf262
 v229:=Tryz.zeroValue262 }
end
section
def a_dl:Go.Shelf.Ren:=⟨fun | 20=>137 | n=>n,fun | 22=>25 | 3=>3 | 4=>4 | 0=>0 | n=>n,fun | n=>n⟩
theorem a_pv:Go.Proofs.Lays2.n20 Tryz.prog a_dl:= {
 mixed:=by kernel_rfl
 f20:=Tryz.func137.trans (congrArg some (by kernel_rfl))
 t0:=Tryz.underlying0
 a0:=Tryz.isAgg0
 z0:=Tryz.sizeOf0
 v0:=Tryz.zeroValue0
 t3:=Tryz.underlying3
 a3:=Tryz.isAgg3
 z3:=Tryz.sizeOf3
 v3:=Tryz.zeroValue3
 t4:=Tryz.underlying4
 a4:=Tryz.isAgg4
 z4:=Tryz.sizeOf4
 v4:=Tryz.zeroValue4
 t22:=Tryz.underlying25
 a22:=Tryz.isAgg25
 z22:=Tryz.sizeOf25
 v22:=Tryz.zeroValue25
 i3:=by kernel_rfl }
end
end Go.Proofs.YtdmfnhbmhkgemaaGreat
namespace Go.Proofs.YtdmfnhbmhkgemaaGreat
open Go.Fw Go.Proofs Go.RowKit
section
variable {σ σ0:Store}
theorem a_ol {s:Store}{d:D}{l ys:List Int}(h:Own Tryz.prog σ0 s a_h d (l.map Go.Fw.encI))(h0:l≠[])(hl:ys.length=l.length) :
   ∃id i0 t rows,d= .osl id i0 l.length∧s id= .live t rows∧Tryz.prog.cellsOf t=1∧i0+l.length≤rows.length∧(rows.drop i0).take l.length=l.map i_j∧σ0 id= .free∧
     Own Tryz.prog σ0 (s.set id (.live t (rows.take i0 ++ ys.map i_j ++ rows.drop (i0+l.length)))) a_h d (ys.map Go.Fw.encI):=by
 have hr:=h.at_.rows
 have hsz:=h.at_.size
 rw[List.length_map] at hsz
 have hnz:=h.nz
 have hns:=h.nsl
 have hnew:=h.new
 have hlen:=h.at_.lenI
 rw[List.length_map] at hlen
 cases d <;> simp only[Go.Fw.Rows] at hr <;> try exact hr.elim
 · exact absurd (List.map_eq_nil_iff.1 hr) h0
 · exact absurd rfl hnz
 · exact absurd trivial hns
 · rename_i id i0 len
   obtain ⟨t,rows,a1,a2,a3,a4⟩:=hr
   have e:l.length=len:=hlen
   subst e
   have ht:Tryz.prog.cellsOf t=1:=by rw[a2];exact c_int
   have hn:=hnew _ _ _ rfl
   refine ⟨id,i0,t,rows,rfl,a1,ht,a3,a4.symm,hn,⟨⟨⟨t,_,Store.set_same _ _ _,a2,?_,?_⟩,?_,fun es rows e=>by cases e⟩,?_,hnew,fun h=>h,by intro e;cases e⟩⟩
   · simp;omega
   · have hi0:(rows.take i0).length=i0:=by simp;omega
     rw[List.append_assoc,List.drop_append_of_le_length (by omega),List.drop_of_length_le (by omega),List.nil_append,List.take_append_of_le_length (by simp;omega),List.take_of_length_le (by simp;omega)]
     rfl
   · rw[List.length_map];omega
   · intro i hi
     rw[Store.set_ne _ _ (by intro e;subst e;exact hi hn)]
     exact h.ext i hi
theorem a_np {s:Store}{d:D}{l:List Int}(h:Own Tryz.prog σ0 s a_h d (l.map Go.Fw.encI))(h0:l≠[]) :
   DCalls Tryz.prog l_3 [.one d] s fun r s'=>r= .tup []∧Own Tryz.prog σ0 s' a_h d ((l_f l).map Go.Fw.encI):=by
 have hsz:=h.at_.size
 rw[List.length_map] at hsz
 obtain ⟨id,i0,t,rows,rfl,a1,ht,a3,a4,hn,ho⟩:=a_ol (ys:=l_f l) h h0 (by simp[l_f])
 refine (a_p0 a_ug ht a1 a3 a4 (List.length_pos_iff.2 h0) (by omega)).mono ?_
 rintro r s' ⟨rfl,rfl⟩
 exact ⟨rfl,ho⟩
theorem a_fu {s:Store}{d:D}{l:List Int}(h:Own Tryz.prog σ0 s a_h d (l.map Go.Fw.encI))(h0:l≠[])(hp:l.Pairwise (·≤·)) :
   DCalls Tryz.prog j_b [.one d] s fun r s'=>∃d',r= .a (.one d')∧Own Tryz.prog σ0 s' a_h d' ((cpt l).map Go.Fw.encI):=by
 have hsz:=h.at_.size
 rw[List.length_map] at hsz
 have hc:=a_p1 hp
 have hle:=a_sg l
 obtain ⟨id,i0,t,rows,rfl,a1,ht,a3,a4,hn,ho⟩:=a_ol (ys:=Lib.compact l ++ List.replicate (l.length - (Lib.compact l).length) 0) h h0 (by rw[hc];simp;omega)
 refine (a_fx a_pv ht a1 a3 a4 (List.length_pos_iff.2 h0) (by omega)).mono ?_
 rintro r s' ⟨rfl,rfl⟩
 have:=ho.sub (lo:=0) (hi:=(cpt l).length) (by omega) (by rw[hc];simp)
 rw[hc] at this ⊢
 refine ⟨_,rfl,?_⟩
 have e:((((cpt l ++ List.replicate (l.length - (cpt l).length) 0).map Go.Fw.encI).drop 0).take ((cpt l).length - 0)) =(cpt l).map Go.Fw.encI:=by
   rw[List.drop_zero,Nat.sub_zero,List.map_append,List.take_append_of_le_length (by simp),List.take_of_length_le (by simp)]
 rw[e] at this
 exact this
def u_s:D→Prop
 | .sl _ rows=>∀row ∈ rows,row[4]?≠some .zsl
 | _=>True
theorem a_ss {c4:D}{rows:List (List D)}(hz:u_s c4)(hat:∀s,At Tryz.prog s l_v c4 rows){i:Nat}{row:List D}(hr:rows[i]? =some row) :row[4]?≠some .zsl:=by
 have hx:=(hat (fun _=> .free)).rows
 cases c4 <;> simp only[Go.Fw.Rows] at hx <;> try exact hx.elim
 · subst hx;simp at hr
 · subst hx;simp at hr
 · obtain ⟨rfl,_⟩:=hx;exact hz _ (List.mem_of_getElem? hr)
 · obtain ⟨t,rows',h1,_⟩:=hx;cases h1
section
variable {c0 c1 c2 c3 c4:D} {c:Cf} (h:∀s,CfAt s c0 c1 c2 c3 c4 c) (hok:c.check=0) (hz:u_s c4)
include h hok hz
theorem a_ig (i:Int) :DCalls Tryz.prog p_e [cfA c0 c1 c2 c3 c4 c,iA i] σ (d_b σ a_h ((c.lockL i).map Go.Fw.encI)):=by
 refine (a_lz _ _ _ _ _ _ _ _ _ i σ _ ?_).ret (Q:=fun r s=>∃r' σ',Ret Tryz.prog σ s r σ' r'∧d_b σ a_h ((c.lockL i).map Go.Fw.encI) r' σ') (fun r s h=>h)
 intro R hR
 have nil:a_k c.Rts i=none→∃r' σ',Ret Tryz.prog σ σ (.a (.one .nils)) σ' r'∧d_b σ a_h ((c.lockL i).map Go.Fw.encI) r' σ':=fun e=>by
   have:c.lockL i=[]:=by unfold Cf.lockL;rw[e]
   rw[this];exact f_i (.nil _ (.refl _)) (u_w _)
 obtain ⟨rows,hat,hlen⟩:=j_s (h σ)
 refine bcd (fun e=>nil (c_g e)) (fun e0=>hat.lenK (bcd (fun e=>nil (d_u (by omega))) (fun e1=>hR σ ?_)))
 obtain ⟨x,hx⟩:=c_s (l:=c.Rts) (i:=i) e0 (by omega)
 clear hR nil hat
 have hr:=b_k hok (d_l hx)
 have hll:c.lockL i=Cf.lockR x:=by unfold Cf.lockL;rw[hx]
 rw[hll]
 obtain ⟨rows,d1,d2,d3,hat,hlen,hrow,q1,q2,q3⟩:=q_3 h (a_l hx).2.2
 have w1:=hr.len
 have w2:=hr.flen
 have w3:=hr.olen
 refine (hat σ).load hrow c_l (by omega) ⟨_,_,_,_,_,_,rfl,(d_1 (q3 σ) ?_ (by rw[List.length_map];omega)).mono ?_⟩
 · exact fun e=>a_ss hz hat hrow (by rw[e];rfl)
 rintro r s ⟨d,rfl,ho⟩
 refine ⟨d,rfl,(q1 σ).lenK ⟨fun d n s'=>∃j:Nat,n=j∧j≤x.Path.length∧Own Tryz.prog σ s' a_h d ((x.Overlap ++ (x.Path.take j).map St.Sec).map Go.Fw.encI),fun _ n _=>x.Path.length - n.toNat,⟨0,rfl,by omega,by simpa using ho⟩,?_⟩⟩
 rintro d n s' ⟨j,rfl,hj,ho⟩
 rw[List.length_map]
 refine bcd (fun hlt=>?_) (fun hge=>?_)
 · obtain ⟨y,hy⟩:=a_i (l:=x.Path) (j:=j) (by omega)
   refine (q1 s').load (a_c hy) i_l rfl ⟨y.Sec,y.In,y.Out,rfl,a_e fun id s2 hid _ he hs2=>?_⟩
   refine (ho.ext' he).append (At.fresh hs2 (by simp) rfl) (by simp;omega) (by simp;omega) fun d4 s5 ho5 _ _=>?_
   rw[a_o (by omega)]
   refine ⟨rfl,⟨j+1,rfl,by omega,?_⟩,c_w (by omega)⟩
   have e:x.Overlap ++ (x.Path.take (j+1)).map St.Sec=(x.Overlap ++ (x.Path.take j).map St.Sec) ++ [y.Sec]:=by rw[List.take_add_one,hy];simp
   rw[e,List.map_append];exact ho5
 have e:j=x.Path.length:=by omega
 rw[e,List.take_length] at ho
 refine (q2 s').lenK ⟨fun d n s'=>∃j:Nat,n=j∧j≤x.Flank.length∧Own Tryz.prog σ s' a_h d ((x.Overlap ++ x.Path.map St.Sec ++ (x.Flank.take j).map Nd.Sec).map Go.Fw.encI),fun _ n _=>x.Flank.length - n.toNat,⟨0,rfl,by omega,by simpa using ho⟩,?_⟩
 rintro d n s' ⟨j,rfl,hj,ho⟩
 rw[List.length_map]
 refine bcd (fun hlt=>?_) (fun hge=>?_)
 · obtain ⟨y,hy⟩:=a_i (l:=x.Flank) (j:=j) (by omega)
   refine (q2 s').load (a_c hy) n_4 rfl ⟨y.Sec,y.Pos,rfl,a_e fun id s2 hid _ he hs2=>?_⟩
   refine (ho.ext' he).append (At.fresh hs2 (by simp) rfl) (by simp;omega) (by simp;omega) fun d4 s5 ho5 _ _=>?_
   rw[a_o (by omega)]
   refine ⟨⟨j+1,rfl,by omega,?_⟩,c_w (by omega)⟩
   have e:x.Overlap ++ x.Path.map St.Sec ++ (x.Flank.take (j+1)).map Nd.Sec=(x.Overlap ++ x.Path.map St.Sec ++ (x.Flank.take j).map Nd.Sec) ++ [y.Sec]:=by rw[List.take_add_one,hy];simp
   rw[e,List.map_append];exact ho5
 have e:j=x.Flank.length:=by omega
 rw[e,List.take_length] at ho
 have hne:x.Overlap ++ x.Path.map St.Sec ++ x.Flank.map Nd.Sec≠[]:=by
   intro e
   have:=congrArg List.length e
   simp only[List.length_append,List.length_map,List.length_nil] at this;omega
 refine (a_np ho hne).mono ?_
 rintro r s2 ⟨rfl,ho⟩
 refine ⟨rfl,(a_fu ho (fun e=>hne (by
   have:=congrArg List.length e
   simp only[l_f,List.length_mergeSort] at this
   exact List.length_eq_zero_iff.1 this)) (a_pu _)).mono ?_⟩
 rintro r s3 ⟨d',rfl,ho⟩
 exact ⟨d',rfl,f_i ho (u_w _)⟩
end
end
section
variable {σ σ0:Store}
def cfC (c0 c1 c2 c3 c4:D)(c:Cf) :List D:= [c0,c1,c2,c3,c4,iD c.Age,iD c.Brake,iD c.Hold,iD c.Budget]
theorem CoOwn.from {σ1 s:Store}{d0 d1 d2 d3 d4 d5:D}{k:Co}(he:Ext σ σ1)(h:CoOwn σ1 s d0 d1 d2 d3 d4 d5 k) :CoOwn σ s d0 d1 d2 d3 d4 d5 k:=
 ⟨h.own.from he,h.routes.from he,h.points.from he,h.xs.from he,h.lines.from he,h.resets.from he,h.apart⟩
theorem CoAt.ext' {s:Store}{d0 d1 d2 d3 d4 d5:D}{k:Co}(h:CoAt σ d0 d1 d2 d3 d4 d5 k)(he:Ext σ s) :CoAt s d0 d1 d2 d3 d4 d5 k:=
 ⟨h.own.ext he,h.routes.ext he,h.points.ext he,h.xs.ext he,h.lines.ext he,h.resets.ext he⟩
theorem u_0 {c0 c1 c2 c3 c4:D}{c:Cf}(hc:∀s,CfAt s c0 c1 c2 c3 c4 c){k0 k1 k2 k3 k4 k5:D}{k:Co}(h:CoAt σ k0 k1 k2 k3 k4 k5 k)(hf:CoFit k0 k1 k2 k3 k4 k5 k) :
   DCalls Tryz.prog j_2 [cfA c0 c1 c2 c3 c4 c,coA k0 k1 k2 k3 k4 k5 k.Dirty] σ fun r s=>
     ∃id d0 d1 d2 d3 d4 d5,r= .tup [.one (.el (.osl id 0 1) 0 0),bA (k.fits c)]∧CoIn σ s id d_d (cfC c0 c1 c2 c3 c4 c) [] d0 d1 d2 d3 d4 d5 k:=by
 refine a_mq _ _ _ _ _ _ _ _ _ k0 k1 k2 k3 k4 k5 k.Dirty σ _ (a_e fun id a0 hid _ e0 q0=>?_)
 have nid:∀{s0 s:Store} {el:TypeId} {d:D} {rs:List (List D)},Own Tryz.prog s0 s el d rs→s0 id≠ .free→a_0 d≠some id:=by
   intro s0 s el d rs ho hne he
   cases d with
   | osl i a n=>
     have:i=id:=by simpa[a_0] using he
     subst this
     exact hne (ho.new _ _ _ rfl)
   | _=>simp[a_0] at he
 have n0:a0 id≠ .free:=by rw[q0];intro e;cases e
 refine (d_1 (h.own.ext e0) hf.n0 (by rw[List.length_map];exact hf.b0)).mono ?_
 rintro r b0 ⟨d0,rfl,o0⟩
 refine ⟨d0,rfl,b_c ((o0.ext id n0).trans q0) (by simp[patch]) fun a1 q1 f0=>?_⟩
 have i0:=nid o0 n0
 have p0:=a_g (o0.from e0) hid i0 f0
 have e1:=p0.ext
 have n1:a1 id≠ .free:=by rw[q1];intro e;cases e
 refine (g_c (h.routes.ext e1) hf.n1 (by rw[List.length_map];exact hf.b1)).mono ?_
 rintro r b1 ⟨d1,rfl,o1⟩
 refine ⟨d1,rfl,b_c ((o1.ext id n1).trans q1) (by simp[patch]) fun a2 q2 f1=>?_⟩
 have i1:=nid o1 n1
 have ap01:=o1.apart p0.at_
 have p0:=a_g (p0.ext' o1.ext) hid i0 f1
 have p1:=a_g (o1.from e1) hid i1 f1
 have e2:=p1.ext
 have n2:a2 id≠ .free:=by rw[q2];intro e;cases e
 refine (e_n (h.points.ext e2) hf.n2 (by rw[List.length_map];exact hf.b2)).mono ?_
 rintro r b2 ⟨d2,rfl,o2⟩
 refine ⟨d2,rfl,b_c ((o2.ext id n2).trans q2) (by simp[patch]) fun a3 q3 f2=>?_⟩
 have i2:=nid o2 n2
 have ap02:=o2.apart p0.at_
 have ap12:=o2.apart p1.at_
 have p0:=a_g (p0.ext' o2.ext) hid i0 f2
 have p1:=a_g (p1.ext' o2.ext) hid i1 f2
 have p2:=a_g (o2.from e2) hid i2 f2
 have e3:=p2.ext
 have n3:a3 id≠ .free:=by rw[q3];intro e;cases e
 refine (e_n (h.xs.ext e3) hf.n3 (by rw[List.length_map];exact hf.b3)).mono ?_
 rintro r b3 ⟨d3,rfl,o3⟩
 refine ⟨d3,rfl,b_c ((o3.ext id n3).trans q3) (by simp[patch]) fun a4 q4 f3=>?_⟩
 have i3:=nid o3 n3
 have ap03:=o3.apart p0.at_
 have ap13:=o3.apart p1.at_
 have ap23:=o3.apart p2.at_
 have p0:=a_g (p0.ext' o3.ext) hid i0 f3
 have p1:=a_g (p1.ext' o3.ext) hid i1 f3
 have p2:=a_g (p2.ext' o3.ext) hid i2 f3
 have p3:=a_g (o3.from e3) hid i3 f3
 have e4:=p3.ext
 have n4:a4 id≠ .free:=by rw[q4];intro e;cases e
 refine (h_a (h.lines.ext e4) hf.n4 (by rw[List.length_map];exact hf.b4)).mono ?_
 rintro r b4 ⟨d4,rfl,o4⟩
 refine ⟨d4,rfl,b_c ((o4.ext id n4).trans q4) (by simp[patch]) fun a5 q5 f4=>?_⟩
 have i4:=nid o4 n4
 have ap04:=o4.apart p0.at_
 have ap14:=o4.apart p1.at_
 have ap24:=o4.apart p2.at_
 have ap34:=o4.apart p3.at_
 have p0:=a_g (p0.ext' o4.ext) hid i0 f4
 have p1:=a_g (p1.ext' o4.ext) hid i1 f4
 have p2:=a_g (p2.ext' o4.ext) hid i2 f4
 have p3:=a_g (p3.ext' o4.ext) hid i3 f4
 have p4:=a_g (o4.from e4) hid i4 f4
 have e5:=p4.ext
 have n5:a5 id≠ .free:=by rw[q5];intro e;cases e
 refine (d_1 (h.resets.ext e5) hf.n5 (by rw[List.length_map];exact hf.b5)).mono ?_
 rintro r b5 ⟨d5,rfl,o5⟩
 refine ⟨d5,rfl,b_c ((o5.ext id n5).trans q5) (by simp[patch]) fun a6 q6 f5=>?_⟩
 have i5:=nid o5 n5
 have ap05:=o5.apart p0.at_
 have ap15:=o5.apart p1.at_
 have ap25:=o5.apart p2.at_
 have ap35:=o5.apart p3.at_
 have ap45:=o5.apart p4.at_
 have p0:=a_g (p0.ext' o5.ext) hid i0 f5
 have p1:=a_g (p1.ext' o5.ext) hid i1 f5
 have p2:=a_g (p2.ext' o5.ext) hid i2 f5
 have p3:=a_g (p3.ext' o5.ext) hid i3 f5
 have p4:=a_g (p4.ext' o5.ext) hid i4 f5
 have p5:=a_g (o5.from e5) hid i5 f5
 have e6:=p5.ext
 have n6:a6 id≠ .free:=by rw[q6];intro e;cases e
 refine (e_9 hc (h.ext' e6)).use ⟨_,rfl,id,d0,d1,d2,d3,d4,d5,rfl,hid,q6,⟨p0,p1,p2,p3,p4,p5,?_⟩,?_⟩
 · simp only[List.pairwise_cons,List.mem_cons,List.not_mem_nil,or_false,forall_eq_or_imp,forall_eq,List.Pairwise.nil,and_true,false_imp_iff,implies_true]
   exact ⟨⟨ap01,ap02,ap03,ap04,ap05⟩,⟨ap12,ap13,ap14,ap15⟩,⟨ap23,ap24,ap25⟩,⟨ap34,ap35⟩,ap45⟩
 · intro d hd
   simp only[List.mem_cons,List.not_mem_nil,or_false] at hd
   rcases hd with rfl | rfl | rfl | rfl | rfl | rfl <;> assumption
end
section
variable {σ σ0:Store}
section
variable {c0 c1 c2 c3 c4:D} {c:Cf} (hc:∀s,CfAt s c0 c1 c2 c3 c4 c)
def Does (σ0:Store)(c0 c1 c2 c3 c4:D)(c:Cf)(k:Co)(f:FuncId)(bs:List A)(E:Int)(Y:Co)(s:Store) :Prop:=
 ∀id d0 d1 d2 d3 d4 d5 s1,Ext s s1→CoIn σ0 s1 id d_d (cfC c0 c1 c2 c3 c4 c) [] d0 d1 d2 d3 d4 d5 k→
   DCalls Tryz.prog f ([] ++ [.one (.el (.osl id 0 1) 0 0)] ++ bs) s1 fun r s'=>r= .a (iA E)∧Ext σ0 s'∧(E=0→CoIn σ0 s' id d_d (cfC c0 c1 c2 c3 c4 c) [] d0 d1 d2 d3 d4 d5 Y)
include hc
theorem g_w {k0 k1 k2 k3 k4 k5:D}{k Y:Co}{E:Int}{f:FuncId}{b:List (Bool × List D)}{bs:List A}(h:CoAt σ k0 k1 k2 k3 k4 k5 k)(hf:CoFit k0 k1 k2 k3 k4 k5 k)(now:Int)(hb:f_p b=some bs)
   (hd:k.fits c=true→tm 0 now=true→Does σ c0 c1 c2 c3 c4 c k f bs E Y σ) :
   DCalls Tryz.prog e_l [cfA c0 c1 c2 c3 c4 c,coA k0 k1 k2 k3 k4 k5 k.Dirty,iA now, .one (.fn f [] b)] σ (CoPost σ (k.done (k.gate c now E) Y)):=by
 refine a_d3 _ _ _ _ _ _ _ _ _ k0 k1 k2 k3 k4 k5 k.Dirty now _ σ _ ((u_0 hc h hf).mono ?_)
 rintro r s1 ⟨id,d0,d1,d2,d3,d4,d5,rfl,hI⟩
 refine ⟨_,_,rfl,?_⟩
 intro R hR
 have bad:∀(e:Int) s,Ext σ s→e≠0→k.gate c now E=e→R e s:=fun e s he hne hg=>by
   refine hR e s ?_
   rw[show (e != 0) =true by simpa using hne]
   refine (u_0 hc (h.ext' he) hf).mono ?_
   rintro r s2 ⟨id,d0,d1,d2,d3,d4,d5,rfl,hI2⟩
   refine ⟨_,_,rfl,trivial,_,_,_,rfl,_,a_d hI2.row,d0,d1,d2,d3,d4,d5,k.Dirty,rfl,?_⟩
   rw[Co.done,hg,if_neg hne]
   exact ⟨d0,d1,d2,d3,d4,d5,rfl,hI2.co.from he⟩
 refine a_q (fun e1=>⟨rfl,bad 21 s1 hI.ext (by decide) (by rw[Co.gate,if_pos e1])⟩) (fun e1=>?_)
 have hg1:k.gate c now E=if tm 0 now=false then 32 else E:=by rw[Co.gate,if_neg (by rw[e1];decide)]
 refine a_e fun id2 s2 hid2 _ he2 hs2=>?_
 have hat:At Tryz.prog s2 a_h (.osl id2 0 1) ([now].map Go.Fw.encI):=At.fresh hs2 (by simp) rfl
 refine (e_j 0 (by omega) hat).use ⟨_,rfl,?_⟩
 have ht:([now].all fun n=>decide (0≤n∧n≤4294967295+0)) =tm 0 now:=by simp[tm]
 rw[ht]
 refine a_q (fun e2=>⟨rfl,bad 32 s2 (hI.ext.trans he2) (by decide) (by rw[hg1,if_pos e2])⟩) (fun e2=>?_)
 rw[if_neg (by rw[e2];decide)] at hg1
 have hI2:CoIn σ s2 id d_d (cfC c0 c1 c2 c3 c4 c) [] d0 d1 d2 d3 d4 d5 k:=
   ⟨hI.new,(he2 id (by rw[hI.row];intro e;cases e)).trans hI.row,⟨hI.co.own.ext' he2,hI.co.routes.ext' he2,hI.co.points.ext' he2,hI.co.xs.ext' he2,hI.co.lines.ext' he2,hI.co.resets.ext' he2,hI.co.apart⟩,hI.ids⟩
 refine ⟨f,[],b,[],bs,rfl,rfl,hb,(hd e1 e2 id d0 d1 d2 d3 d4 d5 s2 (hI.ext.trans he2) hI2).mono ?_⟩
 rintro r s3 ⟨rfl,he3,hy⟩
 refine ⟨E,rfl,rfl,?_⟩
 by_cases hE:E=0
 · subst hE
   have hI3:=hy rfl
   refine hR 0 s3 ?_
   refine ⟨trivial,_,_,_,rfl,_,a_d hI3.row,d0,d1,d2,d3,d4,d5,Y.Dirty,rfl,?_⟩
   rw[Co.done,hg1,if_pos rfl]
   exact ⟨d0,d1,d2,d3,d4,d5,rfl,hI3.co⟩
 · exact bad E s3 he3 hE hg1
omit hc
variable {id:Nat} {t:TypeId} {d0 d1 d2 d3 d4 d5:D} {k:Co}
theorem u_z (hI:CoIn σ0 σ id t (cfC c0 c1 c2 c3 c4 c) [] d0 d1 d2 d3 d4 d5 k)(r:Int) :
   Pure Tryz.prog e_z [.one (.el (.osl id 0 1) 0 0),iA r] σ (match a_k k.Routes r with | none=> .tup [.one .nilp,iA 20] | some _=> .tup [.one (.el d1 r.toNat 0),iA 0]):=by
 have hs:=hI.at.routes.size
 rw[List.length_map] at hs
 refine w_e _ r σ _ ⟨trivial,_,_,_,rfl,_,a_d hI.row,d1,rfl,hI.at.routes.lenK ((b_n _ _ _).use ⟨_,rfl,?_⟩)⟩
 rw[List.length_map,a_u (by omega) (by omega)]
 refine a_q (fun e=>?_) (fun e=>?_)
 · have e:=of_decide_eq_false e
   have:a_k k.Routes r=none:=by
     by_cases h0:r < 0
     · exact c_g h0
     · exact d_u (by omega)
   rw[this];exact ⟨rfl,rfl⟩
 · have e:=of_decide_eq_true e
   obtain ⟨x,hx⟩:=c_s (l:=k.Routes) (i:=r) (by omega) (by omega)
   rw[hx]
   refine ⟨trivial,_,_,_,rfl,_,a_d hI.row,d1,rfl,hI.at.routes.idxK a_x (Int.toNat_of_nonneg e.1).symm (by rw[List.length_map];omega) ⟨rfl,rfl⟩⟩
include hc
theorem a_as (hI:CoIn σ0 σ id t (cfC c0 c1 c2 c3 c4 c) [] d0 d1 d2 d3 d4 d5 k){r s o:Int}(ho:a_k k.Own s=some o)(hlo: -2≤o∧o≤c.Rts.length)(hr:0≤r∧r < c.Rts.length) :
   Pure Tryz.prog f_b [.one (.el (.osl id 0 1) 0 0),iA r,iA s] σ (.a (bA (k.inh c r s))):=by
 obtain ⟨g1,g2,g3⟩:=a_l ho
 have w:w64 (o - 1) =o - 1:=a_u (by omega) (by have:=(j_s (hc σ));obtain ⟨rows,ha,hl⟩:=this;have:=ha.size;omega)
 have hi:k.inh c r s=(decide (0≤o - 1∧o - 1≠r) && (decide ((c.rt (o - 1)).Exit=(c.rt r).Entry) && inL (c.rt (o - 1)).Overlap s)):=by
   unfold Co.inh;rw[ho];rfl
 have no:¬(0≤o - 1∧o - 1≠r)→k.inh c r s=false:=fun e=>by rw[hi,decide_eq_false e];rfl
 refine p_8 _ r s σ _ ⟨trivial,_,_,_,rfl,_,a_d hI.row,d0,rfl,hI.at.own.load (a_c g3) c_int (Int.toNat_of_nonneg g1).symm ⟨o,rfl,?_⟩⟩
 rw[w]
 refine bcd (fun e=>by rw[no (by omega)];exact ⟨rfl,rfl⟩) (fun e1=>bce (fun e=>by rw[no (by omega)];exact ⟨rfl,rfl⟩) (fun e2=>?_))
 obtain ⟨q,hq⟩:=c_s (l:=c.Rts) (i:=o - 1) e1 (by omega)
 obtain ⟨x,hx⟩:=c_s (l:=c.Rts) (i:=r) (by omega) (by omega)
 obtain ⟨rows,q1,q2,q3,hat,hlen,hrow,f1,f2,f3⟩:=q_3 hc (a_l hq).2.2
 obtain ⟨rows',x1,x2,x3,hat',hlen',hrow',_,_,_⟩:=q_3 hc (a_l hx).2.2
 rw[hi,decide_eq_true (by omega),b_h hq,b_h hx,Bool.true_and]
 refine ⟨trivial,_,_,_,rfl,_,a_d hI.row,c4,rfl,(hat σ).load hrow c_l (by omega) ⟨_,_,_,_,_,_,rfl,trivial,_,_,_,rfl,_,a_d hI.row,c4,rfl,(hat' σ).load hrow' c_l (by omega) ⟨x.Entry,rfl,bce (fun e=>?_) (fun e=>?_)⟩⟩⟩
 · exact (g_x s (f3 σ)).use ⟨_,rfl,by rw[decide_eq_true e];exact ⟨rfl,rfl⟩⟩
 · rw[decide_eq_false e];exact ⟨rfl,rfl⟩
theorem a_kw (hI:CoIn σ0 σ id t (cfC c0 c1 c2 c3 c4 c) [] d0 d1 d2 d3 d4 d5 k){r:Int}{ds:D}{l:List Int}(hl:At Tryz.prog σ a_h ds (l.map Go.Fw.encI))(hr:0≤r∧r < c.Rts.length)
   (hin:∀s ∈ l,∃o,a_k k.Own s=some o) (hlo:∀o ∈ k.Own,-2≤o∧o≤c.Rts.length) :
   Pure Tryz.prog i_p [.one (.el (.osl id 0 1) 0 0),iA r, .one ds] σ (.a (iA (k.may c r l))):=by
 have hs:=hI.at.routes.size
 rw[List.length_map] at hs
 have hls:=hl.size
 rw[List.length_map] at hls
 refine z_u _ r _ σ _ ⟨trivial,_,_,_,rfl,_,a_d hI.row,d1,rfl,hI.at.routes.lenK ⟨fun n s=>s=σ∧Rng k.Routes (fun q=>u_l c l q n.toNat=u_l c l k.Routes 0) n,fun n _=>k.Routes.length - n.toNat,⟨rfl, .start rfl⟩,?_⟩⟩
 rintro n s ⟨rfl,hq⟩
 rw[List.length_map]
 refine bcd (fun hlt=>?_) (fun hge=>?_)
 · obtain ⟨j,x,rfl,hx,hj,hF,nx⟩:=hq.step rfl (by omega) hlt
   rw[u_l,Int.toNat_natCast] at hF
   have next:(decide (x.State≠0) && inL l (c.Approach j)) =false→(s=s∧Rng k.Routes (fun q=>u_l c l q (w64 ((j:Int) +1)).toNat=u_l c l k.Routes 0) (w64 ((j:Int) +1)))∧k.Routes.length - (w64 ((j:Int) +1)).toNat < k.Routes.length - (j:Int).toNat:=fun e=>by
     rw[e,Bool.false_or] at hF
     exact c_0 rfl (nx _ (by rw[a_o (by omega),Int.toNat_natCast];exact hF))
   refine hI.at.routes.load (a_c hx) a_x rfl ⟨x.State,x.Since,x.Next,x.Mark,rfl,bcn (fun e=>?_) (fun e=>next (by rw[decide_eq_false (by simpa using e)];rfl))⟩
   refine ⟨trivial,_,_,_,rfl,_,a_d hI.row,c0,c1,c2,c3,c4,_,_,_,_,rfl,(n_b (hc s) j).use ⟨_,rfl,(g_x _ hl).use ⟨_,rfl,bc (fun e2=>?_) (fun e2=>next (by rw[e2,Bool.and_false]))⟩⟩⟩
   have:u_l c l k.Routes 0=true:=by rw[←hF,e2,decide_eq_true e];rfl
   rw[Co.may,if_pos this];exact ⟨rfl,rfl⟩
 · have hF:=hq.done rfl hge
   have hap:u_l c l k.Routes 0=false:=by rw[←hF];rfl
   have hm:k.may c r l=if k.blocked c r l=true then 22 else 0:=by rw[Co.may,if_neg (by rw[hap];decide)]
   rw[hm]
   refine hl.lenK ⟨fun n s'=>s'=s∧Rng l (fun q=>k.blocked c r q=k.blocked c r l) n,fun n _=>l.length - n.toNat,⟨rfl, .start rfl⟩,?_⟩
   rintro n s' ⟨rfl,hq⟩
   rw[List.length_map]
   refine bcd (fun hlt=>?_) (fun hge=>?_)
   · obtain ⟨j,v,rfl,hv,hj,hF,nx⟩:=hq.step rfl (by omega) hlt
     obtain ⟨o,ho⟩:=hin v (List.mem_of_getElem? hv)
     obtain ⟨g1,g2,g3⟩:=a_l ho
     have hF:((decide ((a_k k.Own v).getD 0≠0) && !k.inh c r v) || k.blocked c r (l.drop (j+1))) =k.blocked c r l:=hF
     rw[ho,Option.getD_some] at hF
     refine hl.load (a_c hv) c_int rfl ⟨v,rfl,trivial,_,_,_,rfl,_,a_d hI.row,d0,rfl,hI.at.own.load (a_c g3) c_int (Int.toNat_of_nonneg g1).symm ⟨o,rfl,bcn (fun e=>?_) (fun e=>?_)⟩⟩
     · refine (a_as hc hI ho (hlo o (d_l ho)) hr).use ⟨_,rfl,a_q (fun e2=>?_) (fun e2=>?_)⟩
       · rw[e2,decide_eq_true e] at hF
         rw[if_pos (by rw[←hF];rfl)];exact ⟨rfl,rfl⟩
       · rw[e2,Bool.not_true,Bool.and_false,Bool.false_or] at hF
         exact c_0 rfl (nx _ hF)
     · rw[decide_eq_false (by simpa using e),Bool.false_and,Bool.false_or] at hF
       exact c_0 rfl (nx _ hF)
   · have hF:=hq.done rfl hge
     rw[if_neg (by rw[←hF];show ¬(false=true);decide)];exact ⟨rfl,rfl⟩
end
end
section
variable {σ σ0:Store}
def a_gt (xs:List A)(s:Store) :Prop:=∃(m:Mv) (now cmd:Int),xs=[.agg m.enc,iA now,iA cmd]
def s_n (xs:List A)(s:Store)(r:RV)(s':Store) :Prop:=∃(m:Mv) (now cmd:Int),xs=[.agg m.enc,iA now,iA cmd]∧r= .a (.agg (g_k m now cmd).enc)∧s'=s
theorem z_7 (m:Mv)(now cmd:Int) :Pure Tryz.prog b_5 [.agg m.enc,iA now,iA cmd] σ (.a (.agg (g_k m now cmd).enc)):=
 a_dc m.Cmd m.Other now cmd σ _ (bcn (fun e=>⟨by rw[g_k,if_pos e];rfl,rfl⟩) (fun e=>⟨by rw[g_k,if_neg (by simpa using e)];rfl,rfl⟩))
theorem x_4:h_o Tryz.prog b_5 a_gt s_n:=by
 refine ⟨?_,?_,?_,?_,?_⟩
 · rintro xs s ⟨m,now,cmd,rfl⟩
   exact (z_7 m now cmd).use ⟨m,now,cmd,rfl,rfl,rfl⟩
 · rintro xs s ⟨m,now,cmd,rfl⟩ hf
   exact ⟨_,s,⟨m,now,cmd,rfl,rfl,rfl⟩,hf⟩
 · rintro xs s r s' ⟨m,now,cmd,rfl,rfl,rfl⟩ hf
   exact hf
 · rintro xs s id so hid hso ⟨m,now,cmd,rfl⟩
   refine ⟨⟨m,now,cmd,rfl⟩,?_⟩
   rintro r s' ⟨m,now,cmd,e,rfl,rfl⟩
   exact ⟨s,⟨m,now,cmd,e,rfl,rfl⟩,hid,rfl⟩
 · rintro xs s r s' _ ⟨m,now,cmd,rfl,rfl,rfl⟩ i _
   rfl
theorem x_s {m:Mv}{now cmd:Int}{s s':Store}{r:RV}(h:s_n [.agg m.enc,iA now,iA cmd] s r s') :r= .a (.agg (g_k m now cmd).enc)∧s'=s:=by
 obtain ⟨m',now',cmd',e,h1,h2⟩:=h
 injection e with e1 e2
 injection e2 with e2 e3
 injection e3 with e3 _
 injection e1 with e1
 injection e2 with e2
 injection e3 with e3
 injection e2 with _ e2
 injection e3 with _ e3
 subst e2 e3
 have:m=m':=by
   cases m;cases m'
   simp[Mv.enc,iD] at e1
   simp[e1]
 subst this
 exact ⟨h1,h2⟩
section
variable {c0 c1 c2 c3 c4:D} {c:Cf} (hc:∀s,CfAt s c0 c1 c2 c3 c4 c) {id:Nat} {t:TypeId} {d0 d1 d2 d3 d4 d5:D} {k:Co}
include hc
theorem a_hw (hI:CoIn σ0 σ id t (cfC c0 c1 c2 c3 c4 c) [] d0 d1 d2 d3 d4 d5 k)(hok:c.check=0)(hl4:k.Lines.length=4){r:Int}{x:Rt}(hx:a_k c.Rts r=some x) :
   Pure Tryz.prog h_x [.one (.el (.osl id 0 1) 0 0),iA r] σ (.a (.one (if a_5 c x.Path > 0 then .el d4 (a_5 c x.Path).toNat 0 else .nilp))):=by
 have hr:=b_k hok (d_l hx)
 obtain ⟨rows,q1,q2,q3,hat,hlen,hrow,f1,f2,f3⟩:=q_3 hc (a_l hx).2.2
 have hg:=a_l hx
 have w1:=hr.len
 refine y_d _ r σ _ ⟨trivial,_,_,_,rfl,_,a_d hI.row,c4,rfl,(hat σ).load hrow c_l (by omega) ⟨q1,rfl,(f1 σ).lenK ⟨fun n s=>s=σ∧Rng x.Path (fun q=>a_5 c q=a_5 c x.Path) n,fun n _=>x.Path.length - n.toNat,⟨rfl, .start rfl⟩,?_⟩⟩⟩
 rintro n s ⟨rfl,hq⟩
 rw[List.length_map]
 refine bcd (fun hlt=>?_) (fun hge=>?_)
 · obtain ⟨j,y,rfl,hy,hj,hF,nx⟩:=hq.step rfl (by omega) hlt
   obtain ⟨z,hz,_⟩:=(hr.step y (List.mem_of_getElem? hy)).1.sec
   have hgz:=a_l hz
   rw[a_5,hz,Option.getD_some] at hF
   refine (f1 s).load (a_c hy) i_l rfl ⟨y.Sec,y.In,y.Out,rfl,trivial,_,_,_,rfl,_,a_d hI.row,c0,rfl,(hc s).secs.load (a_c hgz.2.2) b_z (Int.toNat_of_nonneg hgz.1).symm ⟨z.Line,rfl,bcd (fun e=>?_) (fun e=>?_)⟩⟩
   · rw[if_pos e] at hF
     rw[←hF,if_pos e]
     have hz3:=k_e (h_e hok).1 hgz.2.2
     exact ⟨trivial,_,_,_,rfl,_,a_d hI.row,d4,rfl,hI.at.lines.idxK c_a (Int.toNat_of_nonneg (by omega)).symm (by rw[List.length_map];omega) ⟨rfl,rfl⟩⟩
   · rw[if_neg e] at hF
     exact c_0 rfl (nx _ hF)
 · have hF:=hq.done rfl hge
   rw[←hF];exact ⟨rfl,rfl⟩
theorem a_cy (hI:CoIn σ0 σ id t (cfC c0 c1 c2 c3 c4 c) [] d0 d1 d2 d3 d4 d5 k)(hz:u_s c4)(hfit:k.fits c=true)(now r:Int) :
   DCalls Tryz.prog f_s [.one (.el (.osl id 0 1) 0 0),iA now,iA r] σ fun q s'=>q= .a (iA (k.reqE c r))∧Ext σ0 s'∧(k.reqE c r=0→CoIn σ0 s' id t (cfC c0 c1 c2 c3 c4 c) [] d0 d1 d2 d3 d4 d5 (k.lockC c now r)):=by
 have hfi:=fits_iff.1 hfit
 have hok:=hfi.chk
 have err:∀e:Int,k.reqE c r=e→e≠0→(RV.a (iA e) =RV.a (iA (k.reqE c r))∧Ext σ0 σ∧(k.reqE c r=0→CoIn σ0 σ id t (cfC c0 c1 c2 c3 c4 c) [] d0 d1 d2 d3 d4 d5 (k.lockC c now r))):=fun e h1 h2=>
   ⟨by rw[h1],hI.ext,fun h3=>absurd (h1.symm.trans h3) h2⟩
 refine r_z _ now r σ _ ((u_z hI r).use ?_)
 cases hgr:a_k k.Routes r with
 | none=>exact ⟨_,_,rfl,err 20 (by rw[Co.reqE,hgr]) (by decide)⟩
 | some x=>
   have hgx:=a_l hgr
   have hsz:=hI.at.routes.size
   rw[List.length_map] at hsz
   have hxl:=(List.getElem?_eq_some_iff.1 hgx.2.2).1
   have hE:k.reqE c r=if x.State≠0 then 28 else if k.may c r (c.lockL r)≠0 then k.may c r (c.lockL r) else if a_5 c (c.rt r).Path > 0∧((a_k k.Lines (a_5 c (c.rt r).Path)).getD zLs).Ask≥4294967295 then 5 else 0:=by
     rw[Co.reqE,hgr]
   obtain ⟨y,hy,hym⟩:=a_sv hfi hgr
   have hrok:=b_k hok hym
   have hyl:=(List.getElem?_eq_some_iff.1 (a_l hy).2.2).1
   have hcl:c.Rts.length=k.Routes.length:=hfi.lRts.symm
   have hll:c.lockL r=Cf.lockR y:=by unfold Cf.lockL;rw[hy]
   have hsec:∀s ∈ c.lockL r,∃z,a_k c.Secs s=some z:=fun s hs=>a_a4 hrok (by rw[←hll];exact hs)
   refine ⟨_,_,rfl,?_⟩
   show a_b ((0:Int) != 0) _ _
   rw[show ((0:Int) != 0) =false from by decide]
   refine ⟨trivial,_,_,_,rfl,_,hI.at.routes.row (a_c hgx.2.2),x.State,rfl,bcn (fun e=>err 28 (by rw[hE,if_pos e]) (by decide)) (fun e1=>?_)⟩
   rw[if_neg (by simpa using e1)] at hE
   refine ⟨trivial,_,_,_,rfl,_,a_d hI.row,c0,c1,c2,c3,c4,_,_,_,_,rfl,(a_ig hc hok hz r).mono ?_⟩
   rintro q s ⟨rfl,d7,rfl,h7⟩
   have hin:∀v ∈ c.lockL r,∃o,a_k k.Own v=some o:=fun v hv=>by
     obtain ⟨z,hz⟩:=hsec v hv
     have hg:=a_l hz
     have:=(List.getElem?_eq_some_iff.1 hg.2.2).1
     exact c_s (by omega) (by have:=hfi.lOwn;omega)
   refine ⟨d7,rfl,(a_kw hc hI (h7 s) (by omega) hin hfi.own).use ⟨_,rfl,bcn (fun e=>err _ (by rw[hE,if_pos e]) e) (fun e2=>?_)⟩⟩
   rw[if_neg (by simpa using e2),b_h hy] at hE
   intro R hR
   have body:(a_5 c y.Path > 0→((a_k k.Lines (a_5 c y.Path)).getD zLs).Ask < 4294967295)→∀s3,CoIn σ0 s3 id t (cfC c0 c1 c2 c3 c4 c) [] d0 d1 d2 d3 d4 d5 { k with Lines:=k_1 (a_5 c y.Path) k.Lines }→R s3:=by
     intro hask s3 hI3
     have hE0:k.reqE c r=0:=by rw[hE,if_neg (by intro h;have:=hask h.1;omega)]
     refine hR s3 ?_
     have hz7:=(h7 s3).size
     rw[List.length_map] at hz7
     refine (h7 s3).lenK ⟨fun n s=>∃j:Nat,n=j∧j≤(c.lockL r).length∧CoIn σ0 s id t (cfC c0 c1 c2 c3 c4 c) [] d0 d1 d2 d3 d4 d5 { k with Lines:=k_1 (a_5 c y.Path) k.Lines,Own:=((c.lockL r).take j).foldl (fun w s=>w.set s.toNat (r+1)) k.Own },
       fun n _=>(c.lockL r).length - n.toNat,⟨0,rfl,by omega,by simpa using hI3⟩,?_⟩
     rintro n s4 ⟨j,rfl,hj,hI4⟩
     rw[List.length_map]
     refine bcd (fun hlt=>?_) (fun hge=>?_)
     · obtain ⟨v,hv⟩:=a_i (l:=c.lockL r) (j:=j) (by omega)
       obtain ⟨o,ho⟩:=hin v (List.mem_of_getElem? hv)
       have hgo:=a_l ho
       have hvl:=(List.getElem?_eq_some_iff.1 hgo.2.2).1
       have hlo:=x_6 (r+1) ((c.lockL r).take j) k.Own
       obtain ⟨o',ho'⟩:=a_i (l:=((c.lockL r).take j).foldl (fun w s=>w.set s.toNat (r+1)) k.Own) (j:=v.toNat) (by omega)
       refine (h7 s4).load (a_c hv) c_int rfl ⟨v,rfl,trivial,_,_,_,rfl,_,a_d hI4.row,d0,rfl,hI4.at.own.idxK c_int (Int.toNat_of_nonneg hgo.1).symm (by simp only[List.length_map];omega) ?_⟩
       rw[a_u (n:=r+1) (by omega) (by omega)]
       refine hI4.putO (k:= { k with Lines:=k_1 (a_5 c y.Path) k.Lines,Own:=((c.lockL r).take j).foldl (fun w s=>w.set s.toNat (r+1)) k.Own }) (y:=r+1) ho' rfl (by simp) rfl fun s5 hI5 _=>?_
       rw[a_o (by omega)]
       refine ⟨⟨j+1,rfl,by omega,?_⟩,c_w (by omega)⟩
       rw[List.take_add_one,hv,List.foldl_append]
       exact hI5
     have e:j=(c.lockL r).length:=by omega
     rw[e,List.take_length] at hI4
     have hxr:=hgx.2.2
     refine ⟨trivial,_,_,_,rfl,hI4.putR (k:= { k with Lines:=k_1 (a_5 c y.Path) k.Lines,Own:=(c.lockL r).foldl (fun w s=>w.set s.toNat (r+1)) k.Own }) (y:=⟨1,0,0,0⟩) hxr rfl (by simp) rfl fun s5 hI5 _=>?_⟩
     have hyn:(c.rt r).Path.length≤2 ^ 20:=by rw[b_h hy];have:=hrok.len;omega
     have hyf:(c.rt r).Flank.length≤2 ^ 20:=by rw[b_h hy];have:=hrok.flen;omega
     refine ⟨trivial,_,_,_,rfl,_,a_d hI5.row,c0,c1,c2,c3,c4,_,_,_,_,rfl,(l_d hc r hyn hyf).mono ?_⟩
     rintro q s6 ⟨rfl,d13,rfl,h13⟩
     have hnl:(c.Needs r).length≤41:=by
       rw[Cf.Needs,b_h hy]
       have:=s_t c y
       have:=hrok.len;have:=hrok.flen;omega
     refine ⟨d13,rfl,(h13 s6).lenK ⟨fun n s=>∃j:Nat,n=j∧j≤(c.Needs r).length∧CoIn σ0 s id t (cfC c0 c1 c2 c3 c4 c) [] d0 d1 d2 d3 d4 d5 { k with Lines:=k_1 (a_5 c y.Path) k.Lines,Own:=(c.lockL r).foldl (fun w s=>w.set s.toNat (r+1)) k.Own,Routes:=k.Routes.set r.toNat ⟨1,0,0,0⟩,Points:=j_w now ((c.Needs r).take j) k.Points },
       fun n _=>(c.Needs r).length - n.toNat,⟨0,rfl,by omega,hI5⟩,?_⟩⟩
     rintro n s7 ⟨j,rfl,hj,hI7⟩
     rw[List.length_map]
     refine bcd (fun hlt=>?_) (fun hge=>?_)
     · obtain ⟨nd,hnd⟩:=a_i (l:=c.Needs r) (j:=j) (by omega)
       have hnm:=List.mem_of_getElem? hnd
       obtain ⟨⟨z,hz⟩,_⟩:=n_h hrok (by rw[Cf.Needs,b_h hy] at hnm;exact hnm)
       have hgz:=a_l hz
       have hzl:=(List.getElem?_eq_some_iff.1 hgz.2.2).1
       have hpl:=a_e6 now ((c.Needs r).take j) k.Points
       have hpl2:=hfi.lPts
       obtain ⟨m,hm⟩:=a_i (l:=j_w now ((c.Needs r).take j) k.Points) (j:=nd.Sec.toNat) (by omega)
       have hgm:a_k (j_w now ((c.Needs r).take j) k.Points) nd.Sec=some m:=by unfold a_k;rw[if_neg (by omega),hm]
       refine (h13 s7).load (a_c hnd) n_4 rfl ⟨nd.Sec,nd.Pos,rfl,a_gt,s_n,x_4,trivial,_,_,_,rfl,_,a_d hI7.row,d2,rfl,trivial,_,_,_,rfl,_,a_d hI7.row,d2,rfl,
         hI7.at.points.load (a_c hm) c_r (Int.toNat_of_nonneg hgz.1).symm ⟨m.Cmd,m.Other,rfl,⟨m,now,nd.Pos,rfl⟩,?_⟩⟩
       intro q s8 hq
       obtain ⟨rfl,rfl⟩:=x_s (m:=m) hq
       refine ⟨_,_,rfl,hI7.at.points.idxK c_r (Int.toNat_of_nonneg hgz.1).symm (by simp only[List.length_map];omega) ?_⟩
       refine hI7.putP (k:= { k with Lines:=k_1 (a_5 c y.Path) k.Lines,Own:=(c.lockL r).foldl (fun w s=>w.set s.toNat (r+1)) k.Own,Routes:=k.Routes.set r.toNat ⟨1,0,0,0⟩,Points:=j_w now ((c.Needs r).take j) k.Points }) (y:=g_k m now nd.Pos) hm rfl (by simp) rfl fun s9 hI9 _=>?_
       rw[a_o (by omega)]
       refine ⟨⟨j+1,rfl,by omega,?_⟩,c_w (by omega)⟩
       have e:j_w now ((c.Needs r).take (j+1)) k.Points=(j_w now ((c.Needs r).take j) k.Points).set nd.Sec.toNat (g_k m now nd.Pos):=by
         rw[List.take_add_one,hnd,j_w,List.foldl_append]
         show (j_w now ((c.Needs r).take j) k.Points).set nd.Sec.toNat (g_k ((a_k (j_w now ((c.Needs r).take j) k.Points) nd.Sec).getD ⟨0,0⟩) now nd.Pos) =_
         rw[hgm];rfl
       rw[e];exact hI9
     have e:j=(c.Needs r).length:=by omega
     rw[e,List.take_length] at hI7
     have hxs:=(x_7 hok).2.2
     refine ⟨trivial,_,_,_,rfl,_,a_d hI7.row,c0,c1,c2,c3,c4,_,_,_,_,rfl,(g_1 hc r (by omega)).mono ?_⟩
     rintro q s8 ⟨rfl,d19,rfl,h19⟩
     have hcl2:(c.Cross r).length≤c.Xs.length:=l_g _ _ _
     refine ⟨d19,rfl,(h19 s8).lenK ⟨fun n s=>∃j:Nat,n=j∧j≤(c.Cross r).length∧CoIn σ0 s id t (cfC c0 c1 c2 c3 c4 c) [] d0 d1 d2 d3 d4 d5 { k with Lines:=k_1 (a_5 c y.Path) k.Lines,Own:=(c.lockL r).foldl (fun w s=>w.set s.toNat (r+1)) k.Own,Routes:=k.Routes.set r.toNat ⟨1,0,0,0⟩,Points:=j_w now (c.Needs r) k.Points,Xs:=xsC now ((c.Cross r).take j) k.Xs },
       fun n _=>(c.Cross r).length - n.toNat,⟨0,rfl,by omega,hI7⟩,?_⟩⟩
     rintro n s9 ⟨j,rfl,hj,hI9⟩
     rw[List.length_map]
     refine bcd (fun hlt=>?_) (fun hge=>?_)
     · obtain ⟨v,hv⟩:=a_i (l:=c.Cross r) (j:=j) (by omega)
       obtain ⟨i,xx,e3,hxx,_⟩:=g_y _ _ _ _ (List.mem_of_getElem? hv)
       rw[Nat.zero_add] at e3
       subst e3
       have hil:=(List.getElem?_eq_some_iff.1 hxx).1
       have hpl:=a_mk now ((c.Cross r).take j) k.Xs
       have hpl2:=hfi.lXs
       obtain ⟨m,hm⟩:=a_i (l:=xsC now ((c.Cross r).take j) k.Xs) (j:=i) (by omega)
       have hgm:a_k (xsC now ((c.Cross r).take j) k.Xs) (i:Int) =some m:=by rw[e_p,hm]
       refine (h19 s9).load (a_c hv) c_int rfl ⟨(i:Int),rfl,a_gt,s_n,x_4,trivial,_,_,_,rfl,_,a_d hI9.row,d3,rfl,trivial,_,_,_,rfl,_,a_d hI9.row,d3,rfl,
         hI9.at.xs.load (a_c hm) c_r rfl ⟨m.Cmd,m.Other,rfl,⟨m,now,1,rfl⟩,?_⟩⟩
       intro q s10 hq
       obtain ⟨rfl,rfl⟩:=x_s (m:=m) hq
       refine ⟨_,_,rfl,hI9.at.xs.idxK c_r rfl (by simp only[List.length_map];omega) ?_⟩
       refine hI9.putX (k:= { k with Lines:=k_1 (a_5 c y.Path) k.Lines,Own:=(c.lockL r).foldl (fun w s=>w.set s.toNat (r+1)) k.Own,Routes:=k.Routes.set r.toNat ⟨1,0,0,0⟩,Points:=j_w now (c.Needs r) k.Points,Xs:=xsC now ((c.Cross r).take j) k.Xs }) (y:=g_k m now 1) hm (by rw[Int.toNat_natCast]) (by simp) rfl fun s11 hI11 _=>?_
       rw[a_o (by omega)]
       refine ⟨⟨j+1,rfl,by omega,?_⟩,c_w (by omega)⟩
       have e:xsC now ((c.Cross r).take (j+1)) k.Xs=(xsC now ((c.Cross r).take j) k.Xs).set i (g_k m now 1):=by
         rw[List.take_add_one,hv,xsC,List.foldl_append]
         show (xsC now ((c.Cross r).take j) k.Xs).set ((i:Int)).toNat (g_k ((a_k (xsC now ((c.Cross r).take j) k.Xs) (i:Int)).getD ⟨0,0⟩) now 1) =_
         rw[hgm];rfl
       rw[e];exact hI11
     have e:j=(c.Cross r).length:=by omega
     rw[e,List.take_length] at hI9
     refine ⟨trivial,_,_,_,rfl,hI9.dirty (b:=true) rfl fun s10 hI10 _=>⟨by rw[hE0],hI10.ext,fun _=>?_⟩⟩
     have:k.lockC c now r= { k with Lines:=k_1 (a_5 c y.Path) k.Lines,Own:=(c.lockL r).foldl (fun w s=>w.set s.toNat (r+1)) k.Own,Routes:=k.Routes.set r.toNat ⟨1,0,0,0⟩,Points:=j_w now (c.Needs r) k.Points,Xs:=xsC now (c.Cross r) k.Xs,Dirty:=true } :=by
       rw[Co.lockC,b_h hy]
     rw[this];exact hI10
   refine (a_hw hc hI hok hfi.lLn hy).use ⟨_,rfl,?_⟩
   by_cases hl:a_5 c y.Path > 0
   · rw[if_pos hl]
     have hl3:=(x_r hok y.Path).2
     obtain ⟨u,hu⟩:=a_i (l:=k.Lines) (j:=(a_5 c y.Path).toNat) (by have:=hfi.lLn;omega)
     have hgu:a_k k.Lines (a_5 c y.Path) =some u:=by unfold a_k;rw[if_neg (by omega),hu]
     refine ⟨false,rfl,?_⟩
     show a_b (false != true) _ _
     rw[show (false != true) =true from by decide]
     refine ⟨trivial,_,_,_,rfl,_,hI.at.lines.row (a_c hu),u.Ask,rfl,bcd (fun e=>err 5 (by rw[hE,if_pos ⟨hl,by rw[hgu];exact e⟩]) (by decide)) (fun e3=>?_)⟩
     refine ⟨trivial,_,_,_,rfl,_,hI.at.lines.row (a_c hu),u.Ask,rfl,trivial,_,_,_,rfl,?_⟩
     have hua:=(hfi.lns u (List.mem_of_getElem? hu))
     simp only[Ls.fits,tm,Bool.and_eq_true,decide_eq_true_eq] at hua
     rw[a_u (n:=u.Ask+1) (by omega) (by omega)]
     refine hI.putL (y:= { u with Ask:=u.Ask+1 }) hu rfl (by simp) rfl fun s4 hI4 _=>body (fun _=>by rw[hgu];show u.Ask < 4294967295;omega) s4 ?_
     have:k_1 (a_5 c y.Path) k.Lines=k.Lines.set (a_5 c y.Path).toNat { u with Ask:=u.Ask+1 } :=by rw[k_1,if_pos hl,hgu];rfl
     rw[this];exact hI4
   · rw[if_neg hl]
     refine ⟨true,rfl,?_⟩
     show a_b (true != true) _ _
     rw[show (true != true) =false from by decide]
     refine body (fun h=>absurd h hl) s ?_
     have:k_1 (a_5 c y.Path) k.Lines=k.Lines:=by rw[k_1,if_neg hl]
     rw[this];exact hI
end
end
section
variable {σ σ0:Store}
theorem a_v {s s':Store}{id:Nat}{t:TypeId}{rows:List (List D)}(h:s id= .live t rows)(he:Ext s s') :s' id= .live t rows:=(he id (by rw[h];intro e;cases e)).trans h
theorem CoPost.from {σ1 s:Store}{p:Co × Int}{r:RV}(he:Ext σ σ1)(h:CoPost σ1 p r s) :CoPost σ p r s:=by
 obtain ⟨d0,d1,d2,d3,d4,d5,e,ho⟩:=h
 exact ⟨d0,d1,d2,d3,d4,d5,e,ho.from he⟩
theorem CoPost.pass {s:Store}{p:Co × Int}{r:RV}{Q:RV→Store→Prop}(h:CoPost σ p r s)(hq:Q r s) :
   ∃d d1 d2 d3 d4 d5:D,∃b:Bool,∃n1:Int,r= .tup [.agg [d,d1,d2,d3,d4,d5, .bool b], .one (.int .i64 n1)]∧Q (.tup [.agg [d,d1,d2,d3,d4,d5, .bool b], .one (.int .i64 n1)]) s:=by
 obtain ⟨d0,d1,d2,d3,d4,d5,e,ho⟩:=h
 refine ⟨d0,d1,d2,d3,d4,d5,p.1.Dirty,p.2,e,?_⟩
 rw[←e];exact hq
section
variable {c0 c1 c2 c3 c4 k0 k1 k2 k3 k4 k5:D} {c:Cf} (hc:∀s,CfAt s c0 c1 c2 c3 c4 c) {k:Co} (h:CoAt σ k0 k1 k2 k3 k4 k5 k) (hf:CoFit k0 k1 k2 k3 k4 k5 k)
include hc h hf
theorem a_am (hz:u_s c4)(now r:Int) :DCalls Tryz.prog j_h [cfA c0 c1 c2 c3 c4 c,coA k0 k1 k2 k3 k4 k5 k.Dirty,iA now,iA r] σ (CoPost σ (k.requestC c now r)):=by
 refine a_dt _ _ _ _ _ _ _ _ _ k0 k1 k2 k3 k4 k5 k.Dirty now r σ _ (a_e fun id s1 hid _ e1 q1=>a_e fun id1 s2 hid1 _ e2 q2=>?_)
 have q12:=a_v q1 e2
 refine ⟨_,a_d q12,now,rfl,(g_w hc (h.ext' (e1.trans e2)) hf now (bs:= [.one (.el (.osl id 0 1) 0 0), .one (.el (.osl id1 0 1) 0 0)]) (E:=k.reqE c r) (Y:=k.lockC c now r) rfl ?_).mono fun q s3 hp=>hp.pass (hp.from (e1.trans e2))⟩
 intro hfit ht id' d0 d1 d2 d3 d4 d5 s3 he hI
 refine x_c _ _ _ s3 _ ⟨_,_,_,rfl,_,a_d (a_v q12 he),now,rfl,_,_,_,rfl,_,a_d (a_v q2 he),r,rfl,(a_cy hc hI hz hfit now r).mono ?_⟩
 rintro q s4 ⟨rfl,w1,w2⟩
 exact ⟨_,rfl,rfl,w1,w2⟩
theorem m_o (r to now:Int){fr:List Int}{fd:D}(hfr:At Tryz.prog σ a_h fd (fr.map Go.Fw.encI)) :
   DCalls Tryz.prog h_j [cfA c0 c1 c2 c3 c4 c,coA k0 k1 k2 k3 k4 k5 k.Dirty,iA r,iA to,iA now, .one fd] σ (CoPost σ (k.leadC c r to now fr)):=by
 refine a_k2 _ _ _ _ _ _ _ _ _ k0 k1 k2 k3 k4 k5 k.Dirty r to now fd σ _ (a_e fun i1 s1 _ _ e1 q1=>a_e fun i2 s2 _ _ e2 q2=>a_e fun i3 s3 _ _ e3 q3=>a_e fun i4 s4 _ _ e4 q4=>?_)
 have g3:=a_v q3 e4
 have g2:=a_v (a_v q2 e3) e4
 have g1:=a_v (a_v (a_v q1 e2) e3) e4
 have eA:Ext σ s4:=((e1.trans e2).trans e3).trans e4
 refine ⟨_,a_d g3,now,rfl,(g_w hc (h.ext' eA) hf now (bs:= [.one (.el (.osl i1 0 1) 0 0), .one (.el (.osl i4 0 1) 0 0), .one (.el (.osl i2 0 1) 0 0), .one (.el (.osl i3 0 1) 0 0)]) (E:=k.leadE r fr) (Y:=k.leadY r to now) rfl ?_).mono fun q s5 hp=>hp.pass (hp.from eA)⟩
 intro hfit ht id d0 d1 d2 d3 d4 d5 s he hI
 refine a_ea _ _ _ _ _ s _ ⟨_,_,_,rfl,_,a_d (a_v g1 he),r,rfl,(u_z hI r).use ?_⟩
 have err:∀e:Int,k.leadE r fr=e→e≠0→(RV.a (iA e) =RV.a (iA (k.leadE r fr))∧Ext s4 s∧(k.leadE r fr=0→CoIn s4 s id d_d (cfC c0 c1 c2 c3 c4 c) [] d0 d1 d2 d3 d4 d5 (k.leadY r to now))):=fun e h1 h2=>
   ⟨by rw[h1],hI.ext,fun h3=>absurd (h1.symm.trans h3) h2⟩
 cases hgr:a_k k.Routes r with
 | none=>exact ⟨_,_,rfl,err 20 (by rw[Co.leadE,hgr]) (by decide)⟩
 | some x=>
   have hgx:=a_l hgr
   have hE:k.leadE r fr=if inL fr x.State=false then 28 else 0:=by rw[Co.leadE,hgr]
   have hxl:=(List.getElem?_eq_some_iff.1 hgx.2.2).1
   refine ⟨_,_,rfl,?_⟩
   show a_b ((0:Int) != 0) _ _
   rw[show ((0:Int) != 0) =false from by decide]
   refine ⟨_,_,_,rfl,_,a_d (a_v q4 he),fd,rfl,trivial,_,_,_,rfl,_,hI.at.routes.row (a_c hgx.2.2),x.State,rfl,(g_x x.State (hfr.ext (eA.trans he))).use ⟨_,rfl,a_q (fun e=>err 28 (by rw[hE,if_pos e]) (by decide)) (fun e1=>?_)⟩⟩
   rw[if_neg (by rw[e1];decide)] at hE
   refine ⟨_,_,_,rfl,_,a_d (a_v g2 he),to,rfl,trivial,_,_,_,rfl,?_⟩
   have ow:∀{s':Store},CoIn s4 s id d_d (cfC c0 c1 c2 c3 c4 c) [] d0 d1 d2 d3 d4 d5 k→(∀i,a_0 d1≠some i→s' i=s i)→∀{j:Nat} {tt:TypeId} {rows:List (List D)},s4 j= .live tt rows→s' j= .live tt rows:=by
     intro s' _ hs j tt rows hj
     have hne:a_0 d1≠some j:=by
       intro e
       have:=m_s hI.co.routes e
       rw[hj] at this;cases this
     rw[hs j hne];exact a_v hj he
   refine hI.putR (y:= { x with State:=to }) hgx.2.2 rfl (by simp) rfl fun s5 hI5 f5=>?_
   refine ⟨_,_,_,rfl,_,a_d (ow hI f5 g2),to,rfl,bce (fun e2=>?_) (fun e2=>?_)⟩
   · refine ⟨_,_,_,rfl,_,a_d (ow hI f5 g3),now,rfl,trivial,_,_,_,rfl,?_⟩
     refine hI5.putR (x:= { x with State:=to }) (y:= { x with State:=to,Since:=now }) (by show (k.Routes.set r.toNat _)[r.toNat]? =_;rw[List.getElem?_set,if_pos rfl,if_pos hxl]) rfl (by simp) rfl fun s6 hI6 f6=>?_
     refine ⟨trivial,_,_,_,rfl,hI6.putR (x:= { x with State:=to,Since:=now }) (y:= { x with State:=to,Since:=now,Mark:=0 }) (by show ((k.Routes.set r.toNat _).set r.toNat _)[r.toNat]? =_;rw[List.getElem?_set,if_pos rfl,if_pos (by simpa using hxl)]) rfl (by simp) rfl fun s7 hI7 f7=>?_⟩
     refine ⟨trivial,_,_,_,rfl,hI7.dirty (b:=true) rfl fun s8 hI8 _=>⟨by rw[hE],hI8.ext,fun _=>?_⟩⟩
     have:k.leadY r to now= { k with Routes:=((k.Routes.set r.toNat { x with State:=to }).set r.toNat { x with State:=to,Since:=now }).set r.toNat { x with State:=to,Since:=now,Mark:=0 },Dirty:=true } :=by
       rw[List.set_set,List.set_set,Co.leadY,if_pos e2,hgr];rfl
     rw[this];exact hI8
   · refine ⟨by rw[hE],hI5.ext,fun _=>?_⟩
     have:k.leadY r to now= { k with Routes:=k.Routes.set r.toNat { x with State:=to } } :=by rw[Co.leadY,if_neg e2,hgr];rfl
     rw[this];exact hI5
theorem a_gj (now s:Int) :DCalls Tryz.prog m_0 [cfA c0 c1 c2 c3 c4 c,coA k0 k1 k2 k3 k4 k5 k.Dirty,iA now,iA s] σ (CoPost σ (k.resetC c now s)):=by
 refine a_h4 _ _ _ _ _ _ _ _ _ k0 k1 k2 k3 k4 k5 k.Dirty now s σ _ (a_e fun i1 s1 _ _ e1 q1=>a_e fun i2 s2 _ _ e2 q2=>?_)
 have g1:=a_v q1 e2
 have eA:Ext σ s2:=e1.trans e2
 refine ⟨_,a_d g1,now,rfl,(g_w hc (h.ext' eA) hf now (bs:= [.one (.el (.osl i2 0 1) 0 0), .one (.el (.osl i1 0 1) 0 0)]) (E:=k.resetE s) (Y:= { k with Resets:=k.Resets.set s.toNat (now+1) }) rfl ?_).mono fun q s5 hp=>hp.pass (hp.from eA)⟩
 intro hfit ht id d0 d1 d2 d3 d4 d5 s3 he hI
 have hfi:=fits_iff.1 hfit
 have hsz:=hI.at.own.size
 rw[List.length_map] at hsz
 have err:∀e:Int,k.resetE s=e→e≠0→(RV.a (iA e) =RV.a (iA (k.resetE s))∧Ext s2 s3∧(k.resetE s=0→CoIn s2 s3 id d_d (cfC c0 c1 c2 c3 c4 c) [] d0 d1 d2 d3 d4 d5 { k with Resets:=k.Resets.set s.toNat (now+1) })):=fun e h1 h2=>
   ⟨by rw[h1],hI.ext,fun h3=>absurd (h1.symm.trans h3) h2⟩
 refine a_cs _ _ _ s3 _ ⟨_,_,_,rfl,_,a_d (a_v q2 he),s,rfl,trivial,_,_,_,rfl,_,a_d hI.row,d0,rfl,hI.at.own.lenK ((b_n _ _ _).use ⟨_,rfl,?_⟩)⟩
 rw[List.length_map,a_u (by omega) (by omega)]
 refine a_q (fun e=>err 20 ?_ (by decide)) (fun e=>?_)
 · have e:=of_decide_eq_false e
   have:a_k k.Own s=none:=by
     by_cases h0:s < 0
     · exact c_g h0
     · exact d_u (by omega)
   rw[Co.resetE,this]
 · have e:=of_decide_eq_true e
   obtain ⟨o,ho⟩:=c_s (l:=k.Own) (i:=s) (by omega) (by omega)
   have hE:k.resetE s=if o≠-1 then 28 else 0:=by rw[Co.resetE,ho]
   obtain ⟨z,hz⟩:=a_i (l:=k.Resets) (j:=s.toNat) (by have:=hfi.lOwn;have:=hfi.lRes;omega)
   refine ⟨trivial,_,_,_,rfl,_,a_d hI.row,d0,rfl,_,_,_,rfl,_,a_d (a_v q2 he),s,rfl,hI.at.own.load (a_c (a_l ho).2.2) c_int (Int.toNat_of_nonneg e.1).symm ⟨o,rfl,bcn (fun e2=>err 28 (by rw[hE,if_pos e2]) (by decide)) (fun e2=>?_)⟩⟩
   rw[if_neg (by simpa using e2)] at hE
   simp only[tm,decide_eq_true_eq] at ht
   refine ⟨trivial,_,_,_,rfl,_,a_d hI.row,d5,rfl,_,_,_,rfl,_,a_d (a_v q2 he),s,rfl,_,_,_,rfl,_,a_d (a_v g1 he),now,rfl,hI.at.resets.idxK c_int (Int.toNat_of_nonneg e.1).symm (by rw[List.length_map];exact (List.getElem?_eq_some_iff.1 hz).1) ?_⟩
   rw[a_u (n:=now+1) (by omega) (by omega)]
   exact hI.putZ (y:=now+1) hz rfl (by simp) rfl fun s4 hI4 _=>⟨by rw[hE],hI4.ext,fun _=>hI4⟩
theorem a_em (now s pos:Int) :DCalls Tryz.prog m_r [cfA c0 c1 c2 c3 c4 c,coA k0 k1 k2 k3 k4 k5 k.Dirty,iA now,iA s,iA pos] σ (CoPost σ (k.throwC c now s pos)):=by
 refine a_im _ _ _ _ _ _ _ _ _ k0 k1 k2 k3 k4 k5 k.Dirty now s pos σ _ (a_e fun i1 s1 _ _ e1 q1=>a_e fun i2 s2 _ _ e2 q2=>a_e fun i3 s2' _ _ e3 q3=>?_)
 have g2:=a_v q2 e3
 have g1:=a_v (a_v q1 e2) e3
 have eA:Ext σ s2':=(e1.trans e2).trans e3
 refine ⟨_,a_d g1,now,rfl,(g_w hc (h.ext' eA) hf now (bs:= [.one (.el (.osl i2 0 1) 0 0), .one (.el (.osl i3 0 1) 0 0), .one (.el (.osl i1 0 1) 0 0)]) (E:=k.throwE c s pos) (Y:= { k with Points:=k.Points.set s.toNat (g_k ((a_k k.Points s).getD ⟨0,0⟩) now pos) }) rfl ?_).mono fun q s5 hp=>hp.pass (hp.from eA)⟩
 intro hfit ht id d0 d1 d2 d3 d4 d5 s3 he hI
 have hfi:=fits_iff.1 hfit
 have hsz:=hI.at.own.size
 rw[List.length_map] at hsz
 have err:∀e:Int,k.throwE c s pos=e→e≠0→(RV.a (iA e) =RV.a (iA (k.throwE c s pos))∧Ext s2' s3∧(k.throwE c s pos=0→CoIn s2' s3 id d_d (cfC c0 c1 c2 c3 c4 c) [] d0 d1 d2 d3 d4 d5 { k with Points:=k.Points.set s.toNat (g_k ((a_k k.Points s).getD ⟨0,0⟩) now pos) })):=fun e h1 h2=>
   ⟨by rw[h1],hI.ext,fun h3=>absurd (h1.symm.trans h3) h2⟩
 refine a_dn _ _ _ _ s3 _ ?_
 intro R hR
 have p1:=a_d (a_v g2 he)
 have p2:=a_d (a_v q3 he)
 have p3:=a_d (a_v g1 he)
 have body:(0≤s∧s < k.Own.length)→k.throwE c s pos=0→R s3:=fun hs hE=>by
   refine hR s3 ?_
   obtain ⟨m,hm⟩:=a_i (l:=k.Points) (j:=s.toNat) (by have:=hfi.lOwn;have:=hfi.lPts;omega)
   have hgm:a_k k.Points s=some m:=by unfold a_k;rw[if_neg (by omega),hm]
   have hml:=(List.getElem?_eq_some_iff.1 hm).1
   refine ⟨a_gt,s_n,x_4,trivial,_,_,_,rfl,_,a_d hI.row,d2,rfl,_,_,_,rfl,_,p1,s,rfl,trivial,_,_,_,rfl,_,a_d hI.row,d2,rfl,_,_,_,rfl,_,p1,s,rfl,
     hI.at.points.load (a_c hm) c_r (Int.toNat_of_nonneg hs.1).symm ⟨m.Cmd,m.Other,rfl,_,_,_,rfl,_,p3,now,rfl,_,_,_,rfl,_,p2,pos,rfl,⟨m,now,pos,rfl⟩,?_⟩⟩
   intro q s8 hq
   obtain ⟨rfl,rfl⟩:=x_s (m:=m) hq
   refine ⟨_,_,rfl,hI.at.points.idxK c_r (Int.toNat_of_nonneg hs.1).symm (by rw[List.length_map];exact hml) ?_⟩
   refine hI.putP (y:=g_k m now pos) hm rfl (by simp) rfl fun s9 hI9 _=>⟨by rw[hE],hI9.ext,fun _=>?_⟩
   rw[hgm];exact hI9
 refine ⟨_,_,_,rfl,_,p1,s,rfl,trivial,_,_,_,rfl,_,a_d hI.row,d0,rfl,hI.at.own.lenK ((b_n _ _ _).use ⟨_,rfl,?_⟩)⟩
 rw[List.length_map,a_u (by omega) (by omega)]
 refine a_q (fun e=>err 20 ?_ (by decide)) (fun e=>?_)
 · have e:=of_decide_eq_false e
   have:a_k k.Own s=none:=by
     by_cases h0:s < 0
     · exact c_g h0
     · exact d_u (by omega)
   rw[Co.throwE,this]
 · have e:=of_decide_eq_true e
   obtain ⟨o,ho⟩:=c_s (l:=k.Own) (i:=s) (by omega) (by omega)
   obtain ⟨z,hz⟩:=c_s (l:=c.Secs) (i:=s) (by omega) (by have:=hfi.lOwn;omega)
   have hE:k.throwE c s pos=if z.Kind≠1 then 20 else if pos≠1∧pos≠2 then 32 else if o≠0 then 22 else 0:=by rw[Co.throwE,ho,h_b hz]
   refine ⟨trivial,_,_,_,rfl,_,a_d hI.row,c0,rfl,_,_,_,rfl,_,p1,s,rfl,(hc s3).secs.load (a_c (a_l hz).2.2) b_z (Int.toNat_of_nonneg e.1).symm ⟨z.Kind,rfl,bcn (fun e2=>err 20 (by rw[hE,if_pos e2]) (by decide)) (fun e2=>?_)⟩⟩
   rw[if_neg (by simpa using e2)] at hE
   have own:∀{X:Prop},(pos=1∨pos=2)→(o≠0→k.throwE c s pos=22)∧(o=0→k.throwE c s pos=0):=fun hp=>by
     rw[if_neg (by omega)] at hE
     exact ⟨fun h=>by rw[hE,if_pos h],fun h=>by rw[hE,if_neg (by simpa using h)]⟩
   refine ⟨_,_,_,rfl,_,p2,pos,rfl,bcn (fun e3=>⟨_,_,_,rfl,_,p2,pos,rfl,bcn (fun e4=>err 32 (by rw[hE,if_pos ⟨e3,e4⟩]) (by decide)) (fun e4=>?_)⟩) (fun e3=>?_)⟩
   · refine ⟨trivial,_,_,_,rfl,_,a_d hI.row,d0,rfl,_,_,_,rfl,_,p1,s,rfl,hI.at.own.load (a_c (a_l ho).2.2) c_int (Int.toNat_of_nonneg e.1).symm ⟨o,rfl,bcn (fun e5=>err 22 ((own (X:=True) (.inr e4)).1 e5) (by decide)) (fun e5=>body (by omega) ((own (X:=True) (.inr e4)).2 e5))⟩⟩
   · refine ⟨trivial,_,_,_,rfl,_,a_d hI.row,d0,rfl,_,_,_,rfl,_,p1,s,rfl,hI.at.own.load (a_c (a_l ho).2.2) c_int (Int.toNat_of_nonneg e.1).symm ⟨o,rfl,bcn (fun e5=>err 22 ((own (X:=True) (.inl e3)).1 e5) (by decide)) (fun e5=>body (by omega) ((own (X:=True) (.inl e3)).2 e5))⟩⟩
theorem a_do (now r:Int) :DCalls Tryz.prog l_i [cfA c0 c1 c2 c3 c4 c,coA k0 k1 k2 k3 k4 k5 k.Dirty,iA now,iA r] σ (CoPost σ (k.cancelC c now r)):=
 a_ez _ _ _ _ _ _ _ _ _ k0 k1 k2 k3 k4 k5 k.Dirty now r σ _ (a_e fun i1 s1 _ _ e1 q1=>
   (m_o hc (h.ext' e1) hf r 4 now (fr:= [1,2,3]) (At.fresh q1 (by simp) rfl)).mono fun q s5 hp=>hp.pass (hp.from e1))
theorem a_ao (now r:Int) :DCalls Tryz.prog j_m [cfA c0 c1 c2 c3 c4 c,coA k0 k1 k2 k3 k4 k5 k.Dirty,iA now,iA r] σ (CoPost σ (k.releaseC c now r)):=
 a_cc _ _ _ _ _ _ _ _ _ k0 k1 k2 k3 k4 k5 k.Dirty now r σ _ (a_e fun i1 s1 _ _ e1 q1=>
   (m_o hc (h.ext' e1) hf r 4 now (fr:= [5]) (At.fresh q1 (by simp) rfl)).mono fun q s5 hp=>hp.pass (hp.from e1))
theorem a_ae (r:Int) :DCalls Tryz.prog j_j [cfA c0 c1 c2 c3 c4 c,coA k0 k1 k2 k3 k4 k5 k.Dirty,iA r] σ (CoPost σ (k.restoreC c r)):=
 a_df _ _ _ _ _ _ _ _ _ k0 k1 k2 k3 k4 k5 k.Dirty r σ _ (a_e fun i1 s1 _ _ e1 q1=>
   (m_o hc (h.ext' e1) hf r 1 0 (fr:= [3]) (At.fresh q1 (by simp) rfl)).mono fun q s5 hp=>hp.pass (hp.from e1))
end
end
section
theorem a_t7 {row:List D}{n:Nat}(h:tyD Tryz.prog n l_v row) :∃r:Rt,((∀s,RtAt Tryz.prog d_v b_a a_h s row r)∧RtI r)∧row[4]?≠some .zsl:=by
 obtain ⟨_,_,rfl,⟨a,rfl,ha⟩,_,_,rfl,⟨b,rfl,hb⟩,d1,_,rfl,h1,d2,_,rfl,h2,d3,_,rfl,h3,_,_,rfl,⟨sh,rfl⟩,rfl⟩:=q_s n 5 _ _ [.int .i64, .int .i64, .sl d_v, .sl b_a, .sl a_h, .bool] h (by kernel_rfl)
 obtain ⟨l1,a1,b1,_,e1⟩:=h_s (bytes:=24) St.enc _ (fun row n h=>a_wf h) (by kernel_rfl) (by omega) h1
 obtain ⟨l2,a2,b2,_,e2⟩:=h_s (bytes:=16) Nd.enc _ (fun row n h=>a_wp h) (by kernel_rfl) (by omega) h2
 obtain ⟨l3,a3,b3,z3,e3⟩:=h_s (bytes:=8) Go.Fw.encI _ (fun row n h=>ty_i h) (by kernel_rfl) (by omega) h3
 exact ⟨⟨a,b,l1,l2,l3,sh⟩,⟨fun s=>⟨d1,d2,d3,rfl,a1 s,a2 s,a3 s⟩,f_h ha,f_h hb,b1,b2,b3,e1,e2,e3⟩,fun e=>z3 (by injection e)⟩
theorem a_ru {cs:List D}{n:Nat}(h:tyD Tryz.prog n t_Config cs) :∃c0 c1 c2 c3 c4 c,cs=[c0,c1,c2,c3,c4,iD c.Age,iD c.Brake,iD c.Hold,iD c.Budget]∧(∀s,CfAt s c0 c1 c2 c3 c4 c)∧CfI c∧u_s c4:=by
 obtain ⟨c0,_,rfl,h0,c1,_,rfl,h1,c2,_,rfl,h2,c3,_,rfl,h3,c4,_,rfl,h4,_,_,rfl,⟨a,rfl,ha⟩,_,_,rfl,⟨b,rfl,hb⟩,_,_,rfl,⟨ho,rfl,hho⟩,_,_,rfl,⟨bu,rfl,hbu⟩,rfl⟩:=
   q_s n 5 _ _ [.sl i_a, .sl j_4, .sl e_6, .sl a_h, .sl l_v, .int .i64, .int .i64, .int .i64, .int .i64] h (by kernel_rfl)
 obtain ⟨l0,a0,b0,_,e0⟩:=h_s (bytes:=24) Sec.enc _ (fun row n h=>a_qm h) (by kernel_rfl) (by omega) h0
 obtain ⟨l1,a1,b1,_,e1⟩:=h_s (bytes:=32) Jt.enc _ (fun row n h=>a_v0 h) (by kernel_rfl) (by omega) h1
 obtain ⟨l2,a2,b2,_,e2⟩:=h_s (bytes:=16) Sg.enc _ (fun row n h=>a_ta h) (by kernel_rfl) (by omega) h2
 obtain ⟨l3,a3,b3,_,e3⟩:=h_s (bytes:=8) Go.Fw.encI _ (fun row n h=>ty_i h) (by kernel_rfl) (by omega) h3
 obtain ⟨rows,l4,a4,q4,b4,_,e4⟩:=a_vf (bytes:=96) (fun row r=>((∀s,RtAt Tryz.prog d_v b_a a_h s row r)∧RtI r)∧row[4]?≠some .zsl) (fun row n h=>a_t7 h) (by kernel_rfl) (by omega) h4
 refine ⟨c0,c1,c2,c3,c4,⟨l0,l1,l2,l3,l4,a,b,ho,bu⟩,rfl,fun s=>⟨a0 s,a1 s,a2 s,a3 s,rows,a4 s,q4,fun i row r x y=>(b4 i row r x y).1.1 s⟩,⟨b0,b1,b2,b3,?_,f_h ha,f_h hb,f_h hho,f_h hbu,e0,e1,e2,e3,e4⟩,?_⟩
 · intro r hr
   obtain ⟨i,hi⟩:=List.mem_iff_getElem?.1 hr
   have hi:l4[i]? =some r:=hi
   have hlt:=(List.getElem?_eq_some_iff.1 hi).1
   obtain ⟨row,hrow⟩:=a_i (l:=rows) (j:=i) (by omega)
   exact (b4 i row r hrow hi).1.2
 · have hr:=(a4 noS).rows
   cases c4 <;> first | trivial | skip
   obtain ⟨rfl,_⟩:=hr
   intro row hrow
   obtain ⟨i,hi⟩:=List.mem_iff_getElem?.1 hrow
   have hlt:=(List.getElem?_eq_some_iff.1 hi).1
   obtain ⟨r,hr⟩:=a_i (l:=l4) (j:=i) (by omega)
   exact (b4 i row r hi hr).2
end
end Go.Proofs.YtdmfnhbmhkgemaaGreat
namespace Go.Fw
section
theorem a_vi {c:Cf}{k:Co}(hf:FitIs c k)(now:Int){r:Int}{y:Rt}(hy:a_k c.Rts r=some y){v:Int}(hv:v ∈ c.lockL r) :a_k (k.lockC c now r).Own v=some (r+1):=by
 have hr:=b_k hf.chk (d_l hy)
 have hll:c.lockL r=Cf.lockR y:=by unfold Cf.lockL;rw[hy]
 have hsec:∀s ∈ c.lockL r,∃z,a_k c.Secs s=some z:=fun s hs=>a_a4 hr (by rw[←hll];exact hs)
 obtain ⟨z,hz⟩:=hsec v hv
 have hgz:=a_l hz
 have hzl:=(List.getElem?_eq_some_iff.1 hgz.2.2).1
 unfold a_k
 rw[if_neg (by omega)]
 show ((c.lockL r).foldl (fun w s=>w.set s.toNat (r+1)) k.Own)[v.toNat]? =_
 rw[a_g1 (c.lockL r) k.Own (fun x hx=>by obtain ⟨z,hz⟩:=hsec x hx;exact (a_l hz).1) (by have:=hf.lOwn;omega),if_pos (by rw[Int.toNat_of_nonneg hgz.1];exact hv)]
theorem q_h {c:Cf}{k:Co}(h:k.fits c=true) :k.Own.length≤16∧k.Routes.length≤12∧k.Points.length≤16∧k.Xs.length≤4∧k.Lines.length=4∧k.Resets.length≤16:=by
 have hf:=fits_iff.1 h
 have hs:=a_y hf.chk
 have:=hf.lOwn;have:=hf.lRts;have:=hf.lPts;have:=hf.lXs;have:=hf.lLn;have:=hf.lRes
 omega
end
end Go.Fw
namespace Go.Proofs.YtdmfnhbmhkgemaaGreat
open Go.Fw Go.Proofs Go.RowKit
section
variable {σ σ0:Store}
section
variable {c0 c1 c2 c3 c4 k0 k1 k2 k3 k4 k5:D} {c:Cf} (hc:∀s,CfAt s c0 c1 c2 c3 c4 c) {k:Co}
include hc
theorem y_w {b:Bool}(hk:At Tryz.prog σ a_h k0 (k.Own.map Go.Fw.encI)){r s o:Int}(ho:a_k k.Own s=some o)(hlo: -2≤o∧o≤c.Rts.length)(hr:0≤r∧r < c.Rts.length) :
   Pure Tryz.prog i_e [cfA c0 c1 c2 c3 c4 c,coA k0 k1 k2 k3 k4 k5 b,iA r,iA s] σ (.a (bA (k.inh c r s))):=by
 obtain ⟨g1,g2,g3⟩:=a_l ho
 have w:w64 (o - 1) =o - 1:=a_u (by omega) (by have:=(j_s (hc σ));obtain ⟨rows,ha,hl⟩:=this;have:=ha.size;omega)
 have hi:k.inh c r s=(decide (0≤o - 1∧o - 1≠r) && (decide ((c.rt (o - 1)).Exit=(c.rt r).Entry) && inL (c.rt (o - 1)).Overlap s)):=by
   unfold Co.inh;rw[ho];rfl
 have no:¬(0≤o - 1∧o - 1≠r)→k.inh c r s=false:=fun e=>by rw[hi,decide_eq_false e];rfl
 refine a_ah _ _ _ _ _ _ _ _ _ k0 k1 k2 k3 k4 k5 b r s σ _ (hk.load (a_c g3) c_int (Int.toNat_of_nonneg g1).symm ⟨o,rfl,?_⟩)
 rw[w]
 refine bcd (fun e1=>bcn (fun e2=>?_) (fun e=>by rw[no (by omega)];exact ⟨rfl,rfl⟩)) (fun e=>by rw[no (by omega)];exact ⟨rfl,rfl⟩)
 obtain ⟨q,hq⟩:=c_s (l:=c.Rts) (i:=o - 1) (by omega) (by omega)
 obtain ⟨x,hx⟩:=c_s (l:=c.Rts) (i:=r) (by omega) (by omega)
 obtain ⟨rows,q1,q2,q3,hat,hlen,hrow,f1,f2,f3⟩:=q_3 hc (a_l hq).2.2
 obtain ⟨rows',x1,x2,x3,hat',hlen',hrow',_,_,_⟩:=q_3 hc (a_l hx).2.2
 rw[hi,decide_eq_true (by omega),b_h hq,b_h hx,Bool.true_and]
 refine (hat σ).load hrow c_l (by omega) ⟨q.Exit,rfl,(hat' σ).load hrow' c_l (by omega) ⟨x.Entry,rfl,bce (fun e=>?_) (fun e=>?_)⟩⟩
 · exact (hat σ).load hrow c_l (by omega) ⟨q3,rfl,(a_pc s (f3 σ)).use ⟨_,rfl,by rw[decide_eq_true e];exact ⟨rfl,rfl⟩⟩⟩
 · rw[decide_eq_false e];exact ⟨rfl,rfl⟩
variable (hk:CoFz k0 k1 k2 k3 k4 k5 k)
include hk
end
end
end Go.Proofs.YtdmfnhbmhkgemaaGreat
