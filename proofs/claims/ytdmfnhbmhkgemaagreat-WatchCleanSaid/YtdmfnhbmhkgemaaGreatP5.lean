/-
  Proofs that the statement of this claim leans on: part 5.
-/
import Derived.Test.YtdmfnhbmhkgemaaGreatP4
set_option linter.unusedVariables false
set_option linter.unusedSimpArgs false
namespace Go.Proofs.YtdmfnhbmhkgemaaGreat
open Go.Fw Go.Proofs Go.RowKit
open Go.Proofs.Tryz (prog)
section
variable {σ:Store}
section
variable {c0 c1 c2 c3 c4:D} {c:Cf}
theorem o_a (h:CfAt σ c0 c1 c2 c3 c4 c)(line:Int) :Pure prog g_y [cfA c0 c1 c2 c3 c4 c,iA line] σ (.a (iA (c.lineSec line))):=by
 refine .of (a_db _ _ _ _ _ _ _ _ _ line σ _ (a_d fun id σ1 hid _ he hs=>?_)) (a_wo _)
 refine ⟨_,a_e hs,line,rfl,bcd (fun h1=>⟨by rw[Cf.lineSec,if_pos h1],he⟩) (fun h1=>?_)⟩
 refine (i_6 (p:=fun x=>x.Line == line) (h.secs.ext he) (a_ge hs fun x _=>?_)).use ⟨_,rfl,by rw[Cf.lineSec,if_neg h1],he⟩
 exact y_z x.Kind x.OC x.Line _ σ1 _ ⟨_,_,_,rfl,_,a_e hs,line,rfl,rfl,rfl⟩
theorem a_bh (h:CfAt σ c0 c1 c2 c3 c4 c)(line:Int) :Pure prog j_p [cfA c0 c1 c2 c3 c4 c,iA line] σ (.a (iA (c.lineSec line))):=by
 have hl:=h.secs.size
 rw[List.length_map] at hl
 refine a_d1 _ _ _ _ _ _ _ _ _ line σ _ (h.secs.lenK ⟨fun n s=>s=σ∧Rng c.Secs (fun r=>(if line < 1 then (-1:Int) else d_z (fun s:Sec=>s.Line == line) r n.toNat) =c.lineSec line) n,fun n _=>c.Secs.length - n.toNat,⟨rfl, .start rfl⟩,?_⟩)
 rintro n τ ⟨rfl,hr⟩
 refine bcd (fun hlt=>?_) (fun hge=>?_)
 · obtain ⟨j,x,rfl,hx,hj,hF,nx⟩:=hr.step (by simp) hl hlt
   refine h.secs.load (a_c hx) b_n rfl ⟨x.Kind,x.OC,x.Line,rfl,?_⟩
   rw[d_z] at hF
   have hw:w64 ((j:Int) +1) =((j+1:Nat) :Int):=a_m (by omega)
   have go:(x.Line == line) =false∨line < 1→(τ=τ∧Rng c.Secs (fun r=>(if line < 1 then (-1:Int) else d_z (fun s:Sec=>s.Line == line) r (w64 ((j:Int) +1)).toNat) =c.lineSec line) (w64 ((j:Int) +1)))∧c.Secs.length - (w64 ((j:Int) +1)).toNat < c.Secs.length - (j:Int).toNat:=by
     intro hor
     refine c_6 rfl (nx (fun r=>(if line < 1 then (-1:Int) else d_z (fun s:Sec=>s.Line == line) r (w64 ((j:Int) +1)).toNat) =c.lineSec line) ?_)
     rw[←hF,hw]
     split
     · rfl
     · rcases hor with hor | hor
       · rw[if_neg (by rw[hor];simp)];rfl
       · omega
   refine bc (fun h1=>bcd (fun h2=>⟨?_,rfl⟩) (fun h2=>go (.inr (by omega)))) (fun h1=>go (.inl h1))
   rw[if_neg (by omega),if_pos h1] at hF
   rw[←hF];rfl
 · have hF:=hr.done (by simp) hge
   refine ⟨?_,rfl⟩
   rw[←hF,d_z]
   split <;> rfl
end
structure CoFit (k0 k1 k2 k3 k4 k5:D) (k:Co) :Prop where
 n0:k0≠ .zsl
 n1:k1≠ .zsl
 n2:k2≠ .zsl
 n3:k3≠ .zsl
 n4:k4≠ .zsl
 n5:k5≠ .zsl
 b0:8 * k.Own.length≤140737488355328
 b1:32 * k.Routes.length≤140737488355328
 b2:16 * k.Points.length≤140737488355328
 b3:16 * k.Xs.length≤140737488355328
 b4:64 * k.Lines.length≤140737488355328
 b5:8 * k.Resets.length≤140737488355328
theorem a_h {σ0 s s':Store}{el:TypeId}{d:D}{rs:List (List D)}{id:Nat}(h:Own prog σ0 s el d rs)(hid:σ0 id= .free)(hd:a_5 d≠some id)(hs:∀i,i≠id→s' i=s i) :Own prog σ0 s' el d rs:=
 ⟨h.at_.same fun i a n e=>hs i fun e2=>hd (by subst e;rw[←e2];rfl),fun i hi=>by
   have hne:i≠id:=fun e=>hi (by rw[e];exact hid)
   rw[hs i hne];exact h.ext i hi,h.new,h.nsl,h.nz⟩
abbrev a_mg (k0 k1 k2 k3 k4 k5:D)(dirty:Bool)(c0 c1 c2 c3 c4:D)(c:Cf)(v0 v1 v2 v3:D)(now:Int)(was:Bool) :List D:=
 [k0,k1,k2,k3,k4,k5, .bool dirty,c0,c1,c2,c3,c4,iD c.Age,iD c.Brake,iD c.Hold,iD c.Budget,v0,v1,v2,v3,iD now, .bool was]
structure DeskAt (σ0 σ:Store) (id:Nat) (k0 k1 k2 k3 k4 k5:D) (k:Co) (c0 c1 c2 c3 c4:D) (c:Cf) (v0 v1 v2 v3:D) (now:Int) (was:Bool) :Prop where
 new:σ0 id= .free
 row:σ id= .live j_9 [a_mg k0 k1 k2 k3 k4 k5 k.Dirty c0 c1 c2 c3 c4 c v0 v1 v2 v3 now was]
 co:CoOwn σ0 σ k0 k1 k2 k3 k4 k5 k
 ids:∀d ∈ [k0,k1,k2,k3,k4,k5],a_5 d≠some id
 ext:Ext σ0 σ
theorem m_n {c0 c1 c2 c3 c4:D}{c:Cf}{k0 k1 k2 k3 k4 k5:D}{k:Co}(h:CoAt σ k0 k1 k2 k3 k4 k5 k)(hf:CoFit k0 k1 k2 k3 k4 k5 k)(v0 v1 v2 v3:D)(now:Int) :
   DCalls prog b_y [cfA c0 c1 c2 c3 c4 c,coA k0 k1 k2 k3 k4 k5 k.Dirty, .agg [v0,v1,v2,v3],iA now] σ fun r s=>
     ∃id d0 d1 d2 d3 d4 d5,r= .a (.one (.el (.osl id 0 1) 0 0))∧DeskAt σ s id d0 d1 d2 d3 d4 d5 k c0 c1 c2 c3 c4 c v0 v1 v2 v3 now k.Dirty:=by
 refine a_l7 _ _ _ _ _ _ _ _ _ k0 k1 k2 k3 k4 k5 k.Dirty v0 v1 v2 v3 now σ _ (a_d fun id s1 hid _ he1 hs1=>?_)
 have nid:∀{s0 s:Store} {el:TypeId} {d:D} {rs:List (List D)},Own prog s0 s el d rs→s0 id≠ .free→a_5 d≠some id:=by
   intro s0 s el d rs ho hne he
   cases d with
   | osl i a n=>
     have:i=id:=by simpa[a_5] using he
     subst this
     exact hne (ho.new _ _ _ rfl)
   | _=>simp[a_5] at he
 have h1:s1 id≠ .free:=by rw[hs1];intro e;cases e
 have kp:∀{s s':Store},Ext s s'→s id≠ .free→s' id≠ .free:=fun he hn=>by rw[he id hn];exact hn
 refine (d_6 (h.own.ext he1) hf.n0 (by rw[List.length_map];exact hf.b0)).mono ?_
 rintro r s2 ⟨d0,rfl,o0⟩
 have h2:=kp o0.ext h1
 have e2:=he1.trans o0.ext
 refine ⟨d0,rfl,(g_1 (h.lines.ext e2) hf.n4 (by rw[List.length_map];exact hf.b4)).mono ?_⟩
 rintro r s3 ⟨d4,rfl,o4⟩
 have h3:=kp o4.ext h2
 have e3:=e2.trans o4.ext
 have i0:=nid o0 h1
 have i4:=nid o4 h2
 have r3:s3 id= .live j_9 [a_mg k0 k1 k2 k3 k4 k5 k.Dirty c0 c1 c2 c3 c4 c v0 v1 v2 v3 now k.Dirty]:=by
   rw[o4.ext id h2,o0.ext id h1,hs1]
 refine ⟨d4,rfl,b_i r3 (by simp) fun s4 r4 f4=>b_i r4 (by simp[patch]) fun s5 r5 f5=>?_⟩
 have f45:∀i,i≠id→s5 i=s3 i:=fun i hi=>(f5 i hi).trans (f4 i hi)
 have o0':=a_h ((o0.ext' o4.ext).from he1) hid i0 f45
 have o4':=a_h (o4.from e2) hid i4 f45
 have a40:Apart d0 d4:=o4.apart o0.at_
 have h5:s5 id≠ .free:=by rw[r5];intro e;cases e
 have e5:Ext σ s5:=o0'.ext
 refine (g_g (h.routes.ext e5) hf.n1 (by rw[List.length_map];exact hf.b1)).mono ?_
 rintro r s6 ⟨d1,rfl,o1⟩
 have h6:=kp o1.ext h5
 have e6:=e5.trans o1.ext
 refine ⟨d1,rfl,(e_n (h.points.ext e6) hf.n2 (by rw[List.length_map];exact hf.b2)).mono ?_⟩
 rintro r s7 ⟨d2,rfl,o2⟩
 have h7:=kp o2.ext h6
 have e7:=e6.trans o2.ext
 refine ⟨d2,rfl,(e_n (h.xs.ext e7) hf.n3 (by rw[List.length_map];exact hf.b3)).mono ?_⟩
 rintro r s8 ⟨d3,rfl,o3⟩
 have h8:=kp o3.ext h7
 have e8:=e7.trans o3.ext
 refine ⟨d3,rfl,(d_6 (h.resets.ext e8) hf.n5 (by rw[List.length_map];exact hf.b5)).mono ?_⟩
 rintro r s9 ⟨d5,rfl,o5⟩
 have r9:s9 id= .live j_9 [patch (patch (a_mg k0 k1 k2 k3 k4 k5 k.Dirty c0 c1 c2 c3 c4 c v0 v1 v2 v3 now k.Dirty) 0 [d0]) 4 [d4]]:=by
   rw[o5.ext id h8,o3.ext id h7,o2.ext id h6,o1.ext id h5,r5]
 refine ⟨d5,rfl,b_i r9 (by simp[patch]) fun t1 q1 g1=>b_i q1 (by simp[patch]) fun t2 q2 g2=>b_i q2 (by simp[patch]) fun t3 q3 g3=>b_i q3 (by simp[patch]) fun t4 q4 g4=>?_⟩
 have g:∀i,i≠id→t4 i=s9 i:=fun i hi=>(g4 i hi).trans ((g3 i hi).trans ((g2 i hi).trans (g1 i hi)))
 have p0:=a_h ((((o0'.ext' o1.ext).ext' o2.ext).ext' o3.ext).ext' o5.ext) hid i0 g
 have p4:=a_h ((((o4'.ext' o1.ext).ext' o2.ext).ext' o3.ext).ext' o5.ext) hid i4 g
 have i1:=nid o1 h5
 have i2:=nid o2 h6
 have i3:=nid o3 h7
 have i5:=nid o5 h8
 have p1:=a_h ((((o1.from e5).ext' o2.ext).ext' o3.ext).ext' o5.ext) hid i1 g
 have p2:=a_h (((o2.from e6).ext' o3.ext).ext' o5.ext) hid i2 g
 have p3:=a_h ((o3.from e7).ext' o5.ext) hid i3 g
 have p5:=a_h (o5.from e8) hid i5 g
 refine ⟨id,d0,d1,d2,d3,d4,d5,rfl,hid,q4,⟨p0,p1,p2,p3,p4,p5,?_⟩,?_,p0.ext⟩
 · have w6:=o0'.at_.ext o1.ext
   have w7:=w6.ext o2.ext
   have w8:=w7.ext o3.ext
   have u6:=o4'.at_.ext o1.ext
   have u7:=u6.ext o2.ext
   have u8:=u7.ext o3.ext
   have x7:=o1.at_.ext o2.ext
   have x8:=x7.ext o3.ext
   have y8:=o2.at_.ext o3.ext
   simp only[List.pairwise_cons,List.mem_cons,List.not_mem_nil,or_false,forall_eq_or_imp,forall_eq,List.Pairwise.nil,and_true,false_imp_iff,implies_true]
   exact ⟨⟨o1.apart o0'.at_,o2.apart w6,o3.apart w7,a40,o5.apart w8⟩,⟨o2.apart o1.at_,o3.apart x7,(o1.apart o4'.at_).symm,o5.apart x8⟩,⟨o3.apart o2.at_,(o2.apart u6).symm,o5.apart y8⟩,⟨(o3.apart u7).symm,o5.apart o3.at_⟩,o5.apart u8⟩
 · intro d hd
   simp only[List.mem_cons,List.not_mem_nil,or_false] at hd
   rcases hd with rfl | rfl | rfl | rfl | rfl | rfl <;> assumption
end
end Go.Proofs.YtdmfnhbmhkgemaaGreat
namespace Go.Fw
section
def zLs:Ls:=⟨0,0,0,0,0,0,0,0⟩
def e_r (occ:List Lk)(now:Int)(k:Co)(l s:Nat) :Co:=
 let x:=(k.Lines[l]?).getD zLs
 let look:=(occ[s]?).getD ⟨0,0,false⟩
 if x.PDone < x.Grant then { k with Lines:=k.Lines.set l { x with Since:=0 } }
 else if x.Since=0 then { k with Lines:=k.Lines.set l { x with Since:=w64 (now+1) } }
 else if look.Valid=true∧look.Value=0∧x.Since≤look.Stamp then { k with Own:=k.Own.set s 0,Dirty:=true,Lines:=k.Lines.set l { x with Since:=0 } }
 else k
def v_c (c:Cf)(s:Int) :List Rs→Nat→Bool
 | [],_=>false
 | r::l,j=>(decide (r.State≠0) && decide (c.Approach j=s)) || v_c c s l (j+1)
def a_b0 (c:Cf)(k:Co)(x:Ls)(s:Int) :Bool:=
 !(v_c c s k.Routes 0) && (decide (x.PAsk > (if x.PDone > x.Grant then x.PDone else x.Grant)) && decide (x.Ask=x.Done))
def lineStep (c:Cf)(occ:List Lk)(now:Int)(was:Bool)(k:Co)(l s:Nat) :Co:=
 let x:=(k.Lines[l]?).getD zLs
 let o:=(k.Own[s]?).getD 0
 let k':=if o= -2 then e_r occ now k l s
   else if o=0∧a_b0 c k x s=true then { k with Own:=k.Own.set s (-2),Dirty:=true,Lines:=k.Lines.set l { x with Grant:=x.PAsk,Since:=0 } }
   else k
 if was=true then k' else { k' with Lines:=k'.Lines.set l { (k'.Lines[l]?).getD zLs with Told:=x.Grant } }
theorem map_set {α β:Type}(f:α→β)(l:List α)(i:Nat)(x:α) :(l.map f).set i (f x) =(l.set i x).map f:=by simp
end
end Go.Fw
namespace Go.Proofs.YtdmfnhbmhkgemaaGreat
open Go.Fw Go.Proofs Go.RowKit
open Go.Proofs.Tryz (prog)
section
variable {σ:Store}
section
variable {σ0:Store} {id:Nat} {d0 d1 d2 d3 d4 d5 c0 c1 c2 c3 c4 v0 v1 v2 v3:D} {k:Co} {c:Cf} {now:Int} {was:Bool}
theorem n_e {s:Store}{el:TypeId}{d:D}{rs:List (List D)}{i:Nat}(h:Own prog σ0 s el d rs)(hi:a_5 d=some i) :σ0 i= .free:=by
 cases d with
 | osl j a n=>
   have:j=i:=by simpa[a_5] using hi
   subst this
   exact h.new _ _ _ rfl
 | _=>simp[a_5] at hi
theorem pw {l:List D}(h:l.Pairwise Apart){i j:Nat}{a b:D}(hi:l[i]? =some a)(hj:l[j]? =some b)(hne:i≠j) :Apart a b:=by
 obtain ⟨h1,rfl⟩:=List.getElem?_eq_some_iff.1 hi
 obtain ⟨h2,rfl⟩:=List.getElem?_eq_some_iff.1 hj
 rw[List.pairwise_iff_getElem] at h
 rcases Nat.lt_or_gt_of_ne hne with g | g
 · exact h i j h1 h2 g
 · exact (h j i h2 h1 g).symm
theorem a_vt (h:DeskAt σ0 σ id d0 d1 d2 d3 d4 d5 k c0 c1 c2 c3 c4 c v0 v1 v2 v3 now was){j n:Nat}{o w:Int}(hj:k.Own[j]? =some o)(hn:n=j){K:Store→Prop}
   (hK:∀s',DeskAt σ0 s' id d0 d1 d2 d3 d4 d5 { k with Own:=k.Own.set j w } c0 c1 c2 c3 c4 c v0 v1 v2 v3 now was→K s') :a_j [iD w] σ d0 n 0 K:=by
 refine h.co.own.at_.store h.co.own.nsl (a_c hj) hn (by simp[Go.Fw.encI]) fun s' i hi hat hs hne=>hK s' ?_
 have hf:=n_e h.co.own hi
 have ap:∀{m:Nat} {d:D},[d0,d1,d2,d3,d4,d5][m]? =some d→m≠0→a_5 d≠some i:=fun hm hne0=>pw h.co.apart (i:=0) rfl hm (Ne.symm hne0) i hi
 have hii:i≠id:=fun e=>h.ids d0 (by simp) (by rw[hi,e])
 refine ⟨h.new,by rw[hs id (Ne.symm hii)];exact h.row,⟨⟨?_,?_,h.co.own.new,h.co.own.nsl,h.co.own.nz⟩,a_h h.co.routes hf (ap (m:=1) rfl (by omega)) hs,a_h h.co.points hf (ap (m:=2) rfl (by omega)) hs,a_h h.co.xs hf (ap (m:=3) rfl (by omega)) hs,a_h h.co.lines hf (ap (m:=4) rfl (by omega)) hs,a_h h.co.resets hf (ap (m:=5) rfl (by omega)) hs,h.co.apart⟩,h.ids,?_⟩
 · have e:(List.map Go.Fw.encI k.Own).set j (patch (Go.Fw.encI o) 0 [iD w]) =(k.Own.set j w).map Go.Fw.encI:=map_set Go.Fw.encI k.Own j w
   rw[e] at hat;exact hat
 all_goals
   intro i' hi'
   have hne':i'≠i:=fun e=>hi' (by rw[e];exact hf)
   rw[hs i' hne'];exact h.ext i' hi'
theorem i_u (h:DeskAt σ0 σ id d0 d1 d2 d3 d4 d5 k c0 c1 c2 c3 c4 c v0 v1 v2 v3 now was){j n off:Nat}{x y:Ls}{ys:List D}(hj:k.Lines[j]? =some x)(hn:n=j)(ho:off+ys.length≤8)(hp:patch x.enc off ys=y.enc){K:Store→Prop}
   (hK:∀s',DeskAt σ0 s' id d0 d1 d2 d3 d4 d5 { k with Lines:=k.Lines.set j y } c0 c1 c2 c3 c4 c v0 v1 v2 v3 now was→K s') :a_j ys σ d4 n off K:=by
 refine h.co.lines.at_.store h.co.lines.nsl (a_c hj) hn ho fun s' i hi hat hs hne=>hK s' ?_
 have hf:=n_e h.co.lines hi
 have ap:∀{m:Nat} {d:D},[d0,d1,d2,d3,d4,d5][m]? =some d→m≠4→a_5 d≠some i:=fun hm hne0=>pw h.co.apart (i:=4) rfl hm (Ne.symm hne0) i hi
 have hii:i≠id:=fun e=>h.ids d4 (by simp) (by rw[hi,e])
 refine ⟨h.new,by rw[hs id (Ne.symm hii)];exact h.row,⟨a_h h.co.own hf (ap (m:=0) rfl (by omega)) hs,a_h h.co.routes hf (ap (m:=1) rfl (by omega)) hs,a_h h.co.points hf (ap (m:=2) rfl (by omega)) hs,a_h h.co.xs hf (ap (m:=3) rfl (by omega)) hs,⟨?_,?_,h.co.lines.new,h.co.lines.nsl,h.co.lines.nz⟩,a_h h.co.resets hf (ap (m:=5) rfl (by omega)) hs,h.co.apart⟩,h.ids,?_⟩
 · rw[hp,map_set Ls.enc k.Lines j y] at hat;exact hat
 all_goals
   intro i' hi'
   have hne':i'≠i:=fun e=>hi' (by rw[e];exact hf)
   rw[hs i' hne'];exact h.ext i' hi'
theorem a_r7 (h:DeskAt σ0 σ id d0 d1 d2 d3 d4 d5 k c0 c1 c2 c3 c4 c v0 v1 v2 v3 now was){K:Store→Prop}
   (hK:∀s',DeskAt σ0 s' id d0 d1 d2 d3 d4 d5 { k with Dirty:=true } c0 c1 c2 c3 c4 c v0 v1 v2 v3 now was→K s') :a_j [.bool true] σ (.osl id 0 1) 0 6 K:=by
 refine b_i h.row (by simp) fun s' r' hs=>hK s' ?_
 have nt:∀{d:D},d ∈ [d0,d1,d2,d3,d4,d5]→a_5 d≠some id:=fun hd=>h.ids _ hd
 refine ⟨h.new,r',⟨a_h h.co.own h.new (nt (by simp)) hs,a_h h.co.routes h.new (nt (by simp)) hs,a_h h.co.points h.new (nt (by simp)) hs,a_h h.co.xs h.new (nt (by simp)) hs,a_h h.co.lines h.new (nt (by simp)) hs,a_h h.co.resets h.new (nt (by simp)) hs,h.co.apart⟩,h.ids,?_⟩
 intro i' hi'
 have hne':i'≠id:=fun e=>hi' (by rw[e];exact h.new)
 rw[hs i' hne'];exact h.ext i' hi'
abbrev dp (id:Nat) :D:= .el (.osl id 0 1) 0 0
theorem a_cl (h:DeskAt σ0 σ id d0 d1 d2 d3 d4 d5 k c0 c1 c2 c3 c4 c v0 v1 v2 v3 now was){j:Nat}{o w:Int}(hj:k.Own[j]? =some o) :
   DCalls prog f_z [.one (dp id),iA j,iA w] σ fun r s=>r= .tup []∧DeskAt σ0 s id d0 d1 d2 d3 d4 d5 { k with Own:=k.Own.set j w,Dirty:=true } c0 c1 c2 c3 c4 c v0 v1 v2 v3 now was:=by
 have hlt:=(List.getElem?_eq_some_iff.1 hj).1
 refine a_ah (dp id) j w σ _ ⟨trivial,_,_,_,rfl,_,a_e h.row,d0,rfl,h.co.own.at_.idxK c_int rfl (by rw[List.length_map];omega) (a_vt h hj (by omega) fun s1 h1=>⟨trivial,_,_,_,rfl,a_r7 h1 fun s2 h2=>⟨rfl,h2⟩⟩)⟩
end
end
section
variable {σ:Store}
section
variable {σ0:Store} {id:Nat} {d0 d1 d2 d3 d4 d5 c0 c1 c2 c3 c4 v0 v1 v2 v3:D} {k:Co} {c:Cf} {now:Int} {was:Bool} {occ:List Lk}
theorem v_a {l:List Ls}{j:Nat}(a b:Ls) :(l.set j a).set j b=l.set j b:=List.set_set ..
theorem a_lq (h:DeskAt σ0 σ id d0 d1 d2 d3 d4 d5 k c0 c1 c2 c3 c4 c v0 v1 v2 v3 now was)(hv:∀s,At prog s e_k v0 (occ.map Lk.enc)){line s:Nat}{x:Ls}{o:Int}{lk:Lk}
   (hx:k.Lines[line]? =some x) (ho:k.Own[s]? =some o) (hl:occ[s]? =some lk) :
   DCalls prog h_v [.one (dp id), .one (.el d4 line 0),iA s] σ fun r s'=>r= .tup []∧DeskAt σ0 s' id d0 d1 d2 d3 d4 d5 (e_r occ now k line s) c0 c1 c2 c3 c4 c v0 v1 v2 v3 now was:=by
 have lrow:Row σ d4 line x.enc:=h.co.lines.at_.row (a_c hx)
 have hb : e_r occ now k line s = if x.PDone < x.Grant then { k with Lines := k.Lines.set line { x with Since := 0 } }
     else if x.Since=0 then { k with Lines:=k.Lines.set line { x with Since:=w64 (now+1) } }
     else if lk.Valid=true∧lk.Value=0∧x.Since≤lk.Stamp then { k with Own:=k.Own.set s 0,Dirty:=true,Lines:=k.Lines.set line { x with Since:=0 } }
     else k:=by
   unfold e_r;rw[hx,hl];rfl
 refine z_u (dp id) (.el d4 line 0) s σ _ ⟨trivial,_,_,_,rfl,_,a_e h.row,v0,rfl,(hv σ).load (a_c hl) v_t rfl ⟨lk.Value,lk.Stamp,lk.Valid,rfl,trivial,_,_,_,rfl,_,lrow,x.PDone,rfl,trivial,_,_,_,rfl,_,lrow,x.Grant,rfl,?_⟩⟩
 refine bcd (fun h1=>⟨trivial,_,_,_,rfl,i_u h hx rfl (by simp) (y:= { x with Since:=0 }) rfl fun s' h'=>⟨rfl,by rw[hb,if_pos h1];exact h'⟩⟩) (fun h1=>⟨trivial,_,_,_,rfl,_,lrow,x.Since,rfl,?_⟩)
 rw[if_neg h1] at hb
 refine bce (fun h2=>⟨trivial,_,_,_,rfl,_,a_e h.row,now,rfl,trivial,_,_,_,rfl,i_u h hx rfl (by simp) (y:= { x with Since:=w64 (now+1) }) rfl fun s' h'=>⟨rfl,by rw[hb,if_pos h2];exact h'⟩⟩) (fun h2=>?_)
 rw[if_neg h2] at hb
 have no:¬(lk.Valid=true∧lk.Value=0∧x.Since≤lk.Stamp)→(RV.tup []= .tup []∧DeskAt σ0 σ id d0 d1 d2 d3 d4 d5 (e_r occ now k line s) c0 c1 c2 c3 c4 c v0 v1 v2 v3 now was):=fun hn=>⟨rfl,by rw[hb,if_neg hn];exact h⟩
 refine bc (fun h3=>bce (fun h4=>⟨trivial,_,_,_,rfl,_,lrow,x.Since,rfl,bcd (fun h5=>?_) (fun h5=>no fun g=>h5 g.2.2)⟩) (fun h4=>no fun g=>h4 g.2.1)) (fun h3=>no fun g=>by rw[g.1] at h3;cases h3)
 refine (a_cl h (w:=0) ho).mono ?_
 rintro r s' ⟨rfl,h'⟩
 refine ⟨rfl,trivial,_,_,_,rfl,i_u h' (x:=x) hx rfl (by simp) (y:= { x with Since:=0 }) rfl fun s'' h''=>⟨rfl,?_⟩⟩
 rw[hb,if_pos ⟨h3,h4,h5⟩];exact h''
theorem a_p0 (h:DeskAt σ0 σ id d0 d1 d2 d3 d4 d5 k c0 c1 c2 c3 c4 c v0 v1 v2 v3 now was)(hc:∀s,CfAt s c0 c1 c2 c3 c4 c){line:Nat}{x:Ls}(s:Int)(hx:k.Lines[line]? =some x) :
   Pure prog i_t [.one (dp id), .one (.el d4 line 0),iA s] σ (.a (bA (a_b0 c k x s))):=by
 have lrow:Row σ d4 line x.enc:=h.co.lines.at_.row (a_c hx)
 have hl:=h.co.routes.at_.size
 rw[List.length_map] at hl
 refine a_ag (dp id) (.el d4 line 0) s σ _ ⟨trivial,_,_,_,rfl,_,a_e h.row,d1,rfl,h.co.routes.at_.lenK ⟨fun n τ=>τ=σ∧Rng k.Routes (fun r=>v_c c s r n.toNat=v_c c s k.Routes 0) n,fun n _=>k.Routes.length - n.toNat,⟨rfl, .start rfl⟩,?_⟩⟩
 rintro n τ ⟨rfl,hr⟩
 refine bcd (fun hlt=>?_) (fun hge=>?_)
 · obtain ⟨j,y,rfl,hy,hj,hF,nx⟩:=hr.step (by simp) hl hlt
   rw[v_c,Int.toNat_natCast] at hF
   have hw:w64 ((j:Int) +1) =((j+1:Nat) :Int):=a_m (by omega)
   have go:(decide (y.State≠0) && decide (c.Approach j=s)) =false→(τ=τ∧Rng k.Routes (fun r=>v_c c s r (w64 ((j:Int) +1)).toNat=v_c c s k.Routes 0) (w64 ((j:Int) +1)))∧k.Routes.length - (w64 ((j:Int) +1)).toNat < k.Routes.length - (j:Int).toNat:=by
     intro hn
     rw[hn,Bool.false_or] at hF
     refine c_6 rfl (nx (fun r=>v_c c s r (w64 ((j:Int) +1)).toNat=v_c c s k.Routes 0) ?_)
     rw[hw];exact hF
   refine h.co.routes.at_.load (a_c hy) a_x rfl ⟨y.State,y.Since,y.Next,y.Mark,rfl,bcn (fun h1=>⟨trivial,_,_,_,rfl,_,a_e h.row,c0,c1,c2,c3,c4,c.Age,c.Brake,c.Hold,c.Budget,rfl,(n_l (hc τ) j).use ⟨_,rfl,bce (fun h2=>⟨?_,rfl⟩) (fun h2=>go (by simp[h2]))⟩⟩) (fun h1=>go (by simp[h1]))⟩
   have e:(decide (y.State≠0) && decide (c.Approach j=s)) =true:=by simp[h1,h2]
   rw[e,Bool.true_or] at hF
   rw[a_b0,←hF];rfl
 · have hF:false=v_c c s k.Routes 0:=hr.done (by simp) hge
   refine ⟨trivial,_,_,_,rfl,_,lrow,x.PAsk,rfl,trivial,_,_,_,rfl,_,lrow,x.Grant,rfl,trivial,_,_,_,rfl,_,lrow,x.PDone,rfl,bc (fun h1=>⟨trivial,_,_,_,rfl,_,lrow,x.Ask,rfl,trivial,_,_,_,rfl,_,lrow,x.Done,rfl,?_,rfl⟩) (fun h1=>⟨?_,rfl⟩)⟩
   · rw[a_b0,←hF,h1]
     congr 4
   · rw[a_b0,←hF,h1];rfl
theorem a_f7 (occ:List Lk)(now:Int)(k:Co)(l s:Nat){x:Ls}(hx:k.Lines[l]? =some x) :∃y,(e_r occ now k l s).Lines[l]? =some y:=by
 have hlt:=(List.getElem?_eq_some_iff.1 hx).1
 have key:∀y:Ls,(k.Lines.set l y)[l]? =some y:=fun y=>by rw[List.getElem?_set_self hlt]
 unfold e_r
 simp only
 split
 · exact ⟨_,key _⟩
 split
 · exact ⟨_,key _⟩
 split
 · exact ⟨_,key _⟩
 · exact ⟨x,hx⟩
theorem a_mr (h:DeskAt σ0 σ id d0 d1 d2 d3 d4 d5 k c0 c1 c2 c3 c4 c v0 v1 v2 v3 now was)(hc:∀s,CfAt s c0 c1 c2 c3 c4 c)(hv:∀s,At prog s e_k v0 (occ.map Lk.enc)){line s:Nat}{x:Ls}{o:Int}{lk:Lk}
   (hx:k.Lines[line]? =some x) (ho:k.Own[s]? =some o) (hl:occ[s]? =some lk) :
   DCalls prog h_6 [.one (dp id), .one (.el d4 line 0),iA s] σ fun r s'=>r= .tup []∧DeskAt σ0 s' id d0 d1 d2 d3 d4 d5 (lineStep c occ now was k line s) c0 c1 c2 c3 c4 c v0 v1 v2 v3 now was:=by
 have lrow:Row σ d4 line x.enc:=h.co.lines.at_.row (a_c hx)
 refine z_f (dp id) (.el d4 line 0) s σ _ ⟨trivial,_,_,_,rfl,_,lrow,x.Grant,rfl,fun R hR=>?_⟩
 have fin : ∀ (k' : Co) (y : Ls) (s' : Store), k'.Lines[line]? = some y → DeskAt σ0 s' id d0 d1 d2 d3 d4 d5 k' c0 c1 c2 c3 c4 c v0 v1 v2 v3 now was →
     (if o= -2 then e_r occ now k line s else if o=0∧a_b0 c k x s=true then { k with Own:=k.Own.set s (-2),Dirty:=true,Lines:=k.Lines.set line { x with Grant:=x.PAsk,Since:=0 } } else k) =k'→R s':=by
   intro k' y s' hy h' he
   have hstep:lineStep c occ now was k line s=if was=true then k' else { k' with Lines:=k'.Lines.set line { y with Told:=x.Grant } } :=by
     unfold lineStep
     rw[hx,ho]
     simp only[Option.getD_some]
     rw[he,hy]
     rfl
   refine hR s' ⟨trivial,_,_,_,rfl,_,a_e h'.row,was,rfl,a_p (fun hw=>⟨trivial,_,_,_,rfl,i_u h' hy rfl (by simp) (y:= { y with Told:=x.Grant }) rfl fun s'' h''=>⟨rfl,?_⟩⟩) (fun hw=>⟨rfl,?_⟩)⟩
   · rw[hstep,if_neg (by rw[hw];simp)];exact h''
   · rw[hstep,if_pos hw];exact h'
 have hlt:=(List.getElem?_eq_some_iff.1 hx).1
 refine ⟨trivial,_,_,_,rfl,_,a_e h.row,d0,rfl,h.co.own.at_.load (a_c ho) c_int rfl ⟨o,rfl,bce (fun h1=>?_) (fun h1=>⟨trivial,_,_,_,rfl,_,a_e h.row,d0,rfl,h.co.own.at_.load (a_c ho) c_int rfl ⟨o,rfl,bce (fun h2=>?_) (fun h2=>?_)⟩⟩)⟩⟩
 · refine (a_lq h hv hx ho hl).mono ?_
   rintro r s' ⟨rfl,h'⟩
   obtain ⟨y,hy⟩:=a_f7 occ now k line s hx
   exact ⟨rfl,fin _ y s' hy h' (by rw[if_pos h1])⟩
 · refine (a_p0 h hc s hx).use ⟨_,rfl,bc (fun h3=>?_) (fun h3=>fin k x σ hx h (by rw[if_neg h1,if_neg (by rw[h3];simp)]))⟩
   refine (a_cl h (w:= -2) ho).mono ?_
   rintro r s1 ⟨rfl,g1⟩
   have lrow1:Row s1 d4 line x.enc:=g1.co.lines.at_.row (a_c hx)
   refine ⟨rfl,trivial,_,_,_,rfl,_,lrow1,x.PAsk,rfl,trivial,_,_,_,rfl,i_u g1 (x:=x) hx rfl (by simp) (y:= { x with Grant:=x.PAsk }) rfl fun s2 g2=>⟨trivial,_,_,_,rfl,?_⟩⟩
   refine i_u g2 (x:= { x with Grant:=x.PAsk }) (List.getElem?_set_self hlt) rfl (by simp) (y:= { x with Grant:=x.PAsk,Since:=0 }) rfl fun s3 g3=>?_
   refine fin _ { x with Grant:=x.PAsk,Since:=0 } s3 (by rw[v_a];exact List.getElem?_set_self hlt) g3 ?_
   rw[if_neg h1,if_pos ⟨h2,h3⟩,v_a]
 · exact fin k x σ hx h (by rw[if_neg h1,if_neg (fun g=>h2 g.1)])
end
end
end Go.Proofs.YtdmfnhbmhkgemaaGreat
namespace Go.Fw
section
structure Vw where
 Occ:List Lk
 Pos:List Lk
 Shut:List Lk
 Lamp:List Lk
def Vw.fits (c:Cf)(v:Vw) :Bool:=decide (v.Occ.length=c.Secs.length∧v.Pos.length=c.Secs.length∧v.Shut.length=c.Xs.length∧v.Lamp.length=c.Sigs.length)
def stepRun (c:Cf)(occ:List Lk)(now:Int)(was:Bool) :List Nat→Co→Co
 | [],k=>k
 | l::r,k=>stepRun c occ now was r (if 0≤c.lineSec l then lineStep c occ now was k l (c.lineSec l).toNat else k)
def Co.stepC (c:Cf)(k:Co)(v:Vw)(now:Int) :Co × Int:=
 if k.fits c=false∨v.fits c=false then (k,21) else if now < 0∨now > 4294967295 then (k,32) else (stepRun c v.Occ now k.Dirty [1,2,3] k,0)
def Co.hearC (c:Cf)(k:Co)(line a d g:Int) :Co × Int:=
 if k.fits c=false then (k,21) else if c.lineSec line < 0 then (k,20)
 else if a < 0∨d < 0∨g < 0∨a > 4294967295∨d > 4294967295∨g > 4294967295 then (k,32)
 else ({ k with Lines:=k.Lines.set line.toNat { (k.Lines[line.toNat]?).getD zLs with PAsk:=a,PDone:=d,PGrant:=g } },0)
theorem a_lx (c:Cf)(occ:List Lk)(now:Int)(was:Bool)(k:Co)(l s:Nat) :(lineStep c occ now was k l s).Own.length=k.Own.length∧(lineStep c occ now was k l s).Lines.length=k.Lines.length:=by
 have hb:(e_r occ now k l s).Own.length=k.Own.length∧(e_r occ now k l s).Lines.length=k.Lines.length:=by
   unfold e_r
   simp only
   split
   · simp
   split
   · simp
   split <;> simp
 unfold lineStep
 simp only
 split
 · split
   · exact hb
   split <;> simp
 · split
   · simpa using hb
   split <;> simp
theorem a_oc {α:Type}(p:α→Bool) :∀(l:List α) (j:Nat),d_z p l j≠-1→∃(i:Nat) (x:α),l[i]? =some x∧p x=true
 | [],j,h=>absurd rfl h
 | x::r,j,h=>by
   rw[d_z] at h
   by_cases hp:p x=true
   · exact ⟨0,x,rfl,hp⟩
   · rw[if_neg hp] at h
     obtain ⟨i,y,h1,h2⟩:=a_oc p r (j+1) h
     exact ⟨i+1,y,by simpa using h1,h2⟩
theorem k_f {secs:List Sec}{js:List Jt}(h:b_q secs js=true){i:Nat}{s:Sec}(hs:secs[i]? =some s) :0≤s.Line∧s.Line≤3:=by
 unfold b_q at h
 rw[Bool.and_eq_true] at h
 have h2:=h.2
 split at h2
 · cases h2
 · exact ((s_r _ _ _ _).1 h2 i s hs).2.2.1
theorem a_tw {c:Cf}{k:Co}(h:k.fits c=true){line:Int}(hl:¬c.lineSec line < 0) :1≤line∧line≤3:=by
 simp only[Co.fits,Bool.and_eq_true,decide_eq_true_eq] at h
 have ht:=(a_y h.1).1
 unfold Cf.lineSec at hl
 split at hl
 · omega
 · obtain ⟨i,x,h1,h2⟩:=a_oc (fun s:Sec=>s.Line == line) c.Secs 0 (by omega)
   have:=k_f ht h1
   have e:x.Line=line:=by simpa using h2
   omega
theorem f_6 {c:Cf}{k:Co}(h:k.fits c=true) :k.Own.length=c.Secs.length∧k.Points.length=c.Secs.length∧k.Resets.length=c.Secs.length∧k.Routes.length=c.Rts.length∧k.Xs.length=c.Xs.length∧k.Lines.length=4:=by
 simp only[Co.fits,Bool.and_eq_true] at h
 exact of_decide_eq_true h.2.1
end
end Go.Fw
namespace Go.Proofs.YtdmfnhbmhkgemaaGreat
open Go.Fw Go.Proofs Go.RowKit
open Go.Proofs.Tryz (prog)
section
variable {σ:Store}
structure VwAt (v0 v1 v2 v3:D) (v:Vw) :Prop where
 occ:∀s,At prog s e_k v0 (v.Occ.map Lk.enc)
 pos:∀s,At prog s e_k v1 (v.Pos.map Lk.enc)
 shut:∀s,At prog s e_k v2 (v.Shut.map Lk.enc)
 lamp:∀s,At prog s e_k v3 (v.Lamp.map Lk.enc)
def CoPost (σ:Store)(p:Co × Int)(r:RV)(s:Store) :Prop:=
 ∃d0 d1 d2 d3 d4 d5,r= .tup [coA d0 d1 d2 d3 d4 d5 p.1.Dirty,iA p.2]∧CoOwn σ s d0 d1 d2 d3 d4 d5 p.1
section
variable {c0 c1 c2 c3 c4 v0 v1 v2 v3 k0 k1 k2 k3 k4 k5:D} {c:Cf} {k:Co} {v:Vw}
theorem x_k (h:CoAt σ k0 k1 k2 k3 k4 k5 k)(hf:CoFit k0 k1 k2 k3 k4 k5 k)(v0 v1 v2 v3:D)(now:Int)(e:Int){Q:RV→Store→Prop}(hQ:∀r s,CoPost σ (k,e) r s→Q r s) :
   DCalls prog b_y [cfA c0 c1 c2 c3 c4 c,coA k0 k1 k2 k3 k4 k5 k.Dirty, .agg [v0,v1,v2,v3],iA now] σ fun r1 s1=>∃d:D,r1= .a (.one d)∧a_f d∧∃s:D,∃i off:Nat,d= .el s i off∧∃row:List D,Row s1 s i row∧
     ∃d1 d2 d3 d4 d5 d6:D,∃b3:Bool,List.take 7 (List.drop (off+0) row) =[d1,d2,d3,d4,d5,d6, .bool b3]∧Q (.tup [.agg [d1,d2,d3,d4,d5,d6, .bool b3], .one (.int .i64 e)]) s1:=by
 refine (m_n h hf v0 v1 v2 v3 now).mono ?_
 rintro r s ⟨id,d0,d1,d2,d3,d4,d5,rfl,hd⟩
 exact ⟨_,rfl,trivial,_,_,_,rfl,_,a_e hd.row,d0,d1,d2,d3,d4,d5,k.Dirty,rfl,hQ _ _ ⟨d0,d1,d2,d3,d4,d5,rfl,hd.co⟩⟩
theorem a_il (hc:∀s,CfAt s c0 c1 c2 c3 c4 c)(h:CoAt σ k0 k1 k2 k3 k4 k5 k)(hf:CoFit k0 k1 k2 k3 k4 k5 k)(hv:VwAt v0 v1 v2 v3 v)(now:Int) :
   DCalls prog o_r [cfA c0 c1 c2 c3 c4 c,coA k0 k1 k2 k3 k4 k5 k.Dirty, .agg [v0,v1,v2,v3],iA now] σ (CoPost σ (k.stepC c v now)):=by
 refine a_m1 _ _ _ _ _ _ _ _ _ k0 k1 k2 k3 k4 k5 k.Dirty v0 v1 v2 v3 now σ _ ?_
 intro R hR R1 hR1
 have bad:(k.fits c=false∨v.fits c=false)→R1 true σ:=fun hb=>hR1 true σ (x_k h hf _ _ _ _ _ 21 fun r s hp=>by
   have:k.stepC c v now=(k,21):=by rw[Co.stepC,if_pos hb]
   rw[this];exact hp)
 have vf:∀q:Prop,¬(v.Occ.length=c.Secs.length∧v.Pos.length=c.Secs.length∧v.Shut.length=c.Xs.length∧v.Lamp.length=c.Sigs.length)→v.fits c=false:=fun q hn=>decide_eq_false hn
 refine (f_a hc h).use ⟨_,rfl,a_p (fun e=>⟨rfl,bad (.inl e)⟩) (fun e1=>?_)⟩
 refine (hv.occ σ).lenK ((hc σ).secs.lenK (bcn (fun e=>⟨rfl,bad (.inr (vf True fun g=>e (by simp only[List.length_map];omega)))⟩) (fun e2=>?_)))
 refine (hv.pos σ).lenK ((hc σ).secs.lenK (bcn (fun e=>⟨rfl,bad (.inr (vf True fun g=>e (by simp only[List.length_map];omega)))⟩) (fun e3=>?_)))
 refine (hv.shut σ).lenK ((hc σ).xs.lenK (bcn (fun e=>⟨rfl,bad (.inr (vf True fun g=>e (by simp only[List.length_map];omega)))⟩) (fun e4=>?_)))
 refine (hv.lamp σ).lenK ((hc σ).sigs.lenK ⟨rfl,?_⟩)
 simp only[List.length_map] at e2 e3 e4 ⊢
 by_cases e5:(v.Lamp.length:Int) =(c.Sigs.length:Int)
 rotate_left
 · have:((v.Lamp.length:Int) !=(c.Sigs.length:Int)) =true:=by simpa using e5
   rw[this];exact bad (.inr (vf True fun g=>e5 (by omega)))
 have hb:((v.Lamp.length:Int) !=(c.Sigs.length:Int)) =false:=by simpa using e5
 rw[hb]
 have hvf:v.fits c=true:=decide_eq_true ⟨by omega,by omega,by omega,by omega⟩
 have hst:k.stepC c v now=if now < 0∨now > 4294967295 then (k,32) else (stepRun c v.Occ now k.Dirty [1,2,3] k,0):=by
   rw[Co.stepC,if_neg (by rw[e1,hvf];simp)]
 have hlen:k.lens c=true:=by
   have:=e1
   simp only[Co.fits,Bool.and_eq_true] at this
   exact this.2.1
 have hlen:=of_decide_eq_true hlen
 refine hR1 false σ ?_
 show a_b (decide (now < 0)) _ _
 refine bcd (fun e=>x_k h hf _ _ _ _ _ 32 fun r s hp=>by rw[hst,if_pos (.inl e)];exact hp) (fun e6=>bcd (fun e=>x_k h hf _ _ _ _ _ 32 fun r s hp=>by rw[hst,if_pos (.inr e)];exact hp) (fun e7=>?_))
 rw[if_neg (by omega)] at hst
 refine hR _ _ _ _ _ _ _ _ ((m_n h hf v0 v1 v2 v3 now).mono ?_)
 rintro r s1 ⟨id,d0,d1,d2,d3,d4,d5,rfl,hd⟩
 refine ⟨_, rfl, fun n s => ∃ (j : Nat) (k' : Co), n = j ∧ 1 ≤ j ∧ j ≤ 4 ∧ k'.Own.length = c.Secs.length ∧ k'.Lines.length = 4 ∧ DeskAt σ s id d0 d1 d2 d3 d4 d5 k' c0 c1 c2 c3 c4 c v0 v1 v2 v3 now k.Dirty ∧
     stepRun c v.Occ now k.Dirty (List.range' j (4 - j)) k'=stepRun c v.Occ now k.Dirty [1,2,3] k,fun n _=>4 - n.toNat,⟨1,k,rfl,by omega,by omega,hlen.1,hlen.2.2.2.2.2,hd,rfl⟩,?_⟩
 rintro _ s ⟨j,k',rfl,hj1,hj2,ho,hl,hd',hrun⟩
 refine bcd (fun hlt=>(o_a (hc s) j).use ⟨_,rfl,?_⟩) (fun hge=>?_)
 · have hrj : List.range' j (4 - j) = j :: List.range' (j + 1) (4 - (j + 1)) := by
     rw[show 4 - j=(4 - (j+1)) +1 by omega,List.range'_succ]
   rw[hrj,stepRun] at hrun
   have hw:w64 ((j:Int) +1) =((j+1:Nat) :Int):=a_m (by omega)
   rw[hw]
   have hmu:4 - ((j+1:Nat) :Int).toNat < 4 - ((j:Nat) :Int).toNat:=by omega
   refine bcd (fun hs=>?_) (fun hs=>⟨rfl,⟨j+1,k',rfl,by omega,by omega,ho,hl,hd',by rw[if_neg (by omega)] at hrun;exact hrun⟩,hmu⟩)
   rw[if_pos (by omega)] at hrun
   have hsb:=m_k c j
   obtain ⟨si,hsi⟩ :∃si:Nat,c.lineSec j=si:=⟨(c.lineSec j).toNat,by omega⟩
   rw[hsi] at hrun hsb ⊢
   rw[Int.toNat_natCast] at hrun
   obtain ⟨x,hx⟩:=a_g (l:=k'.Lines) (j:=j) (by omega)
   obtain ⟨o,hok⟩:=a_g (l:=k'.Own) (j:=si) (by omega)
   obtain ⟨lk,hlk⟩:=a_g (l:=v.Occ) (j:=si) (by omega)
   refine ⟨trivial,_,_,_,rfl,_,a_e hd'.row,d4,rfl,hd'.co.lines.at_.idxK b_8 rfl (by rw[List.length_map];omega) ((a_mr hd' hc hv.occ hx hok hlk).mono ?_)⟩
   rintro r s' ⟨rfl,hd''⟩
   have hll:=a_lx c v.Occ now k.Dirty k' j si
   exact ⟨rfl,rfl,⟨j+1,_,rfl,by omega,by omega,by omega,by omega,hd'',hrun⟩,hmu⟩
 · have e:j=4:=by omega
   subst e
   have hrun:k'=stepRun c v.Occ now k.Dirty [1,2,3] k:=hrun
   refine ⟨trivial,_,_,_,rfl,_,a_e hd'.row,d0,d1,d2,d3,d4,d5,k'.Dirty,rfl,?_⟩
   rw[hst,←hrun]
   exact ⟨d0,d1,d2,d3,d4,d5,rfl,hd'.co⟩
theorem a_i3 (hc:∀s,CfAt s c0 c1 c2 c3 c4 c)(h:CoAt σ k0 k1 k2 k3 k4 k5 k)(hf:CoFit k0 k1 k2 k3 k4 k5 k)(line a d g:Int) :
   DCalls prog o_2 [cfA c0 c1 c2 c3 c4 c,coA k0 k1 k2 k3 k4 k5 k.Dirty,iA line, .agg [iD a,iD d,iD g]] σ (CoPost σ (k.hearC c line a d g)):=by
 have oe : ∀ e : Int, k.hearC c line a d g = (k, e) → DCalls prog b_y [cfA c0 c1 c2 c3 c4 c, coA k0 k1 k2 k3 k4 k5 k.Dirty, .agg [.nils, .nils, .nils, .nils], iA 0] σ fun r1 s1 => ∃ d' : D, r1 = .a (.one d') ∧ a_f d' ∧ ∃ s : D, ∃ i off : Nat, d' = .el s i off ∧ ∃ row : List D, Row s1 s i row ∧
     ∃d1 d2 d3 d4 d5 d6:D,∃b3:Bool,List.take 7 (List.drop (off+0) row) =[d1,d2,d3,d4,d5,d6, .bool b3]∧CoPost σ (k.hearC c line a d g) (.tup [.agg [d1,d2,d3,d4,d5,d6, .bool b3], .one (.int .i64 e)]) s1:=fun e he=>
   x_k h hf _ _ _ _ _ e fun r s hp=>by rw[he];exact hp
 refine a_ml _ _ _ _ _ _ _ _ _ k0 k1 k2 k3 k4 k5 k.Dirty line a d g σ _ ((f_a hc h).use ⟨_,rfl,a_p (fun e=>oe 21 (by rw[Co.hearC,if_pos e])) (fun e1=>(o_a (hc σ) line).use ⟨_,rfl,?_⟩)⟩)
 have h1 : k.hearC c line a d g = if c.lineSec line < 0 then (k, 20) else if a < 0 ∨ d < 0 ∨ g < 0 ∨ a > 4294967295 ∨ d > 4294967295 ∨ g > 4294967295 then (k, 32)
     else ({ k with Lines:=k.Lines.set line.toNat { (k.Lines[line.toNat]?).getD zLs with PAsk:=a,PDone:=d,PGrant:=g } },0):=by
   rw[Co.hearC,if_neg (by rw[e1];simp)]
 refine bcd (fun e=>oe 20 (by rw[h1,if_pos e])) (fun e2=>?_)
 rw[if_neg e2] at h1
 refine bcd (fun e=>oe 32 (by rw[h1,if_pos (by revert e;split <;> split <;> omega)])) (fun e3=>bcd (fun e=>oe 32 (by rw[h1,if_pos (by revert e;split <;> split <;> omega)])) (fun e4=>?_))
 rw[if_neg (by revert e3 e4;split <;> split <;> split <;> split <;> omega)] at h1
 have hlen:k.lens c=true:=by
   have:=e1
   simp only[Co.fits,Bool.and_eq_true] at this
   exact this.2.1
 have hlen:=of_decide_eq_true hlen
 have hr:1≤line∧line≤3:=a_tw e1 e2
 obtain ⟨x,hx⟩:=a_g (l:=k.Lines) (j:=line.toNat) (by omega)
 refine (m_n h hf _ _ _ _ _).mono ?_
 rintro r s1 ⟨id,d0,d1,d2,d3,d4,d5,rfl,hd⟩
 refine ⟨_,rfl,trivial,_,_,_,rfl,_,a_e hd.row,d4,rfl,hd.co.lines.at_.idxK (j:=line.toNat) b_8 (by omega) (by rw[List.length_map];omega) (i_u hd hx rfl (by simp) (y:= { x with PAsk:=a,PDone:=d,PGrant:=g }) rfl fun s' h'=>⟨trivial,_,_,_,rfl,_,a_e h'.row,d0,d1,d2,d3,d4,d5,k.Dirty,rfl,?_⟩)⟩
 rw[h1,hx]
 exact ⟨d0,d1,d2,d3,d4,d5,rfl,h'.co⟩
end
end
section
variable {σ:Store}
theorem s_x {s:Store}{el:TypeId}{d:D}{rs:List (List D)}(h:Own prog σ s el d rs)(hf:∀row ∈ rs,∀x ∈ row,Flat x) :
   ∃d',Fz prog s (fun i=>σ i≠ .free) d d'∧(∀s'',At prog s'' el d' rs)∧d'≠ .zsl:=by
 obtain ⟨d',h1,h2⟩:=s_8 h.at_ h.ext h.new hf
 exact ⟨d',h1,h2,fun e=>by subst e;cases h1;exact h.nz rfl⟩
theorem h_g {α:Type}(f:α→List D)(hf:∀a,∀d ∈ f a,Flat d)(l:List α) :∀row ∈ l.map f,∀d ∈ row,Flat d:=by
 intro row hrow d hd
 obtain ⟨a,_,rfl⟩:=List.mem_map.1 hrow
 exact hf a d hd
structure CoFz (d0 d1 d2 d3 d4 d5:D) (k:Co) :Prop where
 at_:∀s,CoAt s d0 d1 d2 d3 d4 d5 k
 n0:d0≠ .zsl
 n1:d1≠ .zsl
 n2:d2≠ .zsl
 n3:d3≠ .zsl
 n4:d4≠ .zsl
 n5:d5≠ .zsl
theorem a_qu {s:Store}{d0 d1 d2 d3 d4 d5:D}{k:Co}(h:CoOwn σ s d0 d1 d2 d3 d4 d5 k) :∃e0 e1 e2 e3 e4 e5,FzL prog s (fun i=>σ i≠ .free) [d0,d1,d2,d3,d4,d5, .bool k.Dirty] [e0,e1,e2,e3,e4,e5, .bool k.Dirty]∧CoFz e0 e1 e2 e3 e4 e5 k:=by
 have fI:∀n:Int,∀d ∈ Go.Fw.encI n,Flat d:=fun n d hd=>by simp[Go.Fw.encI] at hd;subst hd;exact .int _ _
 have fR:∀r:Rs,∀d ∈ r.enc,Flat d:=fun r d hd=>by simp[Rs.enc] at hd;rcases hd with rfl | rfl | rfl | rfl <;> exact .int _ _
 have fM:∀r:Mv,∀d ∈ r.enc,Flat d:=fun r d hd=>by simp[Mv.enc] at hd;rcases hd with rfl | rfl <;> exact .int _ _
 have fL:∀r:Ls,∀d ∈ r.enc,Flat d:=fun r d hd=>by simp[Ls.enc] at hd;rcases hd with rfl | rfl | rfl | rfl | rfl | rfl | rfl | rfl <;> exact .int _ _
 obtain ⟨e0,a0,b0,n0⟩:=s_x h.own (h_g _ fI _)
 obtain ⟨e1,a1,b1,n1⟩:=s_x h.routes (h_g _ fR _)
 obtain ⟨e2,a2,b2,n2⟩:=s_x h.points (h_g _ fM _)
 obtain ⟨e3,a3,b3,n3⟩:=s_x h.xs (h_g _ fM _)
 obtain ⟨e4,a4,b4,n4⟩:=s_x h.lines (h_g _ fL _)
 obtain ⟨e5,a5,b5,n5⟩:=s_x h.resets (h_g _ fI _)
 exact ⟨e0,e1,e2,e3,e4,e5, .cons a0 (.cons a1 (.cons a2 (.cons a3 (.cons a4 (.cons a5 (.cons (.bool _) .nil)))))),⟨fun s=>⟨b0 s,b1 s,b2 s,b3 s,b4 s,b5 s⟩,n0,n1,n2,n3,n4,n5⟩⟩
def a_wz (σ:Store)(p:Co × Int)(r:RV)(s:Store) :Prop:=s=σ∧∃d0 d1 d2 d3 d4 d5,r= .tup [coA d0 d1 d2 d3 d4 d5 p.1.Dirty,iA p.2]∧CoFz d0 d1 d2 d3 d4 d5 p.1
theorem a_g7 {f:FuncId}{as0':List A}{p:Co × Int}(h:DCalls prog f as0' σ (CoPost σ p)) :DCalls prog f as0' σ (a_wz σ p):=by
 refine h.ret ?_
 rintro r s ⟨d0,d1,d2,d3,d4,d5,rfl,hco⟩
 obtain ⟨e0,e1,e2,e3,e4,e5,hfz,hz⟩:=a_qu hco
 refine ⟨.tup [coA e0 e1 e2 e3 e4 e5 p.1.Dirty,iA p.2],σ, .pure hco.own.ext ⟨rfl,fun i x y h1 h2=>?_⟩,rfl,_,_,_,_,_,_,rfl,hz⟩
 rcases i with _ | _ | i
 · simp at h1 h2;subst h1 h2;exact hfz
 · simp at h1 h2;subst h1 h2;exact .int _ _
 · simp at h1
end
end Go.Proofs.YtdmfnhbmhkgemaaGreat
section
namespace Go.Fw
variable {P:Program}
inductive Cs
 | int (k:IntKind)
 | bool
 | str
 | sl (e:TypeId)
def r_9 (g:TypeId→Option (List Cs)) :List Field→Option (List Cs)
 | []=>some []
 | f::fs=>match g f.type,r_9 g fs with
   | some a,some b=>some (a ++ b)
   | _,_=>none
def k_b (P:Program) :Nat→TypeId→Option (List Cs)
 | 0,_=>none
 | m+1,t=>match P.underlying t with
   | some .bool=>some [.bool]
   | some (.int k)=>some [.int k]
   | some .string=>some [.str]
   | some (.slice e)=>some [.sl e]
   | some (.struct fs)=>r_9 (k_b P m) fs.toList
   | some (.array k e)=>(k_b P m e).map fun l=>(List.replicate k l).flatten
   | _=>none
def CsOk (P:Program) :Cs→D→Prop
 | .int k,d=>∃m,d= .int k m∧(Lit.int k m).wf=true
 | .bool,d=>∃b,d= .bool b
 | .str,d=>∃s,d= .str s∧s.size≤140737488351232
 | .sl e,d=>d= .nils∨∃rows,d= .sl (P.cellsOf e) rows∧rows.length * P.bytesOf e≤140737488351232∧∀row ∈ rows,∃n,tyD P n e row
def CsL (P:Program) :List Cs→List D→Prop
 | [],ds=>ds=[]
 | s::ss,ds=>∃d r,ds=d::r∧CsOk P s d∧CsL P ss r
theorem CsL.append {a b:List Cs}{x y:List D}(h1:CsL P a x)(h2:CsL P b y) :CsL P (a ++ b) (x ++ y):=by
 induction a generalizing x with
 | nil=>simp only[CsL] at h1;subst h1;exact h2
 | cons s a ih=>
   obtain ⟨d,r,rfl,q1,q2⟩:=h1
   exact ⟨d,r ++ y,rfl,q1,ih q2⟩
theorem a_j6 {g:TypeId→Option (List Cs)}{ty:TypeId→List D→Prop}(ih:∀t ds shs,ty t ds→g t=some shs→CsL P shs ds) :∀(fs:List Field) (ds:List D) (shs:List Cs),tyF P ty fs ds→r_9 g fs=some shs→CsL P shs ds
 | [],ds,shs,h1,h2=>by
   simp only[tyF] at h1;simp only[r_9] at h2
   cases h2;subst h1;rfl
 | f::fs,ds,shs,h1,h2=>by
   obtain ⟨a,b,rfl,_,q1,q2⟩:=h1
   rw[r_9] at h2
   split at h2
   · rename_i x y e1 e2
     cases h2
     exact (ih _ _ _ q1 e1).append (a_j6 ih fs b y q2 e2)
   · cases h2
theorem a_ux {ty:TypeId→List D→Prop}{e:TypeId}{l:List Cs}(ih:∀ds,ty e ds→CsL P l ds) :∀(k:Nat) (ds:List D),tyR P ty e k ds→CsL P (List.replicate k l).flatten ds
 | 0,ds,h=>by simp only[tyR] at h;subst h;rfl
 | k+1,ds,h=>by
   obtain ⟨a,b,rfl,_,q1,q2⟩:=h
   rw[List.replicate_succ,List.flatten_cons]
   exact (ih a q1).append (a_ux ih k b q2)
theorem r_s:∀(n m:Nat) (t:TypeId) (ds:List D) (shs:List Cs),tyD P n t ds→k_b P m t=some shs→CsL P shs ds
 | 0,_,_,_,_,h,_=>h.elim
 | _+1,0,_,_,_,_,h=>by cases h
 | n+1,m+1,t,ds,shs,h1,h2=>by
   unfold tyD at h1
   unfold k_b at h2
   split at h1
   · rename_i hu
     rw[hu] at h2;cases h2
     obtain ⟨b,rfl⟩:=h1
     exact ⟨_,_,rfl,⟨b,rfl⟩,rfl⟩
   · rename_i k hu
     rw[hu] at h2;cases h2
     obtain ⟨b,rfl,hw⟩:=h1
     exact ⟨_,_,rfl,⟨b,rfl,hw⟩,rfl⟩
   · rename_i hu
     rw[hu] at h2;cases h2
     obtain ⟨b,rfl,hw⟩:=h1
     exact ⟨_,_,rfl,⟨b,rfl,hw⟩,rfl⟩
   · rename_i e hu
     rw[hu] at h2;cases h2
     rcases h1 with rfl | ⟨rows,rfl,q1,q2⟩
     · exact ⟨_,_,rfl, .inl rfl,rfl⟩
     · exact ⟨_,_,rfl, .inr ⟨rows,rfl,q1,fun row hr=>⟨n,q2 row hr⟩⟩,rfl⟩
   · rename_i fs hu
     rw[hu] at h2
     exact a_j6 (fun t ds shs a b=>r_s n m t ds shs a b) fs.toList ds shs h1 h2
   · rename_i k e hu
     rw[hu] at h2
     simp only[Option.map_eq_some_iff] at h2
     obtain ⟨l,e1,rfl⟩:=h2
     exact a_ux (fun ds a=>r_s n m e ds l a e1) k ds h1
   · exact h1.elim
def I64 (n:Int) :Prop:= -9223372036854775808≤n∧n≤9223372036854775807
theorem f_g {n:Int}(h:(Lit.int .i64 n).wf=true) :I64 n:=by
 simp only[Lit.wf,IntKind.min,IntKind.max,IntKind.signed,IntKind.bits,Bool.and_eq_true,decide_eq_true_eq,if_true] at h
 unfold I64
 omega
theorem a_v4 {α:Type}{e:TypeId}{d:D}{bytes:Nat}(R:List D→α→Prop)(hf:∀row n,tyD P n e row→∃a,R row a)(hb:P.bytesOf e=bytes)(hb0:0 < bytes)(h:CsOk P (.sl e) d) :
   ∃(rows:List (List D)) (l:List α),(∀s,At P s e d rows)∧rows.length=l.length∧(∀(i:Nat) row a,rows[i]? =some row→l[i]? =some a→R row a)∧d≠ .zsl∧bytes * l.length≤140737488351232:=by
 rcases h with rfl | ⟨rows,rfl,q1,q2⟩
 · exact ⟨[],[],fun s=> .nil,rfl,fun i row a h=>by simp at h,(by intro e;cases e),by simp⟩
 · have key : ∀ rows : List (List D), (∀ row ∈ rows, ∃ n, tyD P n e row) → ∃ l : List α, rows.length = l.length ∧ ∀ (i : Nat) row a, rows[i]? = some row → l[i]? = some a → R row a := by
     intro rows
     induction rows with
     | nil=>intro _;exact ⟨[],rfl,fun i row a h=>by simp at h⟩
     | cons r rs ih=>
       intro hr
       obtain ⟨l,e1,e2⟩:=ih fun row h=>hr row (by simp[h])
       obtain ⟨n,hn⟩:=hr r (by simp)
       obtain ⟨a,ha⟩:=hf r n hn
       refine ⟨a::l,by simp[e1],fun i row b h1 h2=>?_⟩
       cases i with
       | zero=>simp at h1 h2;subst h1 h2;exact ha
       | succ i=>exact e2 i row b (by simpa using h1) (by simpa using h2)
   obtain ⟨l,hl,hR⟩:=key rows q2
   rw[hb,hl] at q1
   have q3:bytes * l.length≤140737488351232:=by rw[Nat.mul_comm];exact q1
   have h1:1 * l.length≤bytes * l.length:=Nat.mul_le_mul_right _ hb0
   refine ⟨rows,l,fun s=>⟨⟨rfl, .inr rfl⟩,by omega,fun es rows e=>?_⟩,hl,hR,(by intro e;cases e),q3⟩
   injection e with e1 e2
   exact e1.symm
theorem h_x {α:Type}{e:TypeId}{d:D}{bytes:Nat}(f:α→List D)(Q:α→Prop)(hf:∀row n,tyD P n e row→∃a,row=f a∧Q a)(hb:P.bytesOf e=bytes)(hb0:0 < bytes)(h:CsOk P (.sl e) d) :
   ∃l:List α,(∀s,At P s e d (l.map f))∧(∀a ∈ l,Q a)∧d≠ .zsl∧bytes * l.length≤140737488351232:=by
 rcases h with rfl | ⟨rows,rfl,q1,q2⟩
 · exact ⟨[],fun s=> .nil,fun a ha=>by simp at ha,(by intro e;cases e),by simp⟩
 · have key : ∀ rows : List (List D), (∀ row ∈ rows, ∃ n, tyD P n e row) → ∃ l : List α, l.map f = rows ∧ ∀ a ∈ l, Q a := by
     intro rows
     induction rows with
     | nil=>intro _;exact ⟨[],rfl,fun a ha=>by simp at ha⟩
     | cons r rs ih=>
       intro hr
       obtain ⟨l,e1,e2⟩:=ih fun row h=>hr row (by simp[h])
       obtain ⟨n,hn⟩:=hr r (by simp)
       obtain ⟨a,rfl,ha⟩:=hf r n hn
       refine ⟨a::l,by simp[e1],fun b hb=>?_⟩
       simp only[List.mem_cons] at hb
       rcases hb with rfl | hb
       · exact ha
       · exact e2 b hb
   obtain ⟨l,rfl,hl⟩:=key rows q2
   rw[hb,List.length_map] at q1
   have q3:bytes * l.length≤140737488351232:=by rw[Nat.mul_comm];exact q1
   have h1:1 * l.length≤bytes * l.length:=Nat.mul_le_mul_right _ hb0
   refine ⟨l,fun s=>⟨⟨rfl, .inr rfl⟩,by rw[List.length_map];omega,fun es rows e=>?_⟩,hl,(by intro e;cases e),q3⟩
   injection e with e1 e2
   exact e1.symm
theorem a_w1 {t:TypeId}{x:A}(h:TyA P t x)(hg:b_4 P t=some false) :∃d n,x= .one d∧tyD P n t [d]:=by
 cases x with
 | one d=>exact ⟨d,30,rfl,h.2⟩
 | agg cs=>have:=h.1;rw[hg] at this;cases this
theorem a_xk {t:TypeId}{x:A}(h:TyA P t x)(hg:b_4 P t=some true) :∃cs n,x= .agg cs∧tyD P n t cs:=by
 cases x with
 | one d=>have:=h.1;rw[hg] at this;cases this
 | agg cs=>exact ⟨cs,30,rfl,h.2⟩
theorem a_o3 {t:TypeId}{ts:List TypeId}{as0:List A}(h:TyAs P (t::ts) as0) :∃a r,as0=a::r∧TyA P t a∧TyAs P ts r:=h
theorem a_xi {as0:List A}(h:TyAs P [] as0) :as0=[]:=h
def a_wj:Cs→Value
 | .int k=> .int k 0
 | .bool=> .bool false
 | .str=> .string .empty
 | .sl _=> .slice none 0 0
def zeroArg (P:Program)(t:TypeId) :Value:=match b_4 P t,k_b P 9 t with
 | some true,some l=> .agg (l.map a_wj).toArray
 | _,some [c]=>a_wj c
 | _,_=> .int .i64 0
end Go.Fw
namespace Go.Fw
theorem law_fn2 {H:Type}{s:List (DataW H)→Left H}{ds:List (DataW H)}(h:ds.length=2)(hs:∀a b,s [a,b]= { results:= [.lit (.bool true)],args:= [a,b] } :=by intros;rfl) :s ds= { results:= [.lit (.bool true)],args:=ds } :=by
 match ds,h with
 | [a,b],_=>exact hs a b
end Go.Fw
namespace Go.Fw
def EqR {α:Type}(la lb:List α)(n:Int) :Prop:=∃j:Nat,n=j∧j≤la.length∧la.take j=lb.take j
theorem EqR.start {α:Type}(la lb:List α) :EqR la lb 0:=⟨0,rfl,by omega,by simp⟩
theorem EqR.step {α:Type}{la lb:List α}{n:Int}{m:Nat}(h:EqR la lb n)(hl:la.length=lb.length)(hm:m=la.length)(hs:la.length < 2 ^ 60)(hlt:n < (m:Int)) :
   ∃(j:Nat) (x y:α),n=j∧la[j]? =some x∧lb[j]? =some y∧(x≠y→la≠lb)∧(x=y→EqR la lb (w64 (n+1))∧la.length - (w64 (n+1)).toNat < la.length - n.toNat):=by
 obtain ⟨j,rfl,hj,hF⟩:=h
 have hj':j < la.length:=by omega
 obtain ⟨x,hx⟩:=a_g hj'
 obtain ⟨y,hy⟩:=a_g (l:=lb) (j:=j) (by omega)
 refine ⟨j,x,y,rfl,hx,hy,fun hne e=>?_,fun e=>?_⟩
 · subst e;rw[hx] at hy;cases hy;exact hne rfl
 · rw[a_m (by omega)]
   refine ⟨⟨j+1,rfl,by omega,?_⟩,by omega⟩
   rw[List.take_add_one,List.take_add_one,hF,hx,hy,e]
theorem EqR.done {α:Type}{la lb:List α}{n:Int}{m:Nat}(h:EqR la lb n)(hl:la.length=lb.length)(hm:m=la.length)(hge:¬n < (m:Int)) :la=lb:=by
 obtain ⟨j,rfl,hj,hF⟩:=h
 have:j=la.length:=by omega
 rw[List.take_of_length_le (by omega),List.take_of_length_le (by omega)] at hF
 exact hF
end Go.Fw
namespace Go.Fw
theorem a_wb {P:Program}{t:TypeId}{x:A}{c:Cs}(h:TyA P t x)(hg:b_4 P t=some false)(hs:k_b P 5 t=some [c]) :∃d,x= .one d∧CsOk P c d:=by
 obtain ⟨d,n,rfl,h1⟩:=a_w1 h hg
 obtain ⟨d',r,e,h2,h3⟩:=r_s n 5 t _ _ h1 hs
 have:d=d':=by injection e
 exact ⟨d,rfl,this ▸ h2⟩
end Go.Fw
end
namespace Go.Proofs.YtdmfnhbmhkgemaaGreat
open Go.Fw Go.Proofs Go.RowKit
open Go.Proofs.Tryz (prog)
section
theorem ty_i {row:List D}{n:Nat}(h:tyD prog n a_i row) :∃m,row=Go.Fw.encI m∧I64 m:=by
 obtain ⟨_,_,rfl,⟨m,rfl,hm⟩,rfl⟩:=r_s n 2 _ _ [.int .i64] h (by kernel_rfl)
 exact ⟨m,rfl,f_g hm⟩
theorem a_x2 {t:TypeId}{row:List D}{n:Nat}(h:tyD prog n t row)(hs:k_b prog 5 t=some [.int .i64, .int .i64]) :∃a b,row=[iD a,iD b]∧I64 a∧I64 b:=by
 obtain ⟨_,_,rfl,⟨a,rfl,ha⟩,_,_,rfl,⟨b,rfl,hb⟩,rfl⟩:=r_s n 5 _ _ _ h hs
 exact ⟨a,b,rfl,f_g ha,f_g hb⟩
theorem a_x5 {t:TypeId}{row:List D}{n:Nat}(h:tyD prog n t row)(hs:k_b prog 5 t=some [.int .i64, .int .i64, .int .i64]) :∃a b c,row=[iD a,iD b,iD c]∧I64 a∧I64 b∧I64 c:=by
 obtain ⟨_,_,rfl,⟨a,rfl,ha⟩,_,_,rfl,⟨b,rfl,hb⟩,_,_,rfl,⟨c,rfl,hc⟩,rfl⟩:=r_s n 5 _ _ _ h hs
 exact ⟨a,b,c,rfl,f_g ha,f_g hb,f_g hc⟩
theorem a_zf {t:TypeId}{row:List D}{n:Nat}(h:tyD prog n t row)(hs:k_b prog 5 t=some [.int .i64, .int .i64, .int .i64, .int .i64]) :∃a b c d,row=[iD a,iD b,iD c,iD d]∧I64 a∧I64 b∧I64 c∧I64 d:=by
 obtain ⟨_,_,rfl,⟨a,rfl,ha⟩,_,_,rfl,⟨b,rfl,hb⟩,_,_,rfl,⟨c,rfl,hc⟩,_,_,rfl,⟨d,rfl,hd⟩,rfl⟩:=r_s n 5 _ _ _ h hs
 exact ⟨a,b,c,d,rfl,f_g ha,f_g hb,f_g hc,f_g hd⟩
theorem a_rq {row:List D}{n:Nat}(h:tyD prog n i_i row) :∃s:Sec,row=s.enc∧I64 s.Kind∧I64 s.OC∧I64 s.Line:=by
 obtain ⟨a,b,c,rfl,q⟩:=a_x5 h (by kernel_rfl)
 exact ⟨⟨a,b,c⟩,rfl,q⟩
theorem a_vd {row:List D}{n:Nat}(h:tyD prog n j_7 row) :∃s:Jt,row=s.enc∧I64 s.A∧I64 s.AEnd∧I64 s.B∧I64 s.BEnd:=by
 obtain ⟨a,b,c,d,rfl,q⟩:=a_zf h (by kernel_rfl)
 exact ⟨⟨a,b,c,d⟩,rfl,q⟩
theorem a_uj {row:List D}{n:Nat}(h:tyD prog n e_6 row) :∃s:Sg,row=s.enc∧I64 s.Sec∧I64 s.End_:=by
 obtain ⟨a,b,rfl,q⟩:=a_x2 h (by kernel_rfl)
 exact ⟨⟨a,b⟩,rfl,q⟩
theorem a_xh {row:List D}{n:Nat}(h:tyD prog n d_0 row) :∃s:St,row=s.enc∧I64 s.Sec∧I64 s.In∧I64 s.Out:=by
 obtain ⟨a,b,c,rfl,q⟩:=a_x5 h (by kernel_rfl)
 exact ⟨⟨a,b,c⟩,rfl,q⟩
theorem a_xw {row:List D}{n:Nat}(h:tyD prog n a_4 row) :∃s:Nd,row=s.enc∧I64 s.Sec∧I64 s.Pos:=by
 obtain ⟨a,b,rfl,q⟩:=a_x2 h (by kernel_rfl)
 exact ⟨⟨a,b⟩,rfl,q⟩
structure RtI (r:Rt) :Prop where
 entry:I64 r.Entry
 exit:I64 r.Exit
 path:∀s ∈ r.Path,I64 s.Sec∧I64 s.In∧I64 s.Out
 flank:∀s ∈ r.Flank,I64 s.Sec∧I64 s.Pos
 over:∀o ∈ r.Overlap,I64 o
 np:24 * r.Path.length≤140737488351232
 nf:16 * r.Flank.length≤140737488351232
 no:8 * r.Overlap.length≤140737488351232
structure CfI (c:Cf) :Prop where
 secs:∀s ∈ c.Secs,I64 s.Kind∧I64 s.OC∧I64 s.Line
 jts:∀s ∈ c.Jts,I64 s.A∧I64 s.AEnd∧I64 s.B∧I64 s.BEnd
 sigs:∀s ∈ c.Sigs,I64 s.Sec∧I64 s.End_
 xs:∀s ∈ c.Xs,I64 s
 rts:∀r ∈ c.Rts,RtI r
 age:I64 c.Age
 brake:I64 c.Brake
 hold:I64 c.Hold
 budget:I64 c.Budget
 nsecs:24 * c.Secs.length≤140737488351232
 njts:32 * c.Jts.length≤140737488351232
 nsigs:16 * c.Sigs.length≤140737488351232
 nxs:8 * c.Xs.length≤140737488351232
 nrts:96 * c.Rts.length≤140737488351232
structure LsI (l:Ls) :Prop where
 ask:I64 l.Ask
 done:I64 l.Done
 grant:I64 l.Grant
 told:I64 l.Told
 pask:I64 l.PAsk
 pdone:I64 l.PDone
 pgrant:I64 l.PGrant
 since:I64 l.Since
structure CoI (k:Co) :Prop where
 own:∀o ∈ k.Own,I64 o
 routes:∀s ∈ k.Routes,I64 s.State∧I64 s.Since∧I64 s.Next∧I64 s.Mark
 points:∀s ∈ k.Points,I64 s.Cmd∧I64 s.Other
 xs:∀s ∈ k.Xs,I64 s.Cmd∧I64 s.Other
 lines:∀s ∈ k.Lines,LsI s
 resets:∀o ∈ k.Resets,I64 o
theorem a_eh {row:List D}{n:Nat}(h:tyD prog n e_k row) :∃s:Lk,row=s.enc∧I64 s.Value∧I64 s.Stamp:=by
 obtain ⟨_,_,rfl,⟨a,rfl,ha⟩,_,_,rfl,⟨b,rfl,hb⟩,_,_,rfl,⟨c,rfl⟩,rfl⟩:=r_s n 5 _ _ [.int .i64, .int .i64, .bool] h (by kernel_rfl)
 exact ⟨⟨a,b,c⟩,rfl,f_g ha,f_g hb⟩
structure VwI (v:Vw) :Prop where
 occ:∀l ∈ v.Occ,I64 l.Value∧I64 l.Stamp
 pos:∀l ∈ v.Pos,I64 l.Value∧I64 l.Stamp
 shut:∀l ∈ v.Shut,I64 l.Value∧I64 l.Stamp
 lamp:∀l ∈ v.Lamp,I64 l.Value∧I64 l.Stamp
theorem a_xf {d0 d1 d2 d3:D}(h0:CsOk prog (.sl e_k) d0)(h1:CsOk prog (.sl e_k) d1)(h2:CsOk prog (.sl e_k) d2)(h3:CsOk prog (.sl e_k) d3) :∃v,VwAt d0 d1 d2 d3 v∧VwI v:=by
 obtain ⟨l0,a0,b0,_,e0⟩:=h_x (bytes:=24) Lk.enc _ (fun row n h=>a_eh h) (by kernel_rfl) (by omega) h0
 obtain ⟨l1,a1,b1,_,e1⟩:=h_x (bytes:=24) Lk.enc _ (fun row n h=>a_eh h) (by kernel_rfl) (by omega) h1
 obtain ⟨l2,a2,b2,_,e2⟩:=h_x (bytes:=24) Lk.enc _ (fun row n h=>a_eh h) (by kernel_rfl) (by omega) h2
 obtain ⟨l3,a3,b3,_,e3⟩:=h_x (bytes:=24) Lk.enc _ (fun row n h=>a_eh h) (by kernel_rfl) (by omega) h3
 exact ⟨⟨l0,l1,l2,l3⟩,⟨a0,a1,a2,a3⟩,b0,b1,b2,b3⟩
end
section
variable {σ:Store}
theorem l_0 {a b:D}{la lb:List Int}(ha:At prog σ a_i a (la.map Go.Fw.encI))(hb:At prog σ a_i b (lb.map Go.Fw.encI)) :Pure prog f_4 [.one a, .one b] σ (.a (bA (decide (la=lb)))):=by
 have hs:=ha.size
 rw[List.length_map] at hs
 refine a_a3 a b σ _ (ha.lenK (hb.lenK ?_))
 rw[List.length_map,List.length_map]
 refine bcn (fun hne=>⟨?_,rfl⟩) (fun he=>ha.lenK ?_)
 · rw[decide_eq_false (fun e=>hne (by rw[e]))]
 have hl:la.length=lb.length:=by omega
 rw[List.length_map]
 refine ⟨fun n s=>s=σ∧EqR la lb n,fun n _=>la.length - n.toNat,⟨rfl, .start _ _⟩,?_⟩
 rintro n s ⟨rfl,hr⟩
 refine bcd (fun hlt=>?_) (fun hge=>⟨?_,rfl⟩)
 · obtain ⟨j,x,y,rfl,hx,hy,hn,hy2⟩:=hr.step hl rfl hs hlt
   refine ha.load (a_c hx) c_int rfl ⟨x,rfl,hb.load (a_c hy) c_int rfl ⟨y,rfl,bcn (fun e=>⟨?_,rfl⟩) (fun e=>c_6 rfl (hy2 e))⟩⟩
   rw[decide_eq_false (hn e)]
 · rw[decide_eq_true (hr.done hl rfl hge)]
theorem v_b {a0 a1 a2 a3 a4 a5 b0 b1 b2 b3 b4 b5:D}{k k':Co}(ha:CoAt σ a0 a1 a2 a3 a4 a5 k)(hb:CoAt σ b0 b1 b2 b3 b4 b5 k') :
   Pure prog j_y [coA a0 a1 a2 a3 a4 a5 k.Dirty,coA b0 b1 b2 b3 b4 b5 k'.Dirty] σ (.a (bA (decide (k=k')))):=by
 have no:∀p:Prop,¬p→(k=k'→p)→(RV.a (bA false) =RV.a (bA (decide (k=k')))∧σ=σ):=fun p h1 h2=>⟨by rw[decide_eq_false (fun e=>h1 (h2 e))],rfl⟩
 have s1:=ha.routes.size
 have s2:=ha.points.size
 have s3:=ha.xs.size
 have s4:=ha.lines.size
 rw[List.length_map] at s1 s2 s3 s4
 refine a_lc a0 a1 a2 a3 a4 a5 k.Dirty b0 b1 b2 b3 b4 b5 k'.Dirty σ _ ?_
 intro R hR
 refine (l_0 ha.own hb.own).use ⟨_,rfl,a_p (fun e=>no _ (of_decide_eq_false e) (fun e=>by rw[e])) (fun e1=>(l_0 ha.resets hb.resets).use ⟨_,rfl,a_p (fun e=>no _ (of_decide_eq_false e) (fun e=>by rw[e])) (fun e2=>a_p (fun e=>no (k.Dirty=k'.Dirty) (by simpa using e) (fun e=>by rw[e])) (fun e3=>?_))⟩)⟩
 refine ha.routes.lenK (hb.routes.lenK (bcn (fun e=>no (k.Routes.length=k'.Routes.length) (by simp only[List.length_map] at e;omega) (fun e=>by rw[e])) (fun e4=>?_)))
 refine ha.points.lenK (hb.points.lenK (bcn (fun e=>no (k.Points.length=k'.Points.length) (by simp only[List.length_map] at e;omega) (fun e=>by rw[e])) (fun e5=>?_)))
 refine ha.xs.lenK (hb.xs.lenK (bcn (fun e=>no (k.Xs.length=k'.Xs.length) (by simp only[List.length_map] at e;omega) (fun e=>by rw[e])) (fun e6=>?_)))
 refine ha.lines.lenK (hb.lines.lenK (bcn (fun e=>no (k.Lines.length=k'.Lines.length) (by simp only[List.length_map] at e;omega) (fun e=>by rw[e])) (fun e7=>?_)))
 have e1:=of_decide_eq_true e1
 have e2:=of_decide_eq_true e2
 have e3:k.Dirty=k'.Dirty:=by simpa using e3
 simp only[List.length_map] at e4 e5 e6 e7
 have e4:k.Routes.length=k'.Routes.length:=by omega
 have e5:k.Points.length=k'.Points.length:=by omega
 have e6:k.Xs.length=k'.Xs.length:=by omega
 have e7:k.Lines.length=k'.Lines.length:=by omega
 refine hR σ (ha.routes.lenK ?_)
 rw[List.length_map]
 refine ⟨fun n s=>s=σ∧EqR k.Routes k'.Routes n,fun n _=>k.Routes.length - n.toNat,⟨rfl, .start _ _⟩,?_⟩
 rintro n s ⟨rfl,hr⟩
 refine bcd (fun hlt=>?_) (fun hge=>?_)
 · obtain ⟨j,x,y,rfl,hx,hy,hn,hy2⟩:=hr.step e4 rfl s1 hlt
   refine ha.routes.load (a_c hx) a_x rfl ⟨_,_,_,_,rfl,hb.routes.load (a_c hy) a_x rfl ⟨_,_,_,_,rfl,a_p (fun e=>no (x=y) (fun h=>by subst h;simp at e) (fun h=>Classical.not_not.1 fun g=>hn g (by rw[h]))) (fun e=>c_6 rfl (hy2 ?_))⟩⟩
   cases x;cases y;simp at e;simp[e]
 have e8:=hr.done e4 rfl hge
 refine ha.points.lenK ?_
 rw[List.length_map]
 refine ⟨fun n s'=>s'=s∧EqR k.Points k'.Points n,fun n _=>k.Points.length - n.toNat,⟨rfl, .start _ _⟩,?_⟩
 rintro n s ⟨rfl,hr⟩
 refine bcd (fun hlt=>?_) (fun hge=>?_)
 · obtain ⟨j,x,y,rfl,hx,hy,hn,hy2⟩:=hr.step e5 rfl s2 hlt
   refine ha.points.load (a_c hx) c_l rfl ⟨_,_,rfl,hb.points.load (a_c hy) c_l rfl ⟨_,_,rfl,a_p (fun e=>no (x=y) (fun h=>by subst h;simp at e) (fun h=>Classical.not_not.1 fun g=>hn g (by rw[h]))) (fun e=>c_6 rfl (hy2 ?_))⟩⟩
   cases x;cases y;simp at e;simp[e]
 have e9:=hr.done e5 rfl hge
 refine ha.xs.lenK ?_
 rw[List.length_map]
 refine ⟨fun n s'=>s'=s∧EqR k.Xs k'.Xs n,fun n _=>k.Xs.length - n.toNat,⟨rfl, .start _ _⟩,?_⟩
 rintro n s ⟨rfl,hr⟩
 refine bcd (fun hlt=>?_) (fun hge=>?_)
 · obtain ⟨j,x,y,rfl,hx,hy,hn,hy2⟩:=hr.step e6 rfl s3 hlt
   refine ha.xs.load (a_c hx) c_l rfl ⟨_,_,rfl,hb.xs.load (a_c hy) c_l rfl ⟨_,_,rfl,a_p (fun e=>no (x=y) (fun h=>by subst h;simp at e) (fun h=>Classical.not_not.1 fun g=>hn g (by rw[h]))) (fun e=>c_6 rfl (hy2 ?_))⟩⟩
   cases x;cases y;simp at e;simp[e]
 have e10:=hr.done e6 rfl hge
 refine ha.lines.lenK ?_
 rw[List.length_map]
 refine ⟨fun n s'=>s'=s∧EqR k.Lines k'.Lines n,fun n _=>k.Lines.length - n.toNat,⟨rfl, .start _ _⟩,?_⟩
 rintro n s ⟨rfl,hr⟩
 refine bcd (fun hlt=>?_) (fun hge=>⟨?_,rfl⟩)
 · obtain ⟨j,x,y,rfl,hx,hy,hn,hy2⟩:=hr.step e7 rfl s4 hlt
   refine ha.lines.load (a_c hx) b_8 rfl ⟨_,_,_,_,_,_,_,_,rfl,hb.lines.load (a_c hy) b_8 rfl ⟨_,_,_,_,_,_,_,_,rfl,a_p (fun e=>no (x=y) (fun h=>by subst h;simp at e) (fun h=>Classical.not_not.1 fun g=>hn g (by rw[h]))) (fun e=>c_6 rfl (hy2 ?_))⟩⟩
   cases x;cases y;simp at e;simp[e]
 have e11:=hr.done e7 rfl hge
 have:k=k':=by
   cases k;cases k'
   simp only at e1 e2 e3 e8 e9 e10 e11
   simp only[e1,e2,e3,e8,e9,e10,e11]
 rw[decide_eq_true this]
end
end Go.Proofs.YtdmfnhbmhkgemaaGreat
section
namespace Go.Fw
theorem c_9 {j n:Nat}(h:j < n) :n - ((j+1:Nat) :Int).toNat < n - ((j:Nat) :Int).toNat:=by omega
def inL (l:List Int)(n:Int) :Bool:=decide (n ∈ l)
def z_e (c:Cf)(s:Int) :Int:=((a_k c.Secs s).map Sec.Kind).getD (-1)
def atB (sec e but:Int) :List Sg→Nat→Bool
 | [],_=>false
 | x::r,j=>(decide (x.Sec=sec) && decide (x.End_=e) && decide ((j:Int)≠but)) || atB sec e but r (j+1)
theorem a_ef (sec e but:Int) :∀(l:List Sg) (j:Nat),atB sec e but l j=true↔∃(i:Nat) (x:Sg),l[i]? =some x∧x=⟨sec,e⟩∧((j+i:Nat) :Int)≠but
 | [],j=>by simp[atB]
 | x::r,j=>by
   simp only[atB,Bool.or_eq_true,Bool.and_eq_true,decide_eq_true_eq,a_ef sec e but r (j+1)]
   constructor
   · rintro (⟨⟨h1,h2⟩,h3⟩ | ⟨i,y,h1,h2,h3⟩)
     · exact ⟨0,x,rfl,by cases x;simp at h1 h2;simp[h1,h2],h3⟩
     · exact ⟨i+1,y,by simpa using h1,h2,by rw[show j+ (i+1) =j+1+i by omega];exact h3⟩
   · rintro ⟨i,y,h1,h2,h3⟩
     cases i with
     | zero=>
       simp at h1;subst h1 h2
       exact .inl ⟨⟨rfl,rfl⟩,h3⟩
     | succ i=>exact .inr ⟨i,y,by simpa using h1,h2,by rw[show j+1+i=j+ (i+1) by omega];exact h3⟩
theorem a_wm {l:List Sg}(hn:l.Nodup){i:Nat}{x:Sg}(hi:l[i]? =some x) :atB x.Sec x.End_ i l 0=false:=by
 cases hb:atB x.Sec x.End_ i l 0 with
 | false=>rfl
 | true=>
   obtain ⟨j,y,h1,h2,h3⟩:=(a_ef _ _ _ l 0).1 hb
   have e:y=x:=by cases x;exact h2
   subst e
   exfalso;apply h3
   obtain ⟨q1,q2⟩:=List.getElem?_eq_some_iff.1 hi
   obtain ⟨p1,p2⟩:=List.getElem?_eq_some_iff.1 h1
   have:=(List.getElem_inj (h₀:=q1) (h₁:=p1) hn).1 (by rw[q2,p2])
   omega
theorem a_a9 (js:List Jt) :∀(l seen:List Sg),l_5 js l seen=true↔(∀x ∈ l,(nxt js x.Sec x.End_).isSome=true)∧l.Nodup∧∀x ∈ l,x ∉ seen
 | [],seen=>by simp[l_5]
 | x::r,seen=>by
   rw[l_5]
   by_cases h:(nxt js x.Sec x.End_).isSome=true∧x ∉ seen
   · rw[if_pos h,a_a9 js r (x::seen)]
     constructor
     · rintro ⟨h1,h2,h3⟩
       refine ⟨fun y hy=>?_,?_,fun y hy=>?_⟩
       · rcases List.mem_cons.1 hy with rfl | hy
         · exact h.1
         · exact h1 y hy
       · exact List.nodup_cons.2 ⟨fun hx=>h3 x hx (by simp),h2⟩
       · rcases List.mem_cons.1 hy with rfl | hy
         · exact h.2
         · exact fun hs=>h3 y hy (by simp[hs])
     · rintro ⟨h1,h2,h3⟩
       obtain ⟨h4,h5⟩:=List.nodup_cons.1 h2
       refine ⟨fun y hy=>h1 y (by simp[hy]),h5,fun y hy hs=>?_⟩
       rcases List.mem_cons.1 hs with rfl | hs
       · exact h4 hy
       · exact h3 y (by simp[hy]) hs
   · rw[if_neg h]
     refine ⟨fun e=>by simp at e,fun ⟨h1,h2,h3⟩=>absurd ⟨h1 x (by simp),h3 x (by simp)⟩ h⟩
theorem a_n2 (c:Cf) :(∀(i:Nat) (x:Sg),c.Sigs[i]? =some x→(nxt c.Jts x.Sec x.End_).isSome=true∧atB x.Sec x.End_ i c.Sigs 0=false)↔l_5 c.Jts c.Sigs []=true:=by
 rw[a_a9]
 constructor
 · intro h
   refine ⟨fun x hx=>?_,?_,fun x _ hx=>by simp at hx⟩
   · obtain ⟨i,hi⟩:=List.mem_iff_getElem?.1 hx
     exact (h i x hi).1
   · rw[List.nodup_iff_pairwise_ne,List.pairwise_iff_getElem]
     intro i j hi hj hij e
     have h2:=(h i _ (List.getElem?_eq_getElem hi)).2
     have:atB c.Sigs[i].Sec c.Sigs[i].End_ i c.Sigs 0=true:=(a_ef _ _ _ _ _).2 ⟨j,c.Sigs[j],List.getElem?_eq_getElem hj,by rw[←e],by omega⟩
     rw[h2] at this;cases this
 · rintro ⟨h1,h2,_⟩ i x hi
   exact ⟨h1 x (List.mem_of_getElem? hi),a_wm h2 hi⟩
theorem x_4 (secs:List Sec) :∀(l seen:List Int),xrun secs l seen=true↔(∀x ∈ l,∃s,a_k secs x=some s∧s.Line=0)∧l.Nodup∧∀x ∈ l,x ∉ seen
 | [],seen=>by simp[xrun]
 | x::r,seen=>by
   rw[xrun]
   cases hg:a_k secs x with
   | none=>
     refine ⟨fun e=>by simp at e,fun ⟨h1,_⟩=>?_⟩
     obtain ⟨s,h,_⟩:=h1 x (by simp)
     rw[hg] at h;cases h
   | some s=>
     simp only
     by_cases h:s.Line=0∧x ∉ seen
     · rw[if_pos h,x_4 secs r (x::seen)]
       constructor
       · rintro ⟨h1,h2,h3⟩
         refine ⟨fun y hy=>?_,?_,fun y hy=>?_⟩
         · rcases List.mem_cons.1 hy with rfl | hy
           · exact ⟨s,hg,h.1⟩
           · exact h1 y hy
         · exact List.nodup_cons.2 ⟨fun hx=>h3 x hx (by simp),h2⟩
         · rcases List.mem_cons.1 hy with rfl | hy
           · exact h.2
           · exact fun hs=>h3 y hy (by simp[hs])
       · rintro ⟨h1,h2,h3⟩
         obtain ⟨h4,h5⟩:=List.nodup_cons.1 h2
         refine ⟨fun y hy=>h1 y (by simp[hy]),h5,fun y hy hs=>?_⟩
         rcases List.mem_cons.1 hs with rfl | hs
         · exact h4 hy
         · exact h3 y (by simp[hy]) hs
     · rw[if_neg h]
       refine ⟨fun e=>by simp at e,fun ⟨h1,h2,h3⟩=>?_⟩
       obtain ⟨s',q1,q2⟩:=h1 x (by simp)
       rw[hg] at q1;cases q1
       exact absurd ⟨q2,h3 x (by simp)⟩ h
theorem a_xj {js:List Jt}{s e:Int}{p:Int × Int}(h:nxt js s e=some p) :∃j ∈ js,(j.B=p.1∧j.BEnd=p.2)∨(j.A=p.1∧j.AEnd=p.2):=by
 induction js with
 | nil=>cases h
 | cons j r ih=>
   rw[nxt] at h
   split at h
   · cases h;exact ⟨j,by simp, .inl ⟨rfl,rfl⟩⟩
   split at h
   · cases h;exact ⟨j,by simp, .inr ⟨rfl,rfl⟩⟩
   · obtain ⟨k,h1,h2⟩:=ih h
     exact ⟨k,by simp[h1],h2⟩
theorem a_td {c:Cf}(ht:b_q c.Secs c.Jts=true){s e q f:Int}(h:nxt c.Jts s e=some (q,f)) :∃y,a_k c.Secs q=some y:=by
 obtain ⟨j,hj,h1⟩:=a_xj h
 obtain ⟨_,_,h3⟩:=(o_3 _ _).1 ht
 obtain ⟨a,b,_⟩:=h3 j hj
 have:0≤q∧q < c.Secs.length:=by rcases h1 with ⟨e1,_⟩ | ⟨e1,_⟩ <;> simp only at e1 <;> omega
 obtain ⟨y,hy⟩:=a_g (l:=c.Secs) (j:=q.toNat) (by omega)
 exact ⟨y,by unfold a_k;rw[if_neg (by omega),hy]⟩
theorem h_e {c:Cf}{s:Int}{y:Sec}(h:a_k c.Secs s=some y) :z_e c s=y.Kind:=by unfold z_e;rw[h];rfl
theorem k_z {c:Cf}{s:Int}(h:a_k c.Secs s=none) :z_e c s= -1:=by unfold z_e;rw[h];rfl
theorem a_k2 (path:List St)(q:Int) :inL (path.map St.Sec) q=c_e path q:=by
 unfold inL c_e
 induction path with
 | nil=>rfl
 | cons x r ih=>
   rw[List.any_cons,←ih,List.map_cons]
   by_cases h:x.Sec=q
   · simp[h]
   · simp[h,Ne.symm h]
theorem a_w4 {c:Cf}(ht:b_q c.Secs c.Jts=true){x:Int}{y:Sec}(h:a_k c.Secs x=some y) :0≤y.Kind∧y.Kind≤2:=by
 obtain ⟨_,h2,_⟩:=(o_3 _ _).1 ht
 have:=(h2 _ _ (a_l h).2.2).1
 unfold b_l at this
 split at this
 · omega
 split at this
 · omega
 split at this
 · omega
 · exact absurd rfl this
theorem a_tt {c:Cf}(h:c.sigsOk=true) :c.Sigs.Nodup:=by
 rw[Cf.sigsOk,Bool.and_eq_true,a_a9] at h
 exact h.1.2.1
theorem a_yu {c:Cf}(h:c.sigsOk=true)(sec e but:Int) :atB sec e but c.Sigs 0=((c.Sigs.any fun x=>decide (⟨sec,e⟩ =x)) && !decide (a_k c.Sigs but=some ⟨sec,e⟩)):=by
 have hn:=a_tt h
 rw[Bool.eq_iff_iff,a_ef]
 simp only[Bool.and_eq_true,List.any_eq_true,decide_eq_true_eq,Bool.not_eq_true',decide_eq_false_iff_not,Nat.zero_add]
 constructor
 · rintro ⟨i,x,h1,rfl,h3⟩
   refine ⟨⟨_,List.mem_of_getElem? h1,rfl⟩,fun hg=>h3 ?_⟩
   have hg:=a_l hg
   obtain ⟨q1,q2⟩:=List.getElem?_eq_some_iff.1 h1
   obtain ⟨p1,p2⟩:=List.getElem?_eq_some_iff.1 hg.2.2
   have:=(List.getElem_inj (h₀:=q1) (h₁:=p1) hn).1 (by rw[q2,p2])
   omega
 · rintro ⟨⟨x,hx,rfl⟩,h2⟩
   obtain ⟨i,hi⟩:=List.mem_iff_getElem?.1 hx
   refine ⟨i,_,hi,rfl,fun e=>h2 ?_⟩
   unfold a_k
   rw[if_neg (by omega),←e,Int.toNat_natCast];exact hi
theorem c_8 {α:Type}{l:List α}{i:Int}(h0:¬i < 0)(h1:¬i≥(l.length:Int)) :∃x,a_k l i=some x:=by
 obtain ⟨x,hx⟩:=a_g (l:=l) (j:=i.toNat) (by omega)
 exact ⟨x,by unfold a_k;rw[if_neg h0];exact hx⟩
end Go.Fw
namespace Go.Fw
theorem a_ym (out:List Nd)(q:Int) :inL (out.map Nd.Sec) q=out.any fun n=>n.Sec == q:=by
 unfold inL
 induction out with
 | nil=>rfl
 | cons x r ih=>
   rw[List.any_cons,←ih,List.map_cons]
   by_cases h:x.Sec=q
   · simp[h]
   · simp[h,Ne.symm h]
end Go.Fw
end
namespace Go.Proofs.YtdmfnhbmhkgemaaGreat
open Go.Fw Go.Proofs Go.RowKit
open Go.Proofs.Tryz (prog)
section
variable {σ:Store}
theorem j_e {d:D}{l:List Int}(n:Int)(h:At prog σ a_i d (l.map Go.Fw.encI)) :Pure prog d_w [.one d,iA n] σ (.a (bA (inL l n))):=by
 have hs:=h.size
 rw[List.length_map] at hs
 refine a_rp d n σ _ (h.lenK ⟨fun m s=>s=σ∧Rng l (fun r=>inL r n=inL l n) m,fun m _=>l.length - m.toNat,⟨rfl, .start rfl⟩,?_⟩)
 rintro m s ⟨rfl,hr⟩
 refine bcd (fun hlt=>?_) (fun hge=>⟨?_,rfl⟩)
 · obtain ⟨j,x,rfl,hx,hj,hF,nx⟩:=hr.step (by simp) hs hlt
   refine h.load (a_c hx) c_int rfl ⟨x,rfl,bce (fun e=>⟨?_,rfl⟩) (fun e=>c_6 rfl (nx (fun r=>inL r n=inL l n) ?_))⟩
   · rw[←hF,inL,e,decide_eq_true (by simp)]
   · rw[←hF,inL,inL];exact decide_eq_decide.2 (by simp[Ne.symm e])
 · rw[←hr.done (by simp) hge];rfl
theorem m_e {d:D}{path:List St}(h:∀s,At prog s d_0 d (path.map St.enc))(hb:24 * path.length≤140737488355328) :
   DCalls prog d_q [.one d] σ (b_r σ a_i ((path.map St.Sec).map Go.Fw.encI)):=by
 have hs:=(h σ).size
 rw[List.length_map] at hs
 refine (z_6 d σ _ ?_).ret (Q:=fun r s=>∃r' σ',Ret prog σ s r σ' r'∧b_r σ a_i ((path.map St.Sec).map Go.Fw.encI) r' σ') (fun r s h=>h)
 refine (h σ).lenK ⟨fun d n s=>∃j:Nat,n=j∧j≤path.length∧Own prog σ s a_i d (((path.take j).map St.Sec).map Go.Fw.encI),fun _ n _=>path.length - n.toNat,⟨0,rfl,by omega, .nil _ (.refl _)⟩,?_⟩
 rintro d1 _ s ⟨j,rfl,hj,ho⟩
 rw[List.length_map]
 refine bcd (fun hlt=>?_) (fun hge=>?_)
 · obtain ⟨x,hx⟩:=a_g (l:=path) (j:=j) (by omega)
   refine (h s).load (a_c hx) g_f rfl ⟨x.Sec,x.In,x.Out,rfl,a_d fun id s2 hid _ he hs2=>?_⟩
   have hl:(((path.take j).map St.Sec).map Go.Fw.encI).length=j:=by simp;omega
   refine (ho.ext' he).append (At.fresh hs2 (by simp) rfl) (by simp;omega) (by simp;omega) fun d4 s5 ho5 _ _=>?_
   rw[a_m (by omega)]
   refine ⟨⟨j+1,rfl,by omega,?_⟩,by show path.length - ((j+1:Nat) :Int).toNat < path.length - ((j:Nat) :Int).toNat;omega⟩
   have e:path.take (j+1) =path.take j ++ [x]:=by rw[List.take_add_one,hx];rfl
   rw[e,List.map_append,List.map_append];exact ho5
 · have e:j=path.length:=by omega
   rw[e,List.take_length] at ho
   exact c_n ho (v_e _)
section
variable {c0 c1 c2 c3 c4:D} {c:Cf}
theorem i_3 (h:CfAt σ c0 c1 c2 c3 c4 c)(s:Int) :Pure prog f_9 [cfA c0 c1 c2 c3 c4 c,iA s] σ (.a (iA (z_e c s))):=by
 refine a_lp _ _ _ _ _ _ _ _ _ s σ _ (bcd (fun h1=>⟨by rw[k_z (b_z h1)],rfl⟩) (fun h1=>h.secs.lenK (bcd (fun h2=>⟨by rw[List.length_map] at h2;rw[k_z (c_z h2)],rfl⟩) (fun h2=>?_))))
 rw[List.length_map] at h2
 obtain ⟨x,hx⟩:=a_g (l:=c.Secs) (j:=s.toNat) (by omega)
 refine h.secs.load (a_c hx) b_n (by omega) ⟨x.Kind,rfl,?_,rfl⟩
 rw[h_e (y:=x) (by unfold a_k;rw[if_neg h1,hx])]
theorem x_t (h:CfAt σ c0 c1 c2 c3 c4 c)(i:Int) :Pure prog i_r [cfA c0 c1 c2 c3 c4 c,iA i] σ (.a (iA (c.Approach i))):=by
 obtain ⟨rows,hr,hl⟩:=i_1 h
 refine z_8 _ _ _ _ _ _ _ _ _ i σ _ (bcd (fun h1=>⟨by rw[Cf.Approach,b_z h1];rfl,rfl⟩) (fun h1=>hr.lenK (bcd (fun h2=>⟨by rw[hl] at h2;rw[Cf.Approach,c_z h2];rfl,rfl⟩) (fun h2=>?_))))
 rw[hl] at h2
 obtain ⟨x,hx⟩:=a_g (l:=c.Rts) (j:=i.toNat) (by omega)
 have hg:a_k c.Rts i=some x:=by unfold a_k;rw[if_neg h1,hx]
 have hA:c.Approach i=c.approach x:=by rw[Cf.Approach,hg];rfl
 rw[hA]
 obtain ⟨rows',hr',_,d1,d2,d3,hrow,_⟩:=a_sr h hx
 refine hr'.load hrow c_p (by omega) ⟨_,rfl,bcd (fun h3=>⟨by rw[Cf.approach,b_z h3];rfl,rfl⟩) (fun h3=>hr'.load hrow c_p (by omega) ⟨_,rfl,h.sigs.lenK (bcd (fun h4=>⟨?_,rfl⟩) (fun h4=>hr'.load hrow c_p (by omega) ⟨_,rfl,?_⟩))⟩)⟩
 · rw[List.length_map] at h4;rw[Cf.approach,c_z h4];rfl
 · rw[List.length_map] at h4
   obtain ⟨y,hy⟩:=a_g (l:=c.Sigs) (j:=x.Entry.toNat) (by omega)
   refine h.sigs.load (a_c hy) f_l (by omega) ⟨y.Sec,rfl,?_,rfl⟩
   rw[Cf.approach,show a_k c.Sigs x.Entry=some y by unfold a_k;rw[if_neg h3,hy]];rfl
theorem a_b7 (h:CfAt σ c0 c1 c2 c3 c4 c)(sec e but:Int) :Pure prog p_k [cfA c0 c1 c2 c3 c4 c,iA sec,iA e,iA but] σ (.a (bA (atB sec e but c.Sigs 0))):=by
 have hs:=h.sigs.size
 rw[List.length_map] at hs
 refine a_ru _ _ _ _ _ _ _ _ _ sec e but σ _ (h.sigs.lenK ⟨fun m s=>s=σ∧Rng c.Sigs (fun r=>atB sec e but r m.toNat=atB sec e but c.Sigs 0) m,fun m _=>c.Sigs.length - m.toNat,⟨rfl, .start rfl⟩,?_⟩)
 rintro m s ⟨rfl,hr⟩
 refine bcd (fun hlt=>?_) (fun hge=>⟨?_,rfl⟩)
 · obtain ⟨j,x,rfl,hx,hj,hF,nx⟩:=hr.step (by simp) hs hlt
   rw[atB,Int.toNat_natCast] at hF
   have hw:(w64 ((j:Int) +1)).toNat=j+1:=by rw[a_m (by omega)];omega
   have go:(decide (x.Sec=sec) && decide (x.End_=e) && decide ((j:Int)≠but)) =false→(s=s∧Rng c.Sigs (fun r=>atB sec e but r (w64 ((j:Int) +1)).toNat=atB sec e but c.Sigs 0) (w64 ((j:Int) +1)))∧c.Sigs.length - (w64 ((j:Int) +1)).toNat < c.Sigs.length - (j:Int).toNat:=by
     intro hn
     rw[hn,Bool.false_or] at hF
     exact c_6 rfl (nx (fun r=>atB sec e but r (w64 ((j:Int) +1)).toNat=atB sec e but c.Sigs 0) (by rw[hw];exact hF))
   refine h.sigs.load (a_c hx) f_l rfl ⟨x.Sec,x.End_,rfl,bce (fun h1=>bce (fun h2=>bcn (fun h3=>⟨?_,rfl⟩) (fun h3=>go (by simp[h3]))) (fun h2=>go (by simp[h2]))) (fun h1=>go (by simp[h1]))⟩
   rw[←hF,decide_eq_true h1,decide_eq_true h2,decide_eq_true h3];rfl
 · rw[←hr.done (by simp) hge];rfl
theorem a_bw (h:CfAt σ c0 c1 c2 c3 c4 c) :Pure prog j_o [cfA c0 c1 c2 c3 c4 c] σ (.a (bA c.sigsOk)):=by
 have hs:=h.sigs.size
 rw[List.length_map] at hs
 have no:∀(i:Nat) (x:Sg),c.Sigs[i]? =some x→¬((nxt c.Jts x.Sec x.End_).isSome=true∧atB x.Sec x.End_ i c.Sigs 0=false)→c.sigsOk=false:=fun i x hi hn=>by
   unfold Cf.sigsOk
   cases hb:l_5 c.Jts c.Sigs [] with
   | false=>rfl
   | true=>exact absurd ((a_n2 c).2 hb i x hi) hn
 refine a_cq _ _ _ _ _ _ _ _ _ σ _ (h.sigs.lenK ⟨fun m s=>s=σ∧∃j:Nat,m=j∧j≤c.Sigs.length∧∀(i:Nat) (x:Sg),i < j→c.Sigs[i]? =some x→(nxt c.Jts x.Sec x.End_).isSome=true∧atB x.Sec x.End_ i c.Sigs 0=false,fun m _=>c.Sigs.length - m.toNat,⟨rfl,0,rfl,by omega,fun i x hi=>by omega⟩,?_⟩)
 rintro _ s ⟨rfl,j,rfl,hj,hall⟩
 rw[List.length_map]
 refine bcd (fun hlt=>?_) (fun hge=>h.sigs.lenK ⟨?_,rfl⟩)
 · have hlt:j < c.Sigs.length:=by omega
   obtain ⟨x,hx⟩:=a_g (l:=c.Sigs) (j:=j) (by omega)
   refine h.sigs.load (a_c hx) f_l rfl ⟨x.Sec,x.End_,rfl,(g_s x.Sec x.End_ h.jts).use (i_x _ (a_p (fun e=>⟨by rw[no j x hx (fun g=>by rw[g.1] at e;cases e)],rfl⟩) (fun e=>(a_b7 h x.Sec x.End_ j).use ⟨_,rfl,bc (fun e2=>⟨by rw[no j x hx (fun g=>by rw[g.2] at e2;cases e2)],rfl⟩) (fun e2=>?_)⟩)))⟩
   rw[a_m (by omega)]
   refine ⟨⟨rfl,j+1,rfl,by omega,fun i y hi hy=>?_⟩,c_9 hlt⟩
   by_cases hij:i=j
   · subst hij;rw[hx] at hy;cases hy;exact ⟨e,e2⟩
   · exact hall i y (by omega) hy
 · rw[List.length_map]
   have:l_5 c.Jts c.Sigs []=true:=(a_n2 c).1 fun i x hi=>hall i x (by have:=(List.getElem?_eq_some_iff.1 hi).1;omega) hi
   rw[Cf.sigsOk,this,Bool.true_and]
   congr 3
   exact decide_eq_decide.2 (by omega)
theorem x_i (h:CfAt σ c0 c1 c2 c3 c4 c)(ht:b_q c.Secs c.Jts=true) :Pure prog h_7 [cfA c0 c1 c2 c3 c4 c] σ (.a (bA c.xsOk)):=by
 have hs:=h.xs.size
 rw[List.length_map] at hs
 have key:c.xsOk=true→∀(i:Nat) (x:Int),c.Xs[i]? =some x→(∃s,a_k c.Secs x=some s∧s.Line=0)∧x ∉ c.Xs.take i:=fun hb i x hi=>by
   rw[Cf.xsOk,Bool.and_eq_true,x_4] at hb
   obtain ⟨⟨h1,h2,_⟩,_⟩:=hb
   refine ⟨h1 x (List.mem_of_getElem? hi),fun hm=>?_⟩
   obtain ⟨j,hj⟩:=List.mem_iff_getElem?.1 hm
   rw[List.getElem?_take] at hj
   split at hj
   · rename_i hji
     obtain ⟨q1,q2⟩:=List.getElem?_eq_some_iff.1 hi
     obtain ⟨p1,p2⟩:=List.getElem?_eq_some_iff.1 hj
     have:=(List.getElem_inj (h₀:=q1) (h₁:=p1) h2).1 (by rw[q2,p2])
     omega
   · cases hj
 have no:∀(i:Nat) (x:Int),c.Xs[i]? =some x→¬((∃s,a_k c.Secs x=some s∧s.Line=0)∧x ∉ c.Xs.take i)→c.xsOk=false:=fun i x hi hn=>by
   cases hb:c.xsOk with
   | false=>rfl
   | true=>exact absurd (key hb i x hi) hn
 refine x_l _ _ _ _ _ _ _ _ _ σ _ (h.xs.lenK ⟨fun m s=>s=σ∧∃j:Nat,m=j∧j≤c.Xs.length∧∀(i:Nat) (x:Int),i < j→c.Xs[i]? =some x→(∃s,a_k c.Secs x=some s∧s.Line=0)∧x ∉ c.Xs.take i,fun m _=>c.Xs.length - m.toNat,⟨rfl,0,rfl,by omega,fun i x hi=>by omega⟩,?_⟩)
 rintro _ s ⟨rfl,j,rfl,hj,hall⟩
 rw[List.length_map]
 refine bcd (fun hlt=>?_) (fun hge=>h.xs.lenK ⟨?_,rfl⟩)
 · have hlt:j < c.Xs.length:=by omega
   obtain ⟨x,hx⟩:=a_g (l:=c.Xs) (j:=j) (by omega)
   refine h.xs.load (a_c hx) c_int rfl ⟨x,rfl,(i_3 h x).use ⟨_,rfl,?_⟩⟩
   cases hg:a_k c.Secs x with
   | none=>
     rw[k_z hg]
     exact bcd (fun _=>⟨by rw[no j x hx (fun g=>by obtain ⟨⟨s,q,_⟩,_⟩:=g;rw[hg] at q;cases q)],rfl⟩) (fun e=>absurd (by decide) e)
   | some y=>
     rw[h_e hg]
     have hgi:=a_l hg
     have hget:c.Secs[x.toNat]? =some y:=hgi.2.2
     refine bcd (fun e=>absurd (a_w4 ht hg).1 (by omega)) (fun _=>h.secs.load (a_c hget) b_n (by omega) ⟨y.Line,rfl,bcn (fun e=>⟨by rw[no j x hx (fun g=>by obtain ⟨⟨s,q,q2⟩,_⟩:=g;rw[hg] at q;cases q;exact e q2)],rfl⟩) (fun e=>h.xs.sliceK (lo:=0) (hi:=j) c_int rfl rfl (by omega) (by rw[List.length_map];omega) ?_)⟩)
     have hsub:=h.xs.sub (lo:=0) (hi:=j) (by omega) (by rw[List.length_map];omega)
     rw[List.drop_zero,Nat.sub_zero,←List.map_take] at hsub
     refine (j_e x hsub).use ⟨_,rfl,bc (fun e2=>⟨by rw[no j x hx (fun g=>g.2 (of_decide_eq_true e2))],rfl⟩) (fun e2=>?_)⟩
     rw[a_m (by omega)]
     refine ⟨⟨rfl,j+1,rfl,by omega,fun i y' hi hy=>?_⟩,c_9 hlt⟩
     by_cases hij:i=j
     · subst hij;rw[hx] at hy;cases hy;exact ⟨⟨y,hg,e⟩,of_decide_eq_false e2⟩
     · exact hall i y' (by omega) hy
 · rw[List.length_map]
   have:xrun c.Secs c.Xs []=true:=by
     rw[x_4]
     refine ⟨fun x hx=>?_,?_,fun x _ hx=>by simp at hx⟩
     · obtain ⟨i,hi⟩:=List.mem_iff_getElem?.1 hx
       exact (hall i x (by have:=(List.getElem?_eq_some_iff.1 hi).1;omega) hi).1
     · rw[List.nodup_iff_pairwise_ne,List.pairwise_iff_getElem]
       intro i j' hi hj' hij e
       have:=(hall j' _ (by omega) (List.getElem?_eq_getElem hj')).2
       apply this
       rw[List.mem_take_iff_getElem]
       exact ⟨i,by omega,e⟩
   rw[Cf.xsOk,this,Bool.true_and]
   congr 3
   exact decide_eq_decide.2 (by omega)
end
end
end Go.Proofs.YtdmfnhbmhkgemaaGreat
section
namespace Go.Fw
variable {P:Program} {σ σ':Store}
theorem Own.stay {σ0:Store}{el:TypeId}{e d:D}{qs:List (List D)}(g:Own P σ0 σ el e qs)(hs:∀i,σ i≠ .free→a_5 d≠some i→σ' i=σ i)(ha:Apart e d)(he:Ext σ0 σ') :Own P σ0 σ' el e qs:=
 ⟨g.at_.same fun i a n h=>hs i (by
   have:=g.at_.rows;subst h
   obtain ⟨t,rows,h1,_⟩:=this
   rw[h1];intro e;cases e) (ha i (by subst h;rfl)),he,g.new,g.nsl,g.nz⟩
theorem Own.append2 {σ0:Store}{el el':TypeId}{d e x:D}{rs qs ns:List (List D)}{bytes:Nat}{K:D→Store→Prop}(h:Own P σ0 σ el d rs)(g:Own P σ0 σ el' e qs)(ha:Apart e d)(hx:At P σ el x ns)
   (hb:bytes * (rs.length+ns.length)≤140737488355328) (hsz:rs.length+ns.length < 2 ^ 60) (hk:∀d' σ',Own P σ0 σ' el d' (rs ++ ns)→Own P σ0 σ' el' e qs→Apart e d'→K d' σ') :a_v P σ el bytes d x K:=
 h.append hx hb hsz fun d' s' ho h1 h2=>hk d' s' ho (g.stay (d:=d) (fun i hi hd=>h1 i hi fun a b hab=>hd (by rw[hab];rfl)) ha ho.ext) fun i hi hd=>by
   have hn:=g.at_.rows
   cases e with
   | osl i' a n=>
     have e1:i'=i:=by simpa[a_5] using hi
     subst e1
     obtain ⟨t,rows,h3,_⟩:=hn
     cases d' with
     | osl j a' n'=>
       have e2:j=i':=by simpa[a_5] using hd
       subst e2
       rcases h2 j a' n' rfl with q | ⟨a2,b2,q⟩
       · rw[h3] at q;cases q
       · exact ha j rfl (by rw[q];rfl)
     | _=>simp[a_5] at hd
   | _=>simp[a_5] at hi
theorem Apart.nil (d:D) :Apart .nils d:=fun i h=>by cases h
end Go.Fw
namespace Go.Fw
variable {P:Program} {σ σ':Store}
theorem a_bx {s:Store}{el:TypeId}{es:Nat}{rows:List (List D)}(hes:P.cellsOf el=es)(hsz:rows.length < 2 ^ 60) :At P s el (.sl es rows) rows:=
 ⟨⟨rfl, .inr hes.symm⟩,hsz,fun es rows e=>by injection e with e1 e2;rw[←e1,hes]⟩
theorem m_b {σ0 s:Store}{el:TypeId}{d:D}{rs:List (List D)}{i:Nat}(h:Own P σ0 s el d rs)(hi:a_5 d=some i) :σ0 i= .free:=by
 cases d with
 | osl id a n=>
   have:id=i:=by simpa[a_5] using hi
   subst this
   exact h.new _ _ _ rfl
 | _=>simp[a_5] at hi
end Go.Fw
namespace Go.Fw
variable {P:Program} {σ σ':Store}
end Go.Fw
namespace Go.Fw
variable {P:Program} {σ σ':Store}
end Go.Fw
namespace Go.Fw
variable {P:Program} {σ σ':Store}
theorem Own.sub {σ0:Store}{el:TypeId}{d:D}{rs:List (List D)}{lo hi:Nat}(h:Own P σ0 σ el d rs)(h1:lo≤hi)(h2:hi≤rs.length) :Own P σ0 σ el (g_i d lo hi) ((rs.drop lo).take (hi - lo)):=by
 have hr:=h.at_.rows
 have hn:=h.new
 have hl:=h.nsl
 have hz:=h.nz
 refine ⟨h.at_.sub h1 h2,h.ext,?_,?_,?_⟩ <;> cases d <;> simp only[g_i,Rows] at * <;> first | (intro id i n e;cases e;exact hn _ _ _ rfl) | (intro id i n e;cases e;done) | exact hl | (intro e;cases e;done) | exact hr.elim | exact hz
end Go.Fw
end
namespace Go.Proofs.YtdmfnhbmhkgemaaGreat
open Go.Fw Go.Proofs Go.RowKit
open Go.Proofs.Tryz (prog)
section
variable {σ:Store}
theorem z_x {a b:D}{la lb:List Int}(ha:At prog σ a_i a (la.map Go.Fw.encI))(hb:At prog σ a_i b (lb.map Go.Fw.encI)) :Pure prog i_q [.one a, .one b] σ (.a (bA (decide (la=lb)))):=by
 have hs:=ha.size
 rw[List.length_map] at hs
 refine a_bl a b σ _ (ha.lenK (hb.lenK ?_))
 rw[List.length_map,List.length_map]
 refine bcn (fun hne=>⟨?_,rfl⟩) (fun he=>ha.lenK ?_)
 · rw[decide_eq_false (fun e=>hne (by rw[e]))]
 have hl:la.length=lb.length:=by omega
 rw[List.length_map]
 refine ⟨fun n s=>s=σ∧EqR la lb n,fun n _=>la.length - n.toNat,⟨rfl, .start _ _⟩,?_⟩
 rintro n s ⟨rfl,hr⟩
 refine bcd (fun hlt=>?_) (fun hge=>⟨?_,rfl⟩)
 · obtain ⟨j,x,y,rfl,hx,hy,hn,hy2⟩:=hr.step hl rfl hs hlt
   refine ha.load (a_c hx) c_int rfl ⟨x,rfl,hb.load (a_c hy) c_int rfl ⟨y,rfl,bcn (fun e=>⟨?_,rfl⟩) (fun e=>c_6 rfl (hy2 e))⟩⟩
   rw[decide_eq_false (hn e)]
 · rw[decide_eq_true (hr.done hl rfl hge)]
theorem v_j {a b:D}{la lb:List Nd}(ha:At prog σ a_4 a (la.map Nd.enc))(hb:At prog σ a_4 b (lb.map Nd.enc)) :Pure prog h_w [.one a, .one b] σ (.a (bA (decide (la=lb)))):=by
 have hs:=ha.size
 rw[List.length_map] at hs
 refine y_b a b σ _ (ha.lenK (hb.lenK ?_))
 rw[List.length_map,List.length_map]
 refine bcn (fun hne=>⟨?_,rfl⟩) (fun he=>ha.lenK ?_)
 · rw[decide_eq_false (fun e=>hne (by rw[e]))]
 have hl:la.length=lb.length:=by omega
 rw[List.length_map]
 refine ⟨fun n s=>s=σ∧EqR la lb n,fun n _=>la.length - n.toNat,⟨rfl, .start _ _⟩,?_⟩
 rintro n s ⟨rfl,hr⟩
 refine bcd (fun hlt=>?_) (fun hge=>⟨?_,rfl⟩)
 · obtain ⟨j,x,y,rfl,hx,hy,hn,hy2⟩:=hr.step hl rfl hs hlt
   refine ha.load (a_c hx) m_m rfl ⟨x.Sec,x.Pos,rfl,hb.load (a_c hy) m_m rfl ⟨y.Sec,y.Pos,rfl,a_p (fun e=>⟨?_,rfl⟩) (fun e=>c_6 rfl (hy2 ?_))⟩⟩
   · rw[decide_eq_false (hn fun g=>by rw[g] at e;simp at e)]
   · simp at e;cases x;cases y;simp at e;simp[e]
 · rw[decide_eq_true (hr.done hl rfl hge)]
section
variable {c0 c1 c2 c3 c4:D} {c:Cf} (h:∀s,CfAt s c0 c1 c2 c3 c4 c)
include h
theorem a_ii (ht:b_q c.Secs c.Jts=true)(hsg:c.sigsOk=true)(r:Rt){d1 d2 d3:D}(hp:∀s,At prog s d_0 d1 (r.Path.map St.enc)) :
   Pure prog o_o [cfA c0 c1 c2 c3 c4 c,rtA d1 d2 d3 r] σ (.a (bA (c.path r))):=by
 have hl:=(hp σ).size
 rw[List.length_map] at hl
 refine .of (a_ls _ _ _ _ _ _ _ _ _ _ _ d1 d2 d3 _ σ _ ?_) (l_e _)
 intro R hR
 have no:c.path r=false→(RV.a (bA false) = .a (bA (c.path r))∧Ext σ σ):=fun e=>⟨by rw[e], .refl _⟩
 refine bcd (fun e=>no (by rw[Cf.path,b_z e])) (fun e0=>(h σ).sigs.lenK ?_)
 rw[List.length_map]
 refine bcd (fun e=>no (by rw[Cf.path,c_z e])) (fun e1=>?_)
 obtain ⟨a,hg⟩:=c_8 e0 e1
 have hpath:c.path r=((decide (r.Exit= -1) || (a_k c.Sigs r.Exit).isSome) && decide (1≤r.Path.length∧r.Path.length≤8) && p_0 c r (a_k c.Sigs r.Exit) r.Path a [a.Sec]):=by rw[Cf.path,hg]
 refine bcd (fun e=>no (by rw[hpath,b_z (by omega),decide_eq_false (by omega)];rfl)) (fun e2=>(h σ).sigs.lenK ?_)
 rw[List.length_map]
 refine bcd (fun e=>no (by rw[hpath,c_z e,decide_eq_false (by omega)];rfl)) (fun e3=>(hp σ).lenK ?_)
 rw[List.length_map]
 refine bcd (fun e=>no (by rw[hpath,decide_eq_false (p:=1≤r.Path.length∧_) (by omega),Bool.and_false,Bool.false_and])) (fun e4=>(hp σ).lenK ?_)
 rw[List.length_map]
 refine bcd (fun e=>no (by rw[hpath,decide_eq_false (p:=1≤r.Path.length∧_) (by omega),Bool.and_false,Bool.false_and])) (fun e5=>hR σ ?_)
 have hex1:(decide (r.Exit= -1) || (a_k c.Sigs r.Exit).isSome) =true:=by
   by_cases e:r.Exit= -1
   · rw[decide_eq_true e];rfl
   · obtain ⟨x,hx⟩:=c_8 (l:=c.Sigs) (i:=r.Exit) (by omega) e3
     rw[hx];simp
 rw[hex1,decide_eq_true (by omega),Bool.true_and,Bool.true_and] at hpath
 have hgs:=a_l hg
 refine (h σ).sigs.load (a_c hgs.2.2) f_l (by omega) ⟨a.Sec,a.End_,rfl,a_d fun id s1 hid _ he1 hs1=>(hp s1).lenK ?_⟩
 rw[List.length_map]
 refine ⟨fun m e d n s=>∃seen:List Int,Own prog σ s a_i d (seen.reverse.map Go.Fw.encI)∧(seen.length:Int)≤n+1∧Rng r.Path (fun q=>p_0 c r (a_k c.Sigs r.Exit) q ⟨m,e⟩ seen=c.path r) n,fun _ _ _ n _=>r.Path.length - n.toNat,
   ⟨[a.Sec], .at_new hid he1 hs1 (by simp) rfl,by simp, .start hpath.symm⟩,?_⟩
 rintro m e d n s ⟨seen,ho,hsl,hr⟩
 refine bcd (fun hlt=>?_) (fun hge=>?_)
 · obtain ⟨j,x,rfl,hx,hj,hF,nx⟩:=hr.step rfl hl hlt
   intro R1 hR1
   refine (hp s).load (a_c hx) g_f rfl ⟨x.Sec,x.In,x.Out,rfl,(g_s m e (h s).jts).use (i_x _ ?_)⟩
   rw[p_0] at hF
   have hes:=ho.ext
   have bad:z_q c r (a_k c.Sigs r.Exit) ⟨m,e⟩ x (r.Path.drop (j+1)).isEmpty seen=false→(RV.a (.one (.bool false)) = .a (bA (c.path r))∧Ext σ s):=fun hb=>by
     rw[hb] at hF
     exact ⟨by rw[←hF];rfl,hes⟩
   have good:z_q c r (a_k c.Sigs r.Exit) ⟨m,e⟩ x (r.Path.drop (j+1)).isEmpty seen=true→∀s' d',Own prog σ s' a_i d' ((x.Sec::seen).reverse.map Go.Fw.encI)→R1 x.Sec x.Out d' s':=fun hb s' d' ho'=>by
     rw[hb,Bool.true_and] at hF
     have hn:=nx (fun q=>p_0 c r (a_k c.Sigs r.Exit) q ⟨x.Sec,x.Out⟩ (x.Sec::seen) =c.path r) hF
     exact hR1 _ _ _ _ ⟨⟨x.Sec::seen,ho',by rw[a_m (by omega),List.length_cons];omega,hn.1⟩,hn.2⟩
   intro R2 hR2
   rw[z_q] at bad good
   cases hn:nxt c.Jts m e with
   | none=>
     rw[hn] at bad
     exact a_p (fun _=>bad rfl) (fun e=>by cases e)
   | some p=>
     obtain ⟨q,i⟩:=p
     rw[hn] at bad good hR2
     obtain ⟨y,hy⟩:=a_td ht hn
     simp only[hy,Option.getD_some] at bad good hR2 ⊢
     refine a_p (fun e=>by cases e) (fun _=>bcn (fun k=>bad (by simp[k])) (fun k1=>bcn (fun k=>bad (by simp[k])) (fun k2=>(j_e q ho.at_).use ⟨_,rfl,bc (fun k=>bad ?_) (fun k3=>⟨trivial,hR2 s ?_⟩)⟩)))
     · have:q ∈ seen:=by simpa[inL] using k
       simp[this]
     have hq:q ∉ seen:=by simpa[inL] using k3
     refine (i_3 (h s) q).use ⟨_,rfl,(y_9 _ _ _).use (a_eg _ ?_)⟩
     rw[h_e hy]
     intro R3 hR3
     have main:∀but,decide (a_k c.Sigs but=some ⟨x.Sec,x.Out⟩) =((r.Path.drop (j+1)).isEmpty && decide (a_k c.Sigs r.Exit=some ⟨x.Sec,x.Out⟩))→R3 but s:=fun but hbut=>hR3 but s (by
       intro R4 hR4
       refine a_p (fun k=>bad (by rw[k];simp)) (fun k4=>(a_b7 (h s) x.Sec x.Out but).use ⟨_,rfl,?_⟩)
       rw[a_yu hsg,hbut]
       have hfin:(!(r.Shunt && decide (y.Line≠0))) =true→((c.Sigs.any fun z=>decide (⟨x.Sec,x.Out⟩ =z)) && !((r.Path.drop (j+1)).isEmpty && decide (a_k c.Sigs r.Exit=some ⟨x.Sec,x.Out⟩))) =false→R4 s:=fun g1 g2=>hR4 s (a_d fun id1 s2 hid1 _ he2 hs2=>(ho.ext' he2).append (At.fresh hs2 (by simp) rfl) (by simp;omega) (by simp;omega) fun d4 s5 ho5 _ _=>good (by
         rw[k4,g1,decide_eq_true k1,decide_eq_true k2,decide_eq_true hq]
         generalize (c.Sigs.any fun z=>decide (⟨x.Sec,x.Out⟩ =z)) =u at g2
         generalize ((r.Path.drop (j+1)).isEmpty && decide (a_k c.Sigs r.Exit=some ⟨x.Sec,x.Out⟩)) =w at g2
         cases u <;> cases w <;> first | rfl | cases g2) _ _ (by rw[List.reverse_cons,List.map_append,←k1];exact ho5))
       refine bc (fun k=>bad ?_) (fun k5=>bc (fun k6=>(h s).secs.load (a_c (a_l hy).2.2) b_n (by have:=a_l hy;omega) ⟨y.Line,rfl,bcn (fun k7=>bad (by rw[k6];simp[k7])) (fun k7=>⟨trivial,hfin (by rw[k6];simp[k7]) k5⟩)⟩) (fun k6=>⟨trivial,hfin (by rw[k6];rfl) k5⟩))
       · generalize (c.Sigs.any fun z=>decide (⟨x.Sec,x.Out⟩ =z)) =u at k
         generalize ((r.Path.drop (j+1)).isEmpty && decide (a_k c.Sigs r.Exit=some ⟨x.Sec,x.Out⟩)) =w at k
         cases u <;> cases w <;> first | (simp;done) | cases k)
     refine (hp s).lenK ?_
     rw[List.length_map,a_w (n:=(r.Path.length:Int) - 1) (by omega) (by omega)]
     refine bce (fun q1=>⟨trivial,main _ ?_⟩) (fun q1=>⟨trivial,main _ ?_⟩)
     · rw[e_7 (by omega)];simp
     · have hemp : (r.Path.drop (j + 1)).isEmpty = false := by
         cases hd:r.Path.drop (j+1) with
         | nil=>rw[List.drop_eq_nil_iff] at hd;omega
         | cons y l=>rfl
       rw[hemp,b_z (by omega)];simp
 · have hF:(match (generalizing:=false) a_k c.Sigs r.Exit with | some x=>decide ((⟨m,e⟩ :Sg) =x) | none=> !(nxt c.Jts m e).isSome) =c.path r:=hr.done rfl hge
   refine bcd (fun k1=>?_) (fun k1=>(g_s m e (h s).jts).use (i_x _ ⟨?_,ho.ext⟩))
   · obtain ⟨y,hy⟩:=c_8 (l:=c.Sigs) (i:=r.Exit) (by omega) e3
     rw[hy] at hF
     refine (h s).sigs.load (a_c (a_l hy).2.2) f_l (by omega) ⟨y.Sec,y.End_,rfl,?_,ho.ext⟩
     rw[←hF]
     congr 3;rw[Bool.eq_iff_iff];cases y;simp;exact ⟨fun ⟨a,b⟩=>⟨a.symm,b.symm⟩,fun ⟨a,b⟩=>⟨a.symm,b.symm⟩⟩
   · rw[b_z (by omega)] at hF
     rw[←hF]
theorem a_g1 (a:Int){pd:D}{path:List St}(hp:∀s,At prog s d_0 pd (path.map St.enc))(hpl:path.length≤2 ^ 20) :
   DCalls prog m_p [cfA c0 c1 c2 c3 c4 c,iA a, .one pd] σ (b_r σ a_4 ((c.flank a path).map Nd.enc)):=by
 refine (a_h6 _ _ _ _ _ _ _ _ _ a pd σ _ ?_).ret (Q:=fun r s=>∃r' σ',Ret prog σ s r σ' r'∧b_r σ a_4 ((c.flank a path).map Nd.enc) r' σ') (fun r s h=>h)
 refine (hp σ).lenK ⟨fun d d1 n s=>∃out:List Nd,Own prog σ s a_4 d (out.map Nd.enc)∧Own prog σ s a_i d1 ((out.map Nd.Sec).map Go.Fw.encI)∧Apart d d1∧(out.length:Int)≤4 * n∧Rng path (fun r=>c_v c a path r out=c.flank a path) n,
   fun _ _ n _=>path.length - n.toNat,⟨[], .nil _ (.refl _), .nil _ (.refl _), .nil _,by simp, .start rfl⟩,?_⟩
 rintro d d1 n s ⟨out,ho,ho1,hap,hol,hr⟩
 rw[List.length_map]
 refine bcd (fun hlt=>?_) (fun hge=>?_)
 · obtain ⟨j,x,rfl,hx,hj,hF,nx⟩:=hr.step rfl (by omega) hlt
   refine (hp s).load (a_c hx) g_f rfl ⟨x.Sec,x.In,x.Out,rfl,(i_3 (h s) _).use ⟨_,rfl,?_⟩⟩
   have hF':c_v c a path (path.drop (j+1)) (b_p c a path x (b_l (z_e c x.Sec)).toNat 0 out) =c.flank a path:=by
     rw[←hF,c_v]
     cases hg:a_k c.Secs x.Sec with
     | none=>rw[k_z hg];rfl
     | some y=>rw[h_e hg]
   generalize z_e c x.Sec=k at hF'
   have hne:=y_i k
   refine ⟨fun d d1 m s'=>∃out':List Nd,Own prog σ s' a_4 d (out'.map Nd.enc)∧Own prog σ s' a_i d1 ((out'.map Nd.Sec).map Go.Fw.encI)∧Apart d d1∧0≤m∧m≤b_l k∧(out'.length:Int)≤4 * j+m∧b_p c a path x (b_l k - m).toNat m out'=b_p c a path x (b_l k).toNat 0 out,
     fun _ _ m _=>(b_l k - m).toNat,⟨out,ho,ho1,hap,by omega,hne.1,by omega,by rw[Int.sub_zero]⟩,?_⟩
   rintro d2 d3 m s' ⟨out',ho',ho1',hap',hm0,hm1,hol',hE⟩
   refine (i_z _).use ⟨_,rfl,bcd (fun hlt'=>?_) (fun hge'=>?_)⟩
   · have hw:w64 (m+1) =m+1:=a_w (by omega) (by omega)
     have hk:(b_l k - m).toNat=(b_l k - (m+1)).toNat+1:=by omega
     rw[hk,b_p] at hE
     intro R hR
     have leaf:∀(out2:List Nd) (d4 d5:D) (s2:Store),b_t c a path x out' m=out2→Own prog σ s2 a_4 d4 (out2.map Nd.enc)→Own prog σ s2 a_i d5 ((out2.map Nd.Sec).map Go.Fw.encI)→Apart d4 d5→R d4 d5 s2:=by
       intro out2 d4 d5 s2 h1 h2 h3 h4
       have hlen:=(m_y c a path x out' m).2
       refine hR _ _ _ ⟨rfl,?_⟩
       rw[hw]
       refine ⟨⟨out2,h2,h3,h4,by omega,by omega,by rw[←h1];omega,by rw[←h1];exact hE⟩,by show (b_l k - (m+1)).toNat < (b_l k - m).toNat;omega⟩
     intro R1 hR1
     refine bce (fun h1=>⟨by trivial,leaf out' _ _ s' (by rw[b_t,if_pos (.inl h1)]) ho' ho1' hap'⟩) (fun h1=>bce (fun h2=>⟨by trivial,leaf out' _ _ s' (by rw[b_t,if_pos (.inr h2)]) ho' ho1' hap'⟩) (fun h2=>⟨by trivial,hR1 s' ?_⟩))
     have hst:b_t c a path x out' m=match nxt c.Jts x.Sec m with
       | none=>out'
       | some (q,f)=>match a_k c.Secs q with
         | none=>out'
         | some y=>if y.Kind=1∧(1≤f∧f≤2)∧q≠a∧c_e path q=false∧(out'.any fun n=>n.Sec == q) =false then out' ++ [⟨q,3 - f⟩] else out':=by
       rw[b_t,if_neg (by rintro (e | e);exact h1 e;exact h2 e)] <;> rfl
     refine (g_s x.Sec m (h s').jts).use (i_x _ ?_)
     intro R2 hR2
     cases hn:nxt c.Jts x.Sec m with
     | none=>
       rw[hn] at hst
       exact a_p (fun _=>⟨by trivial,leaf out' _ _ s' hst ho' ho1' hap'⟩) (fun e=>by cases e)
     | some p=>
       obtain ⟨q,f⟩:=p
       rw[hn] at hst hR2
       simp only[Option.getD_some] at hst hR2 ⊢
       refine a_p (fun e=>by cases e) (fun _=>(i_3 (h s') q).use ⟨_,rfl,?_⟩)
       refine bcn (fun k1=>⟨by trivial,leaf out' _ _ s' ?_ ho' ho1' hap'⟩) (fun k1=>?_)
       · cases hg:a_k c.Secs q with
         | none=>rw[hg] at hst;exact hst
         | some y=>rw[hg] at hst;rw[h_e hg] at k1;rw[hst];exact if_neg fun g=>k1 g.1
       obtain ⟨y,hg⟩ :∃y,a_k c.Secs q=some y:=by
         cases hg:a_k c.Secs q with
         | none=>rw[k_z hg] at k1;cases k1
         | some y=>exact ⟨y,rfl⟩
       rw[h_e hg] at k1
       rw[hg] at hst
       simp only at hst
       have no:¬((1≤f∧f≤2)∧q≠a∧c_e path q=false∧(out'.any fun n=>n.Sec == q) =false)→b_t c a path x out' m=out':=fun hn=>by rw[hst,if_neg fun g=>hn g.2]
       have main:(1≤f∧f≤2)→DCalls prog d_q [.one pd] s' fun r4 s4=>∃d4,r4= .a (.one d4)∧DCalls prog d_w [.one d4,iA q] s4 fun r5 s5=>∃b1,r5= .a (bA b1)∧a_b b1 (True∧R d2 d3 s5) (a_b (q == a) (True∧R d2 d3 s5) (DCalls prog d_w [.one d3,iA q] s5 fun r6 s6=>∃b2,r6= .a (bA b2)∧a_b b2 (True∧R d2 d3 s6) (True∧R2 s6))):=by
         intro hf
         refine (m_e hp (by omega)).mono ?_
         rintro r4 s4 ⟨rfl,d4,rfl,hd4⟩
         refine ⟨d4,rfl,(j_e q (hd4 _)).use ⟨_,rfl,?_⟩⟩
         rw[a_k2]
         refine bc (fun k2=>⟨by trivial,leaf out' _ _ _ (no fun g=>by rw[g.2.2.1] at k2;cases k2) ho' ho1' hap'⟩) (fun k2=>bce (fun k3=>⟨by trivial,leaf out' _ _ _ (no fun g=>g.2.1 k3) ho' ho1' hap'⟩) (fun k3=>(j_e q ho1'.at_).use ⟨_,rfl,?_⟩))
         rw[a_ym]
         refine bc (fun k4=>⟨by trivial,leaf out' _ _ _ (no fun g=>by rw[g.2.2.2] at k4;cases k4) ho' ho1' hap'⟩) (fun k4=>⟨by trivial,hR2 _ ?_⟩)
         refine a_d fun id s5 hid _ he5 hs5=>?_
         refine (ho1'.ext' he5).append2 (ho'.ext' he5) hap' (At.fresh hs5 (by simp) rfl) (by simp;omega) (by simp;omega) fun d5 s6 ho6 ho6' hap6=>?_
         refine a_d fun id7 s7 hid7 _ he7 hs7=>?_
         have hw2:w64 (3 - f) =3 - f:=a_w (by omega) (by omega)
         refine (ho6'.ext' he7).append2 (ho6.ext' he7) hap6.symm (At.fresh hs7 (by simp) rfl) (by simp;omega) (by simp;omega) fun d8 s8 ho8 ho8' hap8=>⟨by trivial,leaf (out' ++ [⟨q,3 - f⟩]) _ _ _ (by rw[hst,if_pos ⟨k1,hf,k3,k2,k4⟩]) ?_ ?_ hap8.symm⟩
         · rw[hw2] at ho8;rw[List.map_append];exact ho8
         · rw[List.map_append,List.map_append];exact ho8'
       refine bcn (fun k2=>bcn (fun k3=>⟨by trivial,leaf out' _ _ s' (no fun g=>by omega) ho' ho1' hap'⟩) (fun k3=>main (by omega))) (fun k2=>main (by omega))
   · have hz:(b_l k - m).toNat=0:=by omega
     rw[hz,b_p] at hE
     rw[←hE] at hF'
     have hn:=nx (fun r=>c_v c a path r out'=c.flank a path) hF'
     exact ⟨⟨out',ho',ho1',hap',by rw[a_m (by omega)];omega,hn.1⟩,hn.2⟩
 · have hF:=hr.done rfl hge
   rw[c_v] at hF
   rw[←hF]
   exact c_n ho (a_gg _)
theorem a_aq (r:Rt){d1 d2 d3:D}(hp:∀s,At prog s d_0 d1 (r.Path.map St.enc))(hpl:r.Path.length≤2 ^ 20) :
   DCalls prog j_k [cfA c0 c1 c2 c3 c4 c,rtA d1 d2 d3 r] σ (b_r σ a_i ((c.overlap r).map Go.Fw.encI)):=by
 refine (a_d5 _ _ _ _ _ _ _ _ _ _ _ d1 d2 d3 _ σ _ ?_).ret (Q:=fun r' s=>∃r'' σ',Ret prog σ s r' σ' r''∧b_r σ a_i ((c.overlap r).map Go.Fw.encI) r'' σ') (fun r s h=>h)
 intro R hR
 have nil:c.overlap r=[]→∃r'' σ',Ret prog σ σ (.a (.one .nils)) σ' r''∧b_r σ a_i ((c.overlap r).map Go.Fw.encI) r'' σ':=fun e=>by
   rw[e];exact c_n (.nil _ (.refl _)) (v_e _)
 refine bc (fun h1=>nil (by rw[Cf.overlap,if_pos h1])) (fun h1=>?_)
 have hov:c.overlap r=match a_k c.Sigs r.Exit with
   | none=> []
   | some x=>match nxt c.Jts x.Sec x.End_ with
     | none=> []
     | some (q,_)=>match a_k c.Secs q with
       | none=> []
       | some y=>if y.Line=0∧c_e r.Path q=false∧q≠c.approach r then [q] else []:=by
   rw[Cf.overlap,if_neg (by rw[h1];simp)] <;> rfl
 refine bcd (fun e=>nil (by rw[hov,b_z e])) (fun e0=>(h σ).sigs.lenK ?_)
 rw[List.length_map]
 refine bcd (fun e=>nil (by rw[hov,c_z e])) (fun e1=>hR σ ?_)
 obtain ⟨x,hg⟩:=c_8 e0 e1
 rw[hg] at hov
 simp only at hov
 refine (h σ).sigs.load (a_c (a_l hg).2.2) f_l (by omega) ⟨x.Sec,x.End_,rfl,(g_s _ _ (h σ).jts).use (i_x _ ?_)⟩
 intro R1 hR1
 have main:R1 (c.approach r) σ:=by
   refine hR1 _ σ ?_
   cases hn:nxt c.Jts x.Sec x.End_ with
   | none=>rw[hn] at hov;exact a_p (fun _=>nil hov) (fun e=>by cases e)
   | some p=>
     obtain ⟨q,f⟩:=p
     rw[hn] at hov
     simp only[Option.getD_some] at hov ⊢
     refine a_p (fun e=>by cases e) (fun _=>bcd (fun e=>nil (by rw[hov,b_z e])) (fun e2=>(h σ).secs.lenK ?_))
     rw[List.length_map]
     refine bcd (fun e=>nil (by rw[hov,c_z e])) (fun e3=>(m_e hp (by omega)).mono ?_)
     obtain ⟨y,hy⟩:=c_8 e2 e3
     rw[hy] at hov
     simp only at hov
     have no:¬(y.Line=0∧c_e r.Path q=false∧q≠c.approach r)→c.overlap r=[]:=fun hn=>by rw[hov,if_neg hn]
     rintro r4 s4 ⟨rfl,d4,rfl,hd4⟩
     refine ⟨d4,rfl,(j_e q (hd4 _)).use ⟨_,rfl,?_⟩⟩
     rw[a_k2]
     refine bc (fun k2=>nil (no fun g=>by rw[g.2.1] at k2;cases k2)) (fun k2=>bce (fun k3=>nil (no fun g=>g.2.2 k3)) (fun k3=>?_))
     refine (h s4).secs.load (a_c (a_l hy).2.2) b_n (by omega) ⟨y.Line,rfl,bcn (fun k4=>nil (no fun g=>k4 g.1)) (fun k4=>?_)⟩
     refine a_d fun id s5 hid _ he5 hs5=>?_
     rw[hov,if_pos ⟨k4,k2,k3⟩]
     exact c_n (.at_new hid he5 hs5 (by simp) rfl) (v_e _)
 refine bcd (fun k0=>(h σ).sigs.lenK ?_) (fun k0=>?_)
 · rw[List.length_map]
   refine bcd (fun k1=>?_) (fun k1=>?_)
   · obtain ⟨z,hz⟩:=c_8 (l:=c.Sigs) (i:=r.Entry) (by omega) (by omega)
     refine (h σ).sigs.load (a_c (a_l hz).2.2) f_l (by omega) ⟨z.Sec,rfl,?_⟩
     rw[Cf.approach,hz] at main;exact main
   · rw[Cf.approach,c_z (by omega)] at main;exact main
 · rw[Cf.approach,b_z (by omega)] at main;exact main
theorem s_p:Pure prog i_y [cfA c0 c1 c2 c3 c4 c] σ (.a (iA c.check)):=by
 refine a_hq _ _ _ _ _ _ _ _ _ σ _ ((a_gn (h σ).secs (h σ).jts).use ⟨_,rfl,?_⟩)
 have e6:(if b_q c.Secs c.Jts=true then (0:Int) else 6)≠0↔b_q c.Secs c.Jts=false:=by
   cases b_q c.Secs c.Jts <;> simp
 refine bcn (fun k1=>⟨by rw[Cf.check,if_pos (e6.1 k1)],rfl⟩) (fun k1=>(a_bw (h σ)).use ⟨_,rfl,a_p (fun k2=>⟨?_,rfl⟩) (fun k2=>?_)⟩)
 all_goals have k1':¬b_q c.Secs c.Jts=false:=fun e=>e6.2 e k1
 · rw[Cf.check,if_neg k1',if_pos k2]
 have ht:b_q c.Secs c.Jts=true:=by simpa using k1'
 refine (x_i (h σ) ht).use ⟨_,rfl,a_p (fun k3=>⟨?_,rfl⟩) (fun k3=>?_)⟩
 · rw[Cf.check,if_neg k1',if_neg (by rw[k2];simp),if_pos k3]
 have hck:c.check=if c.Rts.length > 12 then 9 else if c.routes c.Rts≠0 then c.routes c.Rts else if c.timing=true then 0 else 12:=by
   rw[Cf.check,if_neg k1',if_neg (by rw[k2];simp),if_neg (by rw[k3];simp)]
 obtain ⟨rows,hat,hlen,hrow⟩:=g_m fun s=>(h s).rts
 have hl:=(hat σ).size
 refine (hat σ).lenK (bcd (fun k4=>⟨by rw[hck,if_pos (by omega)],rfl⟩) (fun k4=>(hat σ).lenK ?_))
 rw[if_neg (by omega)] at hck
 refine ⟨fun n s=>s=σ∧Rng c.Rts (fun l=>c.routes l=c.routes c.Rts) n,fun n _=>c.Rts.length - n.toNat,⟨rfl, .start rfl⟩,?_⟩
 rintro n τ ⟨rfl,hr⟩
 refine bcd (fun hlt=>?_) (fun hge=>?_)
 · obtain ⟨j,x,rfl,hx,hj,hF,nx⟩:=hr.step hlen (by omega) hlt
   obtain ⟨row,hrw⟩:=a_g (l:=rows) (j:=j) (by omega)
   obtain ⟨d1,d2,d3,rfl,q1,q2,q3⟩:=hrow j row x hrw hx
   rw[Cf.routes] at hF
   have err:∀e,e≠0→c.route x=e→(RV.a (iA e) = .a (iA c.check)∧τ=τ):=fun e he hc=>by
     rw[hc,if_pos he] at hF
     rw[hck,←hF,if_pos he];exact ⟨rfl,rfl⟩
   refine (hat τ).load hrw c_p rfl ⟨_,_,d1,d2,d3,_,rfl,(a_ii h ht k2 x q1).use ⟨_,rfl,a_p (fun k5=>err 9 (by decide) (by rw[Cf.route,if_pos k5])) (fun k5=>?_)⟩⟩
   have hpl:x.Path.length≤8:=by
     unfold Cf.path at k5
     split at k5
     · cases k5
     · simp at k5;exact k5.1.2.2
   refine (x_t (h τ) j).use ⟨_,rfl,?_⟩
   rw[show c.Approach j=c.approach x by rw[Cf.Approach,show a_k c.Rts j=some x by unfold a_k;rw[if_neg (by omega),Int.toNat_natCast];exact hx];rfl]
   refine (a_g1 h _ q1 (by omega)).mono ?_
   rintro r1 s1 ⟨rfl,d,rfl,hd⟩
   refine ⟨d,rfl,(v_j (q2 _) (hd _)).use ⟨_,rfl,a_p (fun k6=>err 10 (by decide) ?_) (fun k6=>(a_aq h x q1 (by omega)).mono ?_)⟩⟩
   · rw[Cf.route,if_neg (by rw[k5];simp),if_pos (of_decide_eq_false k6)]
   rintro r2 s2 ⟨rfl,d',rfl,hd'⟩
   have e2:=of_decide_eq_true k6
   refine ⟨d',rfl,(z_x (q3 _) (hd' _)).use ⟨_,rfl,a_p (fun k7=>err 11 (by decide) ?_) (fun k7=>?_)⟩⟩
   · rw[Cf.route,if_neg (by rw[k5];simp),if_neg (fun hn=>hn e2),if_pos (of_decide_eq_false k7)]
   · have h0:c.route x=0:=by rw[Cf.route,if_neg (by rw[k5];simp),if_neg (fun hn=>hn e2),if_neg (fun hn=>hn (of_decide_eq_true k7))]
     rw[if_neg (by simp[h0])] at hF
     exact c_6 rfl (nx _ hF)
 · have hF:0=c.routes c.Rts:=hr.done hlen hge
   rw[←hF,if_neg (by simp)] at hck
   have bad:¬(((1≤c.Age∧c.Age≤8)∧(0≤c.Brake∧c.Brake≤8))∧(c.Age+c.Brake+1≤c.Hold∧c.Hold≤40)∧(1≤c.Budget∧c.Budget≤1000000))→(RV.a (iA 12) = .a (iA c.check)∧τ=τ):=fun hn=>by
     rw[hck,if_neg (fun e=>hn (by simpa[Cf.timing,and_assoc] using e))];exact ⟨rfl,rfl⟩
   refine bcd (fun e=>bad fun g=>by omega) (fun t1=>bcd (fun e=>bad fun g=>by omega) (fun t2=>bcd (fun e=>bad fun g=>by omega) (fun t3=>bcd (fun e=>bad fun g=>by omega) (fun t4=>?_))))
   rw[a_w (n:=c.Age+c.Brake) (by omega) (by omega),a_w (n:=c.Age+c.Brake+1) (by omega) (by omega)]
   refine bcd (fun e=>bad fun g=>by omega) (fun t5=>bcd (fun e=>bad fun g=>by omega) (fun t6=>bcd (fun e=>bad fun g=>by omega) (fun t7=>bcd (fun e=>bad fun g=>by omega) (fun t8=>⟨?_,rfl⟩))))
   rw[hck,if_pos]
   simp only[Cf.timing,Bool.and_eq_true,decide_eq_true_eq]
   omega
end
end
end Go.Proofs.YtdmfnhbmhkgemaaGreat
namespace Go.Proofs.YtdmfnhbmhkgemaaGreat
open Go.Fw Go.Proofs Go.RowKit
section
variable {σ:Store}
section
variable {σ0:Store} {d0 d1 d2 d3 d4 d5:D} {k:Co}
theorem k_k {s s':Store}{i:Nat}(he:Ext σ0 s)(hf:σ0 i= .free)(hs:∀j,j≠i→s' j=s j) :Ext σ0 s':=fun j hj=>by
 rw[hs j (fun e=>hj (by rw[e];exact hf))];exact he j hj
end
end
end Go.Proofs.YtdmfnhbmhkgemaaGreat
namespace Go.Proofs.YtdmfnhbmhkgemaaGreat
open Go.Fw Go.Proofs Go.RowKit
open Go.Proofs.Tryz (prog)
section
variable {σ σ0:Store} {d0 d1 d2 d3 d4 d5:D} {k:Co}
theorem a_nl {t:TypeId}{bytes:Nat}{d:D}{rows:List (List D)}{K:D→Store→Prop}(h:At prog σ t d rows)(hb:bytes * rows.length≤140737488355328)
   (hK:∀d' s,Own prog σ s t d' rows→K d' s) :Fw.newObj σ (.live t []) fun id σ'=>a_v prog σ' t bytes (.osl id 0 0) d K:=by
 refine a_d fun id s hid _ he hs=>?_
 have ho:Own prog σ s t (.osl id 0 0) []:= .at_new hid he hs (by simp) rfl
 exact ho.append (h.ext he) (by simpa using hb) (by have:=h.size;simpa using this) fun d' s' ho' _ _=>hK _ _ (by simpa using ho')
structure CoIn (σ0 σ:Store) (id:Nat) (t:TypeId) (pre post:List D) (d0 d1 d2 d3 d4 d5:D) (k:Co) :Prop where
 new:σ0 id= .free
 row:σ id= .live t [pre ++ ([d0,d1,d2,d3,d4,d5, .bool k.Dirty] ++ post)]
 co:CoOwn σ0 σ d0 d1 d2 d3 d4 d5 k
 ids:∀d ∈ [d0,d1,d2,d3,d4,d5],a_5 d≠some id
theorem CoIn.ext {id t pre post}(h:CoIn σ0 σ id t pre post d0 d1 d2 d3 d4 d5 k) :Ext σ0 σ:=h.co.own.ext
theorem CoIn.at {id t pre post}(h:CoIn σ0 σ id t pre post d0 d1 d2 d3 d4 d5 k) :CoAt σ d0 d1 d2 d3 d4 d5 k:=h.co.at
theorem CoIn.dirty {id t pre post}(h:CoIn σ0 σ id t pre post d0 d1 d2 d3 d4 d5 k){b:Bool}{off:Nat}(ho:off=pre.length+6){K:Store→Prop}
   (hK:∀s',CoIn σ0 s' id t pre post d0 d1 d2 d3 d4 d5 { k with Dirty:=b }→(∀i,i≠id→s' i=σ i)→K s') :a_j [.bool b] σ (.osl id 0 1) 0 off K:=by
 refine b_i h.row (by subst ho;simp;omega) fun s' hs hs'=>hK s' ?_ hs'
 have al:∀{d:D} {el:TypeId} {rs:List (List D)},d ∈ [d0,d1,d2,d3,d4,d5]→Own prog σ0 σ el d rs→Own prog σ0 s' el d rs:=fun hd g=>a_h g h.new (h.ids _ hd) hs'
 refine ⟨h.new,?_,⟨al (by simp) h.co.own,al (by simp) h.co.routes,al (by simp) h.co.points,al (by simp) h.co.xs,al (by simp) h.co.lines,al (by simp) h.co.resets,h.co.apart⟩,h.ids⟩
 rw[hs]
 have e:patch (pre ++ ([d0,d1,d2,d3,d4,d5, .bool k.Dirty] ++ post)) off [.bool b]=pre ++ ([d0,d1,d2,d3,d4,d5, .bool b] ++ post):=by
   subst ho
   unfold patch
   rw[List.take_length_add_append,List.length_singleton,Nat.add_assoc,List.drop_length_add_append]
   rw[List.append_assoc,List.append_assoc];rfl
 rw[e]
theorem CoOwn.putO (h:CoOwn σ0 σ d0 d1 d2 d3 d4 d5 k){j n off:Nat}{x y:Int}{ys:List D}(hj:k.Own[j]? =some x)(hn:n=j)(ho:off+ys.length≤1)(hp:patch (Go.Fw.encI x) off ys=Go.Fw.encI y){K:Store→Prop}
   (hK:∀s',CoOwn σ0 s' d0 d1 d2 d3 d4 d5 { k with Own:=k.Own.set j y }→(∀i,a_5 d0≠some i→s' i=σ i)→K s') :a_j ys σ d0 n off K:=by
 refine h.own.at_.store h.own.nsl (a_c hj) hn ho fun s' i hi hat hs hne=>hK s' ?_ fun i' hi'=>hs i' fun e=>hi' (by rw[e];exact hi)
 have hf:=n_e h.own hi
 have ap:∀{m:Nat} {d:D},[d0,d1,d2,d3,d4,d5][m]? =some d→m≠0→a_5 d≠some i:=fun hm hne0=>pw h.apart (i:=0) rfl hm (Ne.symm hne0) i hi
 refine ⟨⟨?_,k_k h.own.ext hf hs,h.own.new,h.own.nsl,h.own.nz⟩,a_h h.routes hf (ap (m:=1) rfl (by omega)) hs,a_h h.points hf (ap (m:=2) rfl (by omega)) hs,a_h h.xs hf (ap (m:=3) rfl (by omega)) hs,a_h h.lines hf (ap (m:=4) rfl (by omega)) hs,a_h h.resets hf (ap (m:=5) rfl (by omega)) hs,h.apart⟩
 rw[hp,map_set (Go.Fw.encI) k.Own j y] at hat;exact hat
theorem CoIn.putO {id t pre post}(h:CoIn σ0 σ id t pre post d0 d1 d2 d3 d4 d5 k){j n off:Nat}{x y:Int}{ys:List D}(hj:k.Own[j]? =some x)(hn:n=j)(ho:off+ys.length≤1)(hp:patch (Go.Fw.encI x) off ys=Go.Fw.encI y){K:Store→Prop}
   (hK:∀s',CoIn σ0 s' id t pre post d0 d1 d2 d3 d4 d5 { k with Own:=k.Own.set j y }→(∀i,a_5 d0≠some i→s' i=σ i)→K s') :a_j ys σ d0 n off K:=
 h.co.putO hj hn ho hp fun s' h' hs=>hK s' ⟨h.new,(hs id (h.ids _ (by simp))).trans h.row,h',h.ids⟩ hs
theorem CoOwn.putR (h:CoOwn σ0 σ d0 d1 d2 d3 d4 d5 k){j n off:Nat}{x y:Rs}{ys:List D}(hj:k.Routes[j]? =some x)(hn:n=j)(ho:off+ys.length≤4)(hp:patch (Rs.enc x) off ys=Rs.enc y){K:Store→Prop}
   (hK:∀s',CoOwn σ0 s' d0 d1 d2 d3 d4 d5 { k with Routes:=k.Routes.set j y }→(∀i,a_5 d1≠some i→s' i=σ i)→K s') :a_j ys σ d1 n off K:=by
 refine h.routes.at_.store h.routes.nsl (a_c hj) hn ho fun s' i hi hat hs hne=>hK s' ?_ fun i' hi'=>hs i' fun e=>hi' (by rw[e];exact hi)
 have hf:=n_e h.routes hi
 have ap:∀{m:Nat} {d:D},[d0,d1,d2,d3,d4,d5][m]? =some d→m≠1→a_5 d≠some i:=fun hm hne0=>pw h.apart (i:=1) rfl hm (Ne.symm hne0) i hi
 refine ⟨a_h h.own hf (ap (m:=0) rfl (by omega)) hs,⟨?_,k_k h.routes.ext hf hs,h.routes.new,h.routes.nsl,h.routes.nz⟩,a_h h.points hf (ap (m:=2) rfl (by omega)) hs,a_h h.xs hf (ap (m:=3) rfl (by omega)) hs,a_h h.lines hf (ap (m:=4) rfl (by omega)) hs,a_h h.resets hf (ap (m:=5) rfl (by omega)) hs,h.apart⟩
 rw[hp,map_set (Rs.enc) k.Routes j y] at hat;exact hat
theorem CoIn.putR {id t pre post}(h:CoIn σ0 σ id t pre post d0 d1 d2 d3 d4 d5 k){j n off:Nat}{x y:Rs}{ys:List D}(hj:k.Routes[j]? =some x)(hn:n=j)(ho:off+ys.length≤4)(hp:patch (Rs.enc x) off ys=Rs.enc y){K:Store→Prop}
   (hK:∀s',CoIn σ0 s' id t pre post d0 d1 d2 d3 d4 d5 { k with Routes:=k.Routes.set j y }→(∀i,a_5 d1≠some i→s' i=σ i)→K s') :a_j ys σ d1 n off K:=
 h.co.putR hj hn ho hp fun s' h' hs=>hK s' ⟨h.new,(hs id (h.ids _ (by simp))).trans h.row,h',h.ids⟩ hs
theorem CoOwn.putP (h:CoOwn σ0 σ d0 d1 d2 d3 d4 d5 k){j n off:Nat}{x y:Mv}{ys:List D}(hj:k.Points[j]? =some x)(hn:n=j)(ho:off+ys.length≤2)(hp:patch (Mv.enc x) off ys=Mv.enc y){K:Store→Prop}
   (hK:∀s',CoOwn σ0 s' d0 d1 d2 d3 d4 d5 { k with Points:=k.Points.set j y }→(∀i,a_5 d2≠some i→s' i=σ i)→K s') :a_j ys σ d2 n off K:=by
 refine h.points.at_.store h.points.nsl (a_c hj) hn ho fun s' i hi hat hs hne=>hK s' ?_ fun i' hi'=>hs i' fun e=>hi' (by rw[e];exact hi)
 have hf:=n_e h.points hi
 have ap:∀{m:Nat} {d:D},[d0,d1,d2,d3,d4,d5][m]? =some d→m≠2→a_5 d≠some i:=fun hm hne0=>pw h.apart (i:=2) rfl hm (Ne.symm hne0) i hi
 refine ⟨a_h h.own hf (ap (m:=0) rfl (by omega)) hs,a_h h.routes hf (ap (m:=1) rfl (by omega)) hs,⟨?_,k_k h.points.ext hf hs,h.points.new,h.points.nsl,h.points.nz⟩,a_h h.xs hf (ap (m:=3) rfl (by omega)) hs,a_h h.lines hf (ap (m:=4) rfl (by omega)) hs,a_h h.resets hf (ap (m:=5) rfl (by omega)) hs,h.apart⟩
 rw[hp,map_set (Mv.enc) k.Points j y] at hat;exact hat
theorem CoIn.putP {id t pre post}(h:CoIn σ0 σ id t pre post d0 d1 d2 d3 d4 d5 k){j n off:Nat}{x y:Mv}{ys:List D}(hj:k.Points[j]? =some x)(hn:n=j)(ho:off+ys.length≤2)(hp:patch (Mv.enc x) off ys=Mv.enc y){K:Store→Prop}
   (hK:∀s',CoIn σ0 s' id t pre post d0 d1 d2 d3 d4 d5 { k with Points:=k.Points.set j y }→(∀i,a_5 d2≠some i→s' i=σ i)→K s') :a_j ys σ d2 n off K:=
 h.co.putP hj hn ho hp fun s' h' hs=>hK s' ⟨h.new,(hs id (h.ids _ (by simp))).trans h.row,h',h.ids⟩ hs
theorem CoOwn.putX (h:CoOwn σ0 σ d0 d1 d2 d3 d4 d5 k){j n off:Nat}{x y:Mv}{ys:List D}(hj:k.Xs[j]? =some x)(hn:n=j)(ho:off+ys.length≤2)(hp:patch (Mv.enc x) off ys=Mv.enc y){K:Store→Prop}
   (hK:∀s',CoOwn σ0 s' d0 d1 d2 d3 d4 d5 { k with Xs:=k.Xs.set j y }→(∀i,a_5 d3≠some i→s' i=σ i)→K s') :a_j ys σ d3 n off K:=by
 refine h.xs.at_.store h.xs.nsl (a_c hj) hn ho fun s' i hi hat hs hne=>hK s' ?_ fun i' hi'=>hs i' fun e=>hi' (by rw[e];exact hi)
 have hf:=n_e h.xs hi
 have ap:∀{m:Nat} {d:D},[d0,d1,d2,d3,d4,d5][m]? =some d→m≠3→a_5 d≠some i:=fun hm hne0=>pw h.apart (i:=3) rfl hm (Ne.symm hne0) i hi
 refine ⟨a_h h.own hf (ap (m:=0) rfl (by omega)) hs,a_h h.routes hf (ap (m:=1) rfl (by omega)) hs,a_h h.points hf (ap (m:=2) rfl (by omega)) hs,⟨?_,k_k h.xs.ext hf hs,h.xs.new,h.xs.nsl,h.xs.nz⟩,a_h h.lines hf (ap (m:=4) rfl (by omega)) hs,a_h h.resets hf (ap (m:=5) rfl (by omega)) hs,h.apart⟩
 rw[hp,map_set (Mv.enc) k.Xs j y] at hat;exact hat
theorem CoIn.putX {id t pre post}(h:CoIn σ0 σ id t pre post d0 d1 d2 d3 d4 d5 k){j n off:Nat}{x y:Mv}{ys:List D}(hj:k.Xs[j]? =some x)(hn:n=j)(ho:off+ys.length≤2)(hp:patch (Mv.enc x) off ys=Mv.enc y){K:Store→Prop}
   (hK:∀s',CoIn σ0 s' id t pre post d0 d1 d2 d3 d4 d5 { k with Xs:=k.Xs.set j y }→(∀i,a_5 d3≠some i→s' i=σ i)→K s') :a_j ys σ d3 n off K:=
 h.co.putX hj hn ho hp fun s' h' hs=>hK s' ⟨h.new,(hs id (h.ids _ (by simp))).trans h.row,h',h.ids⟩ hs
theorem CoOwn.putL (h:CoOwn σ0 σ d0 d1 d2 d3 d4 d5 k){j n off:Nat}{x y:Ls}{ys:List D}(hj:k.Lines[j]? =some x)(hn:n=j)(ho:off+ys.length≤8)(hp:patch (Ls.enc x) off ys=Ls.enc y){K:Store→Prop}
   (hK:∀s',CoOwn σ0 s' d0 d1 d2 d3 d4 d5 { k with Lines:=k.Lines.set j y }→(∀i,a_5 d4≠some i→s' i=σ i)→K s') :a_j ys σ d4 n off K:=by
 refine h.lines.at_.store h.lines.nsl (a_c hj) hn ho fun s' i hi hat hs hne=>hK s' ?_ fun i' hi'=>hs i' fun e=>hi' (by rw[e];exact hi)
 have hf:=n_e h.lines hi
 have ap:∀{m:Nat} {d:D},[d0,d1,d2,d3,d4,d5][m]? =some d→m≠4→a_5 d≠some i:=fun hm hne0=>pw h.apart (i:=4) rfl hm (Ne.symm hne0) i hi
 refine ⟨a_h h.own hf (ap (m:=0) rfl (by omega)) hs,a_h h.routes hf (ap (m:=1) rfl (by omega)) hs,a_h h.points hf (ap (m:=2) rfl (by omega)) hs,a_h h.xs hf (ap (m:=3) rfl (by omega)) hs,⟨?_,k_k h.lines.ext hf hs,h.lines.new,h.lines.nsl,h.lines.nz⟩,a_h h.resets hf (ap (m:=5) rfl (by omega)) hs,h.apart⟩
 rw[hp,map_set (Ls.enc) k.Lines j y] at hat;exact hat
theorem CoIn.putL {id t pre post}(h:CoIn σ0 σ id t pre post d0 d1 d2 d3 d4 d5 k){j n off:Nat}{x y:Ls}{ys:List D}(hj:k.Lines[j]? =some x)(hn:n=j)(ho:off+ys.length≤8)(hp:patch (Ls.enc x) off ys=Ls.enc y){K:Store→Prop}
   (hK:∀s',CoIn σ0 s' id t pre post d0 d1 d2 d3 d4 d5 { k with Lines:=k.Lines.set j y }→(∀i,a_5 d4≠some i→s' i=σ i)→K s') :a_j ys σ d4 n off K:=
 h.co.putL hj hn ho hp fun s' h' hs=>hK s' ⟨h.new,(hs id (h.ids _ (by simp))).trans h.row,h',h.ids⟩ hs
theorem CoOwn.putZ (h:CoOwn σ0 σ d0 d1 d2 d3 d4 d5 k){j n off:Nat}{x y:Int}{ys:List D}(hj:k.Resets[j]? =some x)(hn:n=j)(ho:off+ys.length≤1)(hp:patch (Go.Fw.encI x) off ys=Go.Fw.encI y){K:Store→Prop}
   (hK:∀s',CoOwn σ0 s' d0 d1 d2 d3 d4 d5 { k with Resets:=k.Resets.set j y }→(∀i,a_5 d5≠some i→s' i=σ i)→K s') :a_j ys σ d5 n off K:=by
 refine h.resets.at_.store h.resets.nsl (a_c hj) hn ho fun s' i hi hat hs hne=>hK s' ?_ fun i' hi'=>hs i' fun e=>hi' (by rw[e];exact hi)
 have hf:=n_e h.resets hi
 have ap:∀{m:Nat} {d:D},[d0,d1,d2,d3,d4,d5][m]? =some d→m≠5→a_5 d≠some i:=fun hm hne0=>pw h.apart (i:=5) rfl hm (Ne.symm hne0) i hi
 refine ⟨a_h h.own hf (ap (m:=0) rfl (by omega)) hs,a_h h.routes hf (ap (m:=1) rfl (by omega)) hs,a_h h.points hf (ap (m:=2) rfl (by omega)) hs,a_h h.xs hf (ap (m:=3) rfl (by omega)) hs,a_h h.lines hf (ap (m:=4) rfl (by omega)) hs,⟨?_,k_k h.resets.ext hf hs,h.resets.new,h.resets.nsl,h.resets.nz⟩,h.apart⟩
 rw[hp,map_set (Go.Fw.encI) k.Resets j y] at hat;exact hat
theorem CoIn.putZ {id t pre post}(h:CoIn σ0 σ id t pre post d0 d1 d2 d3 d4 d5 k){j n off:Nat}{x y:Int}{ys:List D}(hj:k.Resets[j]? =some x)(hn:n=j)(ho:off+ys.length≤1)(hp:patch (Go.Fw.encI x) off ys=Go.Fw.encI y){K:Store→Prop}
   (hK:∀s',CoIn σ0 s' id t pre post d0 d1 d2 d3 d4 d5 { k with Resets:=k.Resets.set j y }→(∀i,a_5 d5≠some i→s' i=σ i)→K s') :a_j ys σ d5 n off K:=
 h.co.putZ hj hn ho hp fun s' h' hs=>hK s' ⟨h.new,(hs id (h.ids _ (by simp))).trans h.row,h',h.ids⟩ hs
end
end Go.Proofs.YtdmfnhbmhkgemaaGreat
namespace Go.Fw
section
section
variable {occ:List Lk} {now:Int} {was may:Bool} {x:Ls} {o:Int} {s:Nat} {lk:Lk}
end
structure SameBut (k k':Co) (l s:Nat) :Prop where
 routes:k'.Routes=k.Routes
 lines:∀m,m≠l→k'.Lines[m]? =k.Lines[m]?
 own:∀t,t≠s→k'.Own[t]? =k.Own[t]?
theorem a_st {α:Type}(p:α→Bool) :∀(l:List α) (j:Nat),d_z p l j≠-1→∃(i:Nat) (x:α),d_z p l j=((j+i:Nat) :Int)∧l[i]? =some x∧p x=true
 | [],j,h=>absurd rfl h
 | x::r,j,h=>by
   rw[d_z] at h ⊢
   by_cases hp:p x=true
   · rw[if_pos hp];exact ⟨0,x,rfl,rfl,hp⟩
   · rw[if_neg hp] at h ⊢
     obtain ⟨i,y,h0,h1,h2⟩:=a_st p r (j+1) h
     exact ⟨i+1,y,by rw[h0];omega,by simpa using h1,h2⟩
theorem i_f {c:Cf}{line:Int}{s:Nat}(h:c.lineSec line=s) :∃x,c.Secs[s]? =some x∧x.Line=line:=by
 unfold Cf.lineSec at h
 split at h
 · omega
 · obtain ⟨i,x,h0,h1,h2⟩:=a_st (fun s:Sec=>s.Line == line) c.Secs 0 (by omega)
   have:s=i:=by omega
   subst this
   exact ⟨x,h1,by simpa using h2⟩
theorem a_nx {c:Cf}{l m:Int}{s:Nat}(h1:c.lineSec l=s)(h2:c.lineSec m=s) :l=m:=by
 obtain ⟨x,hx,e1⟩:=i_f h1
 obtain ⟨y,hy,e2⟩:=i_f h2
 rw[hx] at hy;cases hy;rw[←e1,e2]
end
section
def u_z (c:Cf)(l:List Int) :List Rs→Nat→Bool
 | [],_=>false
 | r::rs,j=>(decide (r.State≠0) && inL l (c.Approach j)) || u_z c l rs (j+1)
end
end Go.Fw
namespace Go.Proofs.YtdmfnhbmhkgemaaGreat
open Go.Fw Go.Proofs Go.RowKit
open Go.Proofs.Tryz (prog)
section
variable {σ:Store}
theorem c_f (n:Int) :Pure prog b_x [iA n] σ (.a (bA (tm 0 n))):=
 a_mz n σ _ (bcd (fun h=>⟨by rw[tm];congr 3;exact decide_eq_decide.2 (by omega),rfl⟩) (fun h=>⟨by rw[tm,decide_eq_false (by omega)],rfl⟩))
theorem a_iu {c0 c1 c2 c3 c4:D}{c:Cf}(h:∀s,CfAt s c0 c1 c2 c3 c4 c){k0 k1 k2 k3 k4 k5:D}{k:Co}(hk:CoAt σ k0 k1 k2 k3 k4 k5 k)(b:Bool) :
   Pure prog o_i [cfA c0 c1 c2 c3 c4 c,coA k0 k1 k2 k3 k4 k5 b] σ (.a (bA (k.fits c))):=by
 have l0:=hk.own.size
 have l1:=hk.routes.size
 have l2:=hk.points.size
 have l3:=hk.xs.size
 have l4:=hk.lines.size
 have l5:=hk.resets.size
 simp only[List.length_map] at l0 l1 l2 l3 l4 l5
 refine .of (a_nh _ _ _ _ _ _ _ _ _ k0 k1 k2 k3 k4 k5 b σ _ ((h σ).secs.lenK ?_)) (l_e _)
 intro R hR
 refine (s_p h).use ⟨_,rfl,?_⟩
 obtain ⟨rows,hat,hlen,hrow⟩:=g_m fun s=>(h s).rts
 have hl:=(hat σ).size
 have bad:k.lens c=false→∀s,Ext σ s→(RV.a (.one (.bool false)) = .a (bA (k.fits c))∧Ext σ s):=fun hb s he=>⟨by simp[Co.fits,hb],he⟩
 have nl:¬(k.Own.length=c.Secs.length∧k.Points.length=c.Secs.length∧k.Resets.length=c.Secs.length∧k.Routes.length=c.Rts.length∧k.Xs.length=c.Xs.length∧k.Lines.length=4)→k.lens c=false:=fun hn=>by
   rw[Co.lens,decide_eq_false hn]
 refine bcn (fun hc=>⟨by simp[Co.fits,hc], .refl _⟩) (fun hc=>?_)
 simp only[List.length_map]
 refine hk.own.lenK (bcn (fun e=>bad (nl fun g=>by simp only[List.length_map] at e;omega) _ (.refl _)) (fun e0=>?_))
 refine hk.points.lenK (bcn (fun e=>bad (nl fun g=>by simp only[List.length_map] at e;omega) _ (.refl _)) (fun e1=>?_))
 refine hk.resets.lenK (bcn (fun e=>bad (nl fun g=>by simp only[List.length_map] at e;omega) _ (.refl _)) (fun e2=>?_))
 refine hk.routes.lenK ((hat σ).lenK (bcn (fun e=>bad (nl fun g=>by simp only[List.length_map] at e;omega) _ (.refl _)) (fun e3=>?_)))
 refine hk.xs.lenK ((h σ).xs.lenK (bcn (fun e=>bad (nl fun g=>by simp only[List.length_map] at e;omega) _ (.refl _)) (fun e4=>?_)))
 refine hk.lines.lenK (bcn (fun e=>bad (nl fun g=>by simp only[List.length_map] at e;omega) _ (.refl _)) (fun e5=>hR σ ?_))
 simp only[List.length_map] at e0 e1 e2 e3 e4 e5
 have hL:k.lens c=true:=decide_eq_true ⟨by omega,by omega,by omega,by omega,by omega,by omega⟩
 have hfit:k.fits c=k.parts c:=by simp[Co.fits,hc,hL]
 rw[hfit]
 obtain ⟨_,s1,s2,s3,_,_⟩:=a_y hc
 clear bad nl hfit hL hR
 unfold Co.parts
 refine hk.own.lenK ⟨fun n s=>s=σ∧Rng k.Own (fun r=>(r.all fun o=>decide (-2≤o∧o≤(c.Rts.length:Int))) =k.Own.all fun o=>decide (-2≤o∧o≤(c.Rts.length:Int))) n,fun n _=>k.Own.length - n.toNat,⟨rfl, .start rfl⟩,?_⟩
 rintro n τ ⟨rfl,hr⟩
 refine bcd (fun hlt=>?_) (fun hge=>?_)
 · obtain ⟨j,x,rfl,hx,hj,hF,nx⟩:=hr.step (by simp) l0 hlt
   rw[List.all_cons] at hF
   have no:¬(-2≤x∧x≤(c.Rts.length:Int))→(RV.a (.one (.bool false)) = .a (bA ((k.Own.all fun o=>decide (-2≤o∧o≤(c.Rts.length:Int))) && ((k.Routes.zip c.Rts).all Rs.fits && ((k.Points ++ k.Xs).all Mv.fits && (k.Lines.all Ls.fits && k.Resets.all (tm 1))))))∧Ext τ τ):=fun hn=>by
     rw[decide_eq_false hn] at hF
     exact ⟨by rw[←hF];rfl, .refl _⟩
   refine hk.own.load (a_c hx) c_int rfl ⟨x,rfl,bcd (fun e=>no (by omega)) (fun g1=>(hat τ).lenK (bcd (fun e=>no (by omega)) (fun g2=>?_)))⟩
   rw[decide_eq_true ⟨by omega,by omega⟩,Bool.true_and] at hF
   exact c_6 rfl (nx _ hF)
 have hF0:=hr.done (by simp) hge
 rw[←hF0]
 show (∃len2:Nat,_)
 simp only[List.all_nil,Bool.true_and]
 clear hF0 hr hge
 have lz:(k.Routes.zip c.Rts).length=k.Routes.length:=by rw[List.length_zip];omega
 refine hk.routes.lenK ⟨fun n s=>s=τ∧Rng (k.Routes.zip c.Rts) (fun r=>r.all Rs.fits=(k.Routes.zip c.Rts).all Rs.fits) n,fun n _=>(k.Routes.zip c.Rts).length - n.toNat,⟨rfl, .start rfl⟩,?_⟩
 rintro n s ⟨rfl,hr⟩
 refine bcd (fun hlt=>?_) (fun hge=>?_)
 · obtain ⟨j,x,rfl,hx,hj,hF,nx⟩:=hr.step (by rw[List.length_map,lz]) (by omega) hlt
   obtain ⟨g1,g2⟩:=List.getElem?_zip_eq_some.1 hx
   rw[List.all_cons] at hF
   have bad:Rs.fits x=false→(RV.a (.one (.bool false)) = .a (bA ((k.Routes.zip c.Rts).all Rs.fits && ((k.Points ++ k.Xs).all Mv.fits && (k.Lines.all Ls.fits && k.Resets.all (tm 1)))))∧Ext s s):=fun hb=>by
     rw[hb,Bool.false_and] at hF
     exact ⟨by rw[←hF];rfl, .refl _⟩
   have hfx:Rs.fits x=(decide (0≤x.1.State∧x.1.State≤5) && decide (0≤x.1.Next∧x.1.Next≤x.2.Path.length) && (tm 0 x.1.Since && tm 0 x.1.Mark)):=rfl
   refine hk.routes.load (a_c g1) a_x rfl ⟨x.1.State,x.1.Since,x.1.Next,x.1.Mark,rfl,bcd (fun e=>bad (by rw[hfx,decide_eq_false (p:=0≤x.1.State∧_) (by omega)];rfl)) (fun t1=>bcd (fun e=>bad (by rw[hfx,decide_eq_false (p:=0≤x.1.State∧_) (by omega)];rfl)) (fun t2=>bcd (fun e=>bad (by rw[hfx,decide_eq_false (p:=0≤x.1.Next∧_) (by omega)];simp)) (fun t3=>?_)))⟩
   obtain ⟨row,hrw⟩:=a_g (l:=rows) (j:=j) (by rw[lz] at hj;omega)
   obtain ⟨d1,d2,d3,rfl,q1,q2,q3⟩:=hrow j row x.2 hrw g2
   refine (hat s).load hrw c_p rfl ⟨d1,rfl,(q1 s).lenK ?_⟩
   rw[List.length_map]
   refine bcd (fun e=>bad (by rw[hfx,decide_eq_false (p:=0≤x.1.Next∧_) (by omega)];simp)) (fun t4=>(c_f _).use ⟨_,rfl,a_p (fun e=>bad (by rw[hfx,e];simp)) (fun t5=>(c_f _).use ⟨_,rfl,a_p (fun e=>bad (by rw[hfx,e];simp)) (fun t6=>?_)⟩)⟩)
   rw[hfx,decide_eq_true ⟨by omega,by omega⟩,decide_eq_true ⟨by omega,by omega⟩,t5,t6] at hF
   exact c_6 rfl (nx (fun r=>r.all Rs.fits=(k.Routes.zip c.Rts).all Rs.fits) hF)
 have hF0:=hr.done (by rw[List.length_map,lz]) hge
 rw[←hF0]
 simp only[List.all_nil,Bool.true_and]
 clear hF0 hr hge
 refine a_nl hk.points (by rw[List.length_map];omega) fun d sa oa=>(oa.append (hk.xs.ext oa.ext) (by simp only[List.length_map];omega) (by simp only[List.length_map];omega) fun d1 s3 ho _ _=>?_)
 rw[←List.map_append] at ho
 have he3:=ho.ext
 have lm:(k.Points ++ k.Xs).length < 2 ^ 60:=by rw[List.length_append];omega
 refine ho.at_.lenK ⟨fun n s'=>s'=s3∧Rng (k.Points ++ k.Xs) (fun r=>r.all Mv.fits=(k.Points ++ k.Xs).all Mv.fits) n,fun n _=>(k.Points ++ k.Xs).length - n.toNat,⟨rfl, .start rfl⟩,?_⟩
 rintro n s4 ⟨rfl,hr⟩
 refine bcd (fun hlt=>?_) (fun hge=>?_)
 · obtain ⟨j,x,rfl,hx,hj,hF,nx⟩:=hr.step (by simp) lm hlt
   rw[List.all_cons] at hF
   have no:x.fits=false→(RV.a (.one (.bool false)) = .a (bA ((k.Points ++ k.Xs).all Mv.fits && (k.Lines.all Ls.fits && k.Resets.all (tm 1))))∧Ext s s4):=fun hn=>by
     rw[hn] at hF
     exact ⟨by rw[←hF];rfl,he3⟩
   have go:x.fits=true→_:=fun hn=>by
     rw[hn,Bool.true_and] at hF
     exact c_6 (rfl:s4=s4) (nx (fun r=>r.all Mv.fits=(k.Points ++ k.Xs).all Mv.fits) hF)
   have hfx:x.fits=(decide (0≤x.Cmd∧x.Cmd≤2) && decide (-1≤x.Other∧x.Other≤4294967295)):=rfl
   refine ho.at_.load (a_c hx) c_l rfl ⟨x.Cmd,x.Other,rfl,bcd (fun e=>no (by rw[hfx,decide_eq_false (by omega)];rfl)) (fun t1=>bcd (fun e=>no (by rw[hfx,decide_eq_false (by omega)];rfl)) (fun t2=>?_))⟩
   refine bcn (fun t3=>(c_f _).use ⟨_,rfl,a_p (fun e=>no ?_) (fun e=>go ?_)⟩) (fun t3=>go (by rw[hfx,decide_eq_true ⟨by omega,by omega⟩,decide_eq_true ⟨by omega,by omega⟩];rfl))
   · have:=of_decide_eq_false e
     rw[hfx,decide_eq_false (p:= -1≤x.Other∧_) (by omega),Bool.and_false]
   · have:=of_decide_eq_true e
     rw[hfx,decide_eq_true ⟨by omega,by omega⟩,decide_eq_true ⟨by omega,by omega⟩];rfl
 have hF0:=hr.done (by simp) hge
 rw[←hF0]
 simp only[List.all_nil,Bool.true_and]
 clear hF0 hr hge
 refine (hk.resets.ext he3).lenK ⟨fun n s'=>s'=s4∧Rng k.Resets (fun r=>r.all (tm 1) =k.Resets.all (tm 1)) n,fun n _=>k.Resets.length - n.toNat,⟨rfl, .start rfl⟩,?_⟩
 rintro n s5 ⟨rfl,hr⟩
 refine bcd (fun hlt=>?_) (fun hge=>?_)
 · obtain ⟨j,x,rfl,hx,hj,hF,nx⟩:=hr.step (by simp) l5 hlt
   rw[List.all_cons] at hF
   have no:¬(0≤x∧x≤4294967295+1)→(RV.a (.one (.bool false)) = .a (bA (k.Lines.all Ls.fits && k.Resets.all (tm 1)))∧Ext s s5):=fun hn=>by
     rw[tm,decide_eq_false hn] at hF
     exact ⟨by rw[←hF,Bool.false_and,Bool.and_false],he3⟩
   refine (hk.resets.ext he3).load (a_c hx) c_int rfl ⟨x,rfl,bcd (fun e=>no (by omega)) (fun g1=>bcd (fun e=>no (by omega)) (fun g2=>?_))⟩
   rw[tm,decide_eq_true ⟨by omega,by omega⟩,Bool.true_and] at hF
   exact c_6 rfl (nx _ hF)
 have hF0:=hr.done (by simp) hge
 rw[←hF0]
 simp only[List.all_nil,Bool.and_true]
 clear hF0 hr hge
 refine (hk.lines.ext he3).lenK ⟨fun n s'=>s'=s5∧Rng k.Lines (fun r=>r.all Ls.fits=k.Lines.all Ls.fits) n,fun n _=>k.Lines.length - n.toNat,⟨rfl, .start rfl⟩,?_⟩
 rintro n s6 ⟨rfl,hr⟩
 refine bcd (fun hlt=>?_) (fun hge=>?_)
 · obtain ⟨j,x,rfl,hx,hj,hF,nx⟩:=hr.step (by simp) l4 hlt
   rw[List.all_cons] at hF
   have no:x.fits=false→(RV.a (.one (.bool false)) = .a (bA (k.Lines.all Ls.fits))∧Ext s s6):=fun hn=>by
     rw[hn] at hF
     exact ⟨by rw[←hF];rfl,he3⟩
   have hfx:x.fits=((tm 0 x.Ask && (tm 0 x.Done && (tm 0 x.Grant && (tm 0 x.Told && (tm 0 x.PAsk && (tm 0 x.PDone && tm 0 x.PGrant)))))) && tm 1 x.Since):=rfl
   refine (hk.lines.ext he3).load (a_c hx) b_8 rfl ⟨x.Ask,x.Done,x.Grant,x.Told,x.PAsk,x.PDone,x.PGrant,x.Since,rfl,?_⟩
   refine (c_f _).use ⟨_,rfl,a_p (fun e=>no (by rw[hfx,e];rfl)) (fun t1=>?_)⟩
   refine (c_f _).use ⟨_,rfl,a_p (fun e=>no (by rw[hfx,t1,e];rfl)) (fun t2=>?_)⟩
   refine (c_f _).use ⟨_,rfl,a_p (fun e=>no (by rw[hfx,t1,t2,e];rfl)) (fun t3=>?_)⟩
   refine (c_f _).use ⟨_,rfl,a_p (fun e=>no (by rw[hfx,t1,t2,t3,e];rfl)) (fun t4=>?_)⟩
   refine (c_f _).use ⟨_,rfl,a_p (fun e=>no (by rw[hfx,t1,t2,t3,t4,e];rfl)) (fun t5=>?_)⟩
   refine (c_f _).use ⟨_,rfl,a_p (fun e=>no (by rw[hfx,t1,t2,t3,t4,t5,e];rfl)) (fun t6=>?_)⟩
   refine (c_f _).use ⟨_,rfl,a_p (fun e=>no (by rw[hfx,t1,t2,t3,t4,t5,t6,e];rfl)) (fun t7=>?_)⟩
   refine bcd (fun e=>no (by rw[hfx,tm,tm,tm,tm,tm,tm,tm,tm,decide_eq_false (p:=0≤x.Since∧_) (by omega),Bool.and_false])) (fun t8=>bcd (fun e=>no (by rw[hfx,tm,tm,tm,tm,tm,tm,tm,tm,decide_eq_false (p:=0≤x.Since∧_) (by omega),Bool.and_false])) (fun t9=>?_))
   have hs:tm 1 x.Since=true:=decide_eq_true ⟨by omega,by omega⟩
   rw[hfx,t1,t2,t3,t4,t5,t6,t7,hs] at hF
   exact c_6 rfl (nx (fun r=>r.all Ls.fits=k.Lines.all Ls.fits) hF)
 have hF0:=hr.done (by simp) hge
 rw[←hF0]
 exact ⟨rfl,he3⟩
end
end Go.Proofs.YtdmfnhbmhkgemaaGreat
section
namespace Go.Fw
structure StOk (c:Cf) (r:Rt) (s:St) :Prop where
 sec:∃y,a_k c.Secs s.Sec=some y∧(h_n (f_c y.Kind) s.In s.Out).isSome=true∧(r.Shunt=true→y.Line=0)
theorem a_cd {c:Cf}(ht:b_q c.Secs c.Jts=true)(r:Rt)(ex:Option Sg) :∀(l:List St) (a:Sg) (seen:List Int),p_0 c r ex l a seen=true→
   (∀s ∈ l,StOk c r s∧s.Sec ∉ seen)∧(l.map St.Sec).Nodup
 | [],a,seen,_=>⟨fun s hs=>by simp at hs,by simp⟩
 | s::rest,a,seen,h=>by
   rw[p_0,Bool.and_eq_true] at h
   obtain ⟨h1,h2⟩:=h
   obtain ⟨q1,q2⟩:=a_cd ht r ex rest _ _ h2
   unfold z_q at h1
   cases hn:nxt c.Jts a.Sec a.End_ with
   | none=>rw[hn] at h1;cases h1
   | some p=>
     obtain ⟨q,i⟩:=p
     rw[hn] at h1
     obtain ⟨y,hy⟩:=a_td ht hn
     simp only[hy,Option.getD_some,Bool.and_eq_true,decide_eq_true_eq,Bool.not_eq_true'] at h1
     obtain ⟨⟨⟨⟨⟨rfl,e2⟩,e3⟩,e4⟩,e5⟩,e6⟩:=h1
     refine ⟨fun x hx=>?_,?_⟩
     · rcases List.mem_cons.1 hx with rfl | hx
       · refine ⟨⟨y,hy,e3,fun hs=>?_⟩,e4⟩
         rw[hs,Bool.true_and,decide_eq_false_iff_not] at e6
         exact Decidable.not_not.1 e6
       · obtain ⟨w1,w2⟩:=q1 x hx
         exact ⟨w1,fun hm=>w2 (List.mem_cons_of_mem _ hm)⟩
     · rw[List.map_cons,List.nodup_cons]
       refine ⟨fun hm=>?_,q2⟩
       obtain ⟨x,hx,e⟩:=List.mem_map.1 hm
       exact (q1 x hx).2 (by rw[e];simp)
structure RtOk (c:Cf) (r:Rt) :Prop where
 entry:∃a,a_k c.Sigs r.Entry=some a
 exit_:r.Exit= -1∨∃x,a_k c.Sigs r.Exit=some x
 len:1≤r.Path.length∧r.Path.length≤8
 step:∀s ∈ r.Path,StOk c r s∧s.Sec≠c.approach r
 dup:(r.Path.map St.Sec).Nodup
 flank:r.Flank=c.flank (c.approach r) r.Path
 over:r.Overlap=c.overlap r
theorem a_co {c:Cf} :∀{l:List Rt},c.routes l=0→∀r ∈ l,c.route r=0
 | [],_,r,hr=>by simp at hr
 | x::l,h,r,hr=>by
   rw[Cf.routes] at h
   split at h
   · rename_i hne;exact absurd h hne
   · rename_i he
     rcases List.mem_cons.1 hr with rfl | hr
     · simpa using he
     · exact a_co h r hr
theorem h_j {c:Cf}(h:c.check=0) :b_q c.Secs c.Jts=true∧c.sigsOk=true∧c.xsOk=true∧c.Rts.length≤12∧c.routes c.Rts=0∧c.timing=true:=by
 unfold Cf.check at h
 split at h
 · cases h
 split at h
 · cases h
 split at h
 · cases h
 split at h
 · cases h
 split at h
 · rename_i hne;exact absurd h hne
 split at h
 · rename_i h1 h2 h3 h4 h5 h6
   exact ⟨by simpa using h1,by simpa using h2,by simpa using h3,by omega,by simpa using h5,h6⟩
 · cases h
theorem a_xo {c:Cf}(ht:b_q c.Secs c.Jts=true){r:Rt}(h:c.route r=0) :RtOk c r:=by
 unfold Cf.route at h
 split at h
 · cases h
 split at h
 · cases h
 split at h
 · cases h
 rename_i h1 h2 h3
 have h1:c.path r=true:=by simpa using h1
 unfold Cf.path at h1
 cases hg:a_k c.Sigs r.Entry with
 | none=>rw[hg] at h1;cases h1
 | some a=>
   rw[hg] at h1
   simp only[Bool.and_eq_true,Bool.or_eq_true,decide_eq_true_eq] at h1
   obtain ⟨⟨e1,e2⟩,e3⟩:=h1
   obtain ⟨q1,q2⟩:=a_cd ht r _ _ _ _ e3
   have ha:c.approach r=a.Sec:=by rw[Cf.approach,hg];rfl
   refine ⟨⟨a,hg⟩,e1.imp id Option.isSome_iff_exists.1,e2,fun s hs=>⟨(q1 s hs).1,fun e=>(q1 s hs).2 (by rw[e,ha];simp)⟩,q2,Decidable.not_not.1 h2,Decidable.not_not.1 h3⟩
theorem a_7 {c:Cf}(h:c.check=0){r:Rt}(hr:r ∈ c.Rts) :RtOk c r:=by
 obtain ⟨h1,_,_,_,h5,_⟩:=h_j h
 exact a_xo h1 (a_co h5 r hr)
structure NdOk (c:Cf) (a:Int) (path:List St) (n:Nd) :Prop where
 sec:∃y,a_k c.Secs n.Sec=some y∧y.Kind=1
 pos:1≤n.Pos∧n.Pos≤2
 app:n.Sec≠a
 path:c_e path n.Sec=false
def FlOk (c:Cf)(a:Int)(path:List St)(out:List Nd) :Prop:=(∀n ∈ out,NdOk c a path n)∧(out.map Nd.Sec).Nodup
theorem a_l6 {c:Cf}{a:Int}{p:List St}{s:St}{out:List Nd}{e:Int}(h:FlOk c a p out) :FlOk c a p (b_t c a p s out e):=by
 unfold b_t
 split
 · exact h
 · split
   · exact h
   · split
     · exact h
     · rename_i y hy
       split
       · rename_i hc
         obtain ⟨c1,c2,c3,c4,c5⟩:=hc
         refine ⟨fun n hn=>?_,?_⟩
         · rcases List.mem_append.1 hn with hn | hn
           · exact h.1 n hn
           · rw[List.mem_singleton] at hn;subst hn
             exact ⟨⟨y,hy,c1⟩,by simp only;omega,c3,c4⟩
         · rw[List.map_append,List.nodup_append]
           refine ⟨h.2,by simp,fun x hx z hz=>?_⟩
           simp only[List.map_cons,List.map_nil,List.mem_singleton] at hz
           subst hz
           intro e
           obtain ⟨n,hn,e2⟩:=List.mem_map.1 hx
           rw[List.any_eq_false] at c5
           exact c5 n hn (by rw[e2,e];simp)
       · exact h
theorem y_t {c:Cf}{a:Int}{p:List St}{s:St} :∀(n:Nat) (e:Int) (out:List Nd),FlOk c a p out→FlOk c a p (b_p c a p s n e out)
 | 0,_,_,h=>h
 | n+1,e,out,h=>by rw[b_p];exact y_t n _ _ (a_l6 h)
theorem a_cf {c:Cf}{a:Int}{p:List St} :∀(l:List St) (out:List Nd),FlOk c a p out→FlOk c a p (c_v c a p l out)
 | [],_,h=>h
 | s::r,out,h=>by
   rw[c_v]
   refine a_cf r _ ?_
   split
   · exact h
   · exact y_t _ _ _ h
theorem a_wp (c:Cf)(a:Int)(p:List St) :FlOk c a p (c.flank a p):=a_cf p [] ⟨fun n h=>by simp at h,by simp⟩
theorem a_t7 (c:Cf)(a:Int)(p:List St) :(c.flank a p).length≤4 * p.length:=by
 have:=(p_c c a p p []).2
 simpa[Cf.flank] using this
theorem a_w8 {c:Cf}{r:Rt}{q:Int}(h:q ∈ c.overlap r) :(∃y,a_k c.Secs q=some y∧y.Line=0)∧c_e r.Path q=false∧q≠c.approach r:=by
 unfold Cf.overlap at h
 split at h
 · simp at h
 split at h
 · simp at h
 split at h
 · simp at h
 split at h
 · simp at h
 rename_i y hy
 split at h
 · rename_i hc
   rw[List.mem_singleton] at h;subst h
   exact ⟨⟨y,hy,hc.1⟩,hc.2.1,hc.2.2⟩
 · simp at h
theorem a_vg (c:Cf)(r:Rt) :(c.overlap r).length≤1:=by
 unfold Cf.overlap
 split
 · simp
 split
 · simp
 split
 · simp
 split
 · simp
 split <;> simp
theorem RtOk.fl {c:Cf}{r:Rt}(h:RtOk c r) :FlOk c (c.approach r) r.Path r.Flank:=by rw[h.flank];exact a_wp _ _ _
theorem RtOk.flen {c:Cf}{r:Rt}(h:RtOk c r) :r.Flank.length≤32:=by
 rw[h.flank];have:=a_t7 c (c.approach r) r.Path;have:=h.len;omega
theorem RtOk.olen {c:Cf}{r:Rt}(h:RtOk c r) :r.Overlap.length≤1:=by rw[h.over];exact a_vg _ _
theorem RtOk.ov {c:Cf}{r:Rt}(h:RtOk c r){q:Int}(hq:q ∈ r.Overlap) :(∃y,a_k c.Secs q=some y∧y.Line=0)∧c_e r.Path q=false∧q≠c.approach r:=by rw[h.over] at hq;exact a_w8 hq
theorem q_y {c:Cf}(h:c.check=0) :(∀x ∈ c.Xs,∃s,a_k c.Secs x=some s∧s.Line=0)∧c.Xs.Nodup∧c.Xs.length≤4:=by
 obtain ⟨_,_,h3,_⟩:=h_j h
 rw[Cf.xsOk,Bool.and_eq_true,x_4] at h3
 exact ⟨h3.1.1,h3.1.2.1,of_decide_eq_true h3.2⟩
theorem d_s {α:Type}{l:List α}{j:Nat} :a_k l (j:Int) =l[j]? :=by unfold a_k;rw[if_neg (by omega),Int.toNat_natCast]
theorem f_r {c:Cf}{k:Co}(h:k.fits c=true) :c.check=0:=by
 rw[Co.fits,Bool.and_eq_true] at h;exact of_decide_eq_true h.1
end Go.Fw
namespace Go.Fw
end Go.Fw
end
namespace Go.Fw
section
def zRt:Rt:=⟨0,0,[],[],[],false⟩
def Cf.rt (c:Cf)(i:Int) :Rt:=(a_k c.Rts i).getD zRt
def b_v (c:Cf)(s:St) :Option Nd:=
 match a_k c.Secs s.Sec with
 | none=>none
 | some y=>match h_n (f_c y.Kind) s.In s.Out with
   | none=>none
   | some p=>if p=0 then none else some ⟨s.Sec,p⟩
def Cf.needs (c:Cf)(r:Rt) :List Nd:=r.Path.filterMap (b_v c) ++ r.Flank
def Cf.Needs (c:Cf)(i:Int) :List Nd:=c.needs (c.rt i)
def a_9 (path:List St) :List Int→Nat→List Int
 | [],_=> []
 | x::r,j=>if c_e path x=true then (j:Int) ::a_9 path r (j+1) else a_9 path r (j+1)
def Cf.Cross (c:Cf)(i:Int) :List Int:=a_9 (c.rt i).Path c.Xs 0
theorem b_j {c:Cf}{i:Int}{r:Rt}(h:a_k c.Rts i=some r) :c.rt i=r:=by unfold Cf.rt;rw[h];rfl
theorem y_f {c:Cf}{i:Int}(h:a_k c.Rts i=none) :c.rt i=zRt:=by unfold Cf.rt;rw[h];rfl
theorem a_ty {c:Cf}{i:Int}(h:a_k c.Rts i=none) :c.Needs i=[]:=by unfold Cf.Needs;rw[y_f h];rfl
theorem a_uc {c:Cf}{i:Int}(h:a_k c.Rts i=none) :c.Cross i=[]:=by
 unfold Cf.Cross;rw[y_f h]
 generalize (0:Nat) =j
 induction c.Xs generalizing j with
 | nil=>rfl
 | cons x r ih=>rw[a_9,if_neg (by simp[c_e,zRt])];exact ih _
theorem i_o (path:List St) :∀(l:List Int) (j:Nat),(a_9 path l j).length≤l.length
 | [],_=>by simp[a_9]
 | x::r,j=>by
   rw[a_9];have:=i_o path r (j+1)
   split <;> simp <;> omega
theorem f_y (path:List St) :∀(l:List Int) (j:Nat) (n:Int),n ∈ a_9 path l j→∃(i:Nat) (x:Int),n=((j+i:Nat) :Int)∧l[i]? =some x∧c_e path x=true
 | [],j,n,h=>by simp[a_9] at h
 | x::r,j,n,h=>by
   have go:n ∈ a_9 path r (j+1)→∃(i:Nat) (y:Int),n=((j+i:Nat) :Int)∧(x::r)[i]? =some y∧c_e path y=true:=fun h=>by
     obtain ⟨i,y,h1,h2,h3⟩:=f_y path r (j+1) n h
     exact ⟨i+1,y,by omega,by simpa using h2,h3⟩
   rw[a_9] at h
   split at h
   · rename_i hx
     rcases List.mem_cons.1 h with rfl | h
     · exact ⟨0,x,by simp,rfl,hx⟩
     · exact go h
   · exact go h
theorem k_m (c:Cf)(r:Rt) :(c.needs r).length≤r.Path.length+r.Flank.length:=by
 unfold Cf.needs
 rw[List.length_append]
 have:=List.length_filterMap_le (b_v c) r.Path
 omega
theorem k_h {c:Cf}{r:Rt}(h:RtOk c r){n:Nd}(hn:n ∈ c.needs r) :(∃y,a_k c.Secs n.Sec=some y)∧1≤n.Pos∧n.Pos≤2:=by
 unfold Cf.needs at hn
 rcases List.mem_append.1 hn with hn | hn
 · obtain ⟨s,hs,e⟩:=List.mem_filterMap.1 hn
   obtain ⟨⟨y,hy,_⟩⟩:=(h.step s hs).1
   unfold b_v at e
   rw[hy] at e
   simp only at e
   cases hp:h_n (f_c y.Kind) s.In s.Out with
   | none=>rw[hp] at e;cases e
   | some p=>
     rw[hp] at e
     simp only at e
     split at e
     · cases e
     · rename_i hp0
       injection e with e;subst e
       refine ⟨⟨y,hy⟩,?_⟩
       have key:∀(l:List (Int × Int × Int)),(∀w ∈ l,w.2.2=0∨w.2.2=1∨w.2.2=2)→∀p,h_n l s.In s.Out=some p→p=0∨p=1∨p=2:=by
         intro l
         induction l with
         | nil=>intro _ p h;cases h
         | cons w r ih=>
           intro hw p h
           rw[h_n] at h
           split at h
           · injection h with h;rw[←h];exact hw w (by simp)
           · exact ih (fun w hw'=>hw w (by simp[hw'])) p h
       have hw:∀w ∈ f_c y.Kind,w.2.2=0∨w.2.2=1∨w.2.2=2:=by
         unfold f_c
         split
         · simp
         split
         · simp
         split
         · simp
         · simp
       have:=key _ hw p hp
       simp only
       omega
 · have:=h.fl.1 n hn
   obtain ⟨y,hy,_⟩:=this.sec
   exact ⟨⟨y,hy⟩,this.pos⟩
end
end Go.Fw
namespace Go.Proofs.YtdmfnhbmhkgemaaGreat
open Go.Fw Go.Proofs Go.RowKit
open Go.Proofs.Tryz (prog)
section
variable {σ:Store}
section
variable {c0 c1 c2 c3 c4:D} {c:Cf} (h:∀s,CfAt s c0 c1 c2 c3 c4 c)
include h
theorem p_h {i:Nat}{x:Rt}(hx:c.Rts[i]? =some x) :∃rows d1 d2 d3,(∀s,At prog s m_f c4 rows)∧rows.length=c.Rts.length∧rows[i]? =some [iD x.Entry,iD x.Exit,d1,d2,d3, .bool x.Shunt]∧
   (∀s,At prog s d_0 d1 (x.Path.map St.enc))∧(∀s,At prog s a_4 d2 (x.Flank.map Nd.enc))∧(∀s,At prog s a_i d3 (x.Overlap.map Go.Fw.encI)):=by
 obtain ⟨rows,hat,hlen,hrow⟩:=g_m fun s=>(h s).rts
 obtain ⟨row,hrw⟩:=a_g (l:=rows) (j:=i) (by have:=(List.getElem?_eq_some_iff.1 hx).1;omega)
 obtain ⟨d1,d2,d3,rfl,q1,q2,q3⟩:=hrow i row x hrw hx
 exact ⟨rows,d1,d2,d3,hat,hlen,hrw,q1,q2,q3⟩
theorem r_v (i:Int) :DCalls prog i_2 [cfA c0 c1 c2 c3 c4 c,iA i] σ fun r s=>s=σ∧∃d1 d2 d3,r= .tup [rtA d1 d2 d3 (c.rt i),bA (a_k c.Rts i).isSome]∧
   (∀s,At prog s d_0 d1 ((c.rt i).Path.map St.enc))∧(∀s,At prog s a_4 d2 ((c.rt i).Flank.map Nd.enc))∧(∀s,At prog s a_i d3 ((c.rt i).Overlap.map Go.Fw.encI)):=by
 have no:a_k c.Rts i=none→(σ=σ∧∃d1 d2 d3,RV.tup [.agg [iD 0,iD 0, .nils, .nils, .nils, .bool false],bA false]= .tup [rtA d1 d2 d3 (c.rt i),bA (a_k c.Rts i).isSome]∧
   (∀s,At prog s d_0 d1 ((c.rt i).Path.map St.enc))∧(∀s,At prog s a_4 d2 ((c.rt i).Flank.map Nd.enc))∧(∀s,At prog s a_i d3 ((c.rt i).Overlap.map Go.Fw.encI))):=fun e=>by
   rw[y_f e,e]
   exact ⟨rfl,_,_,_,rfl,fun _=> .nil,fun _=> .nil,fun _=> .nil⟩
 obtain ⟨rows,hat,hlen⟩:=i_1 (h σ)
 refine a_js _ _ _ _ _ _ _ _ _ i σ _ (bcd (fun e=>no (b_z e)) (fun e0=>hat.lenK (bcd (fun e=>no (c_z (by omega))) (fun e1=>?_))))
 obtain ⟨x,hx⟩:=c_8 (l:=c.Rts) (i:=i) e0 (by omega)
 obtain ⟨rows,d1,d2,d3,hat,hlen,hrow,q1,q2,q3⟩:=p_h h (a_l hx).2.2
 refine (hat σ).load hrow c_p (by omega) ⟨_,_,_,_,_,_,rfl,?_⟩
 rw[b_j hx,hx]
 exact ⟨rfl,_,_,_,rfl,q1,q2,q3⟩
theorem k_y (i:Int)(h1:(c.rt i).Path.length≤2 ^ 20)(h2:(c.rt i).Flank.length≤2 ^ 20) :
   DCalls prog g_p [cfA c0 c1 c2 c3 c4 c,iA i] σ (b_r σ a_4 ((c.Needs i).map Nd.enc)):=by
 refine (a_if _ _ _ _ _ _ _ _ _ i σ _ ?_).ret (Q:=fun r s=>∃r' σ',Ret prog σ s r σ' r'∧b_r σ a_4 ((c.Needs i).map Nd.enc) r' σ') (fun r s h=>h)
 refine (r_v h i).mono ?_
 rintro r s ⟨rfl,d1,d2,d3,rfl,q1,q2,q3⟩
 rw[Cf.Needs]
 generalize c.rt i=x at *
 refine ⟨_,_,_,_,_,_,_,rfl,(q1 s).lenK ⟨fun d n s'=>∃out:List Nd,Own prog s s' a_4 d (out.map Nd.enc)∧(out.length:Int)≤n∧Rng x.Path (fun r=>out ++ r.filterMap (b_v c) =x.Path.filterMap (b_v c)) n,
   fun _ n _=>x.Path.length - n.toNat,⟨[], .nil _ (.refl _),by simp, .start rfl⟩,?_⟩⟩
 rintro d n s' ⟨out,ho,hol,hr⟩
 rw[List.length_map]
 refine bcd (fun hlt=>?_) (fun hge=>?_)
 · obtain ⟨j,y,rfl,hy,hj,hF,nx⟩:=hr.step rfl (by omega) hlt
   rw[List.filterMap_cons] at hF
   have skip : b_v c y = none → ∀ s2, Ext s' s2 → (∃ out : List Nd, Own prog s s2 a_4 d (out.map Nd.enc) ∧ (out.length : Int) ≤ w64 ((j : Int) + 1) ∧ Rng x.Path (fun r => out ++ r.filterMap (b_v c) = x.Path.filterMap (b_v c)) (w64 ((j : Int) + 1))) ∧
       x.Path.length - (w64 ((j:Int) +1)).toNat < x.Path.length - (j:Int).toNat:=fun hn s2 he=>by
     rw[hn] at hF
     have:=nx (fun r=>out ++ r.filterMap (b_v c) =x.Path.filterMap (b_v c)) hF
     exact ⟨⟨out,ho.ext' he,by rw[a_m (by omega)];omega,this.1⟩,this.2⟩
   refine (q1 s').load (a_c hy) g_f rfl ⟨y.Sec,y.In,y.Out,rfl,bcd (fun e=>⟨rfl,skip (by unfold b_v;rw[b_z e]) _ (.refl _)⟩) (fun e0=>(h s').secs.lenK ?_)⟩
   rw[List.length_map]
   refine bcd (fun e=>⟨rfl,skip (by unfold b_v;rw[c_z e]) _ (.refl _)⟩) (fun e1=>?_)
   obtain ⟨z,hz⟩:=c_8 e0 e1
   have hneed:b_v c y=match h_n (f_c z.Kind) y.In y.Out with | none=>none | some p=>if p=0 then none else some ⟨y.Sec,p⟩:=by unfold b_v;rw[hz] <;> rfl
   refine (h s').secs.load (a_c (a_l hz).2.2) b_n (by omega) ⟨z.Kind,rfl,(a_ck _ _ _).use (a_eg _ ?_)⟩
   cases hp:h_n (f_c z.Kind) y.In y.Out with
   | none=>rw[hp] at hneed;exact bc (fun e=>by cases e) (fun _=>⟨rfl,skip hneed _ (.refl _)⟩)
   | some p=>
     rw[hp] at hneed
     refine bc (fun _=>bcn (fun e=>?_) (fun e=>⟨rfl,skip (by rw[hneed];exact if_pos e) _ (.refl _)⟩)) (fun e=>by cases e)
     have hsome:b_v c y=some ⟨y.Sec,p⟩:=by rw[hneed];exact if_neg e
     rw[hsome] at hF
     refine a_d fun id s2 hid _ he hs2=>(ho.ext' he).append (At.fresh hs2 (by simp) rfl) (by simp;omega) (by simp;omega) fun d4 s5 ho5 _ _=>⟨rfl,?_⟩
     have:=nx (fun r=>(out ++ [⟨y.Sec,p⟩]) ++ r.filterMap (b_v c) =x.Path.filterMap (b_v c)) (by rw[List.append_assoc];exact hF)
     exact ⟨⟨out ++ [⟨y.Sec,p⟩],by rw[List.map_append];exact ho5,by rw[a_m (by omega),List.length_append,List.length_singleton];omega,this.1⟩,this.2⟩
 · have hF:=hr.done rfl hge
   have hn:n≤x.Path.length:=by obtain ⟨j,rfl,hj,_⟩:=hr;omega
   rw[List.filterMap_nil,List.append_nil] at hF
   subst hF
   refine ho.append (q2 s') (by simp only[List.length_map];omega) (by simp only[List.length_map];omega) fun d4 s5 ho5 _ _=>?_
   rw[←List.map_append] at ho5
   exact c_n ho5 (a_gg _)
theorem g_8 (i:Int)(h1:c.Xs.length≤2 ^ 20) :
   DCalls prog e_a [cfA c0 c1 c2 c3 c4 c,iA i] σ (b_r σ a_i ((c.Cross i).map Go.Fw.encI)):=by
 refine (x_x _ _ _ _ _ _ _ _ _ i σ _ ?_).ret (Q:=fun r s=>∃r' σ',Ret prog σ s r σ' r'∧b_r σ a_i ((c.Cross i).map Go.Fw.encI) r' σ') (fun r s h=>h)
 refine (r_v h i).mono ?_
 rintro r s ⟨rfl,d1,d2,d3,rfl,q1,q2,q3⟩
 rw[Cf.Cross]
 generalize c.rt i=x at *
 refine ⟨_,_,_,_,_,_,_,rfl,(h s).xs.lenK ⟨fun d n s'=>∃out:List Int,Own prog s s' a_i d (out.map Go.Fw.encI)∧(out.length:Int)≤n∧Rng c.Xs (fun r=>out ++ a_9 x.Path r n.toNat=a_9 x.Path c.Xs 0) n,
   fun _ n _=>c.Xs.length - n.toNat,⟨[], .nil _ (.refl _),by simp, .start rfl⟩,?_⟩⟩
 rintro d n s' ⟨out,ho,hol,hr⟩
 rw[List.length_map]
 refine bcd (fun hlt=>?_) (fun hge=>?_)
 · obtain ⟨j,y,rfl,hy,hj,hF,nx⟩:=hr.step rfl (by omega) hlt
   have hw:w64 ((j:Int) +1) =((j+1:Nat) :Int):=a_m (by omega)
   have go : ∀ out2 d2 s2, out2 ++ a_9 x.Path (c.Xs.drop (j + 1)) (j + 1) = a_9 x.Path c.Xs 0 → Own prog s s2 a_i d2 (out2.map Go.Fw.encI) → out2.length ≤ j + 1 → (∃ out : List Int, Own prog s s2 a_i d2 (out.map Go.Fw.encI) ∧ (out.length : Int) ≤ w64 ((j : Int) + 1) ∧ Rng c.Xs (fun r => out ++ a_9 x.Path r (w64 ((j : Int) + 1)).toNat = a_9 x.Path c.Xs 0) (w64 ((j : Int) + 1))) ∧
       c.Xs.length - (w64 ((j:Int) +1)).toNat < c.Xs.length - (j:Int).toNat:=fun out2 d2 s2 he ho2 hl=>by
     have:=nx (fun r=>out2 ++ a_9 x.Path r (w64 ((j:Int) +1)).toNat=a_9 x.Path c.Xs 0) (by rw[hw,Int.toNat_natCast];exact he)
     exact ⟨⟨out2,ho2,by rw[hw];omega,this.1⟩,this.2⟩
   rw[Int.toNat_natCast,a_9] at hF
   refine (h s').xs.load (a_c hy) c_int rfl ⟨y,rfl,a_d fun id s2 hid _ he hs2=>n_7 hs2 fun s3 hs3 hs3'=>?_⟩
   have he3:Ext s' s3:=fun i hi=>by
     rw[hs3' i (fun e=>hi (by rw[e];exact hid))];exact he i hi
   have ho3:=ho.ext' he3
   refine (i_8 (p:=fun x=>x.Sec == y) (q1 s3) (a_ge hs3 fun x _=>t_d x.Sec x.In x.Out _ s3 _ ⟨_,_,_,rfl,_,a_e hs3,y,rfl,rfl,rfl⟩)).use ⟨_,rfl,?_⟩
   refine bc (fun e=>?_) (fun e=>⟨rfl,go out _ _ (by rw[if_neg (fun g=>by have:c_e x.Path y=false:=e;rw[this] at g;cases g)] at hF;exact hF) ho3 (by omega)⟩)
   rw[if_pos (show c_e x.Path y=true from e)] at hF
   refine a_d fun id1 s4 hid1 _ he4 hs4=>(ho3.ext' he4).append (At.fresh hs4 (by simp) rfl) (by simp;omega) (by simp;omega) fun d4 s5 ho5 _ _=>⟨rfl,go (out ++ [(j:Int)]) _ _ (by rw[List.append_assoc];exact hF) (by rw[List.map_append];exact ho5) (by simp;omega)⟩
 · have hF:=hr.done rfl hge
   rw[a_9,List.append_nil] at hF
   subst hF
   exact c_n ho (v_e _)
theorem a_ex (i:Int)(h1:(c.rt i).Path.length≤2 ^ 20)(h2:(c.rt i).Flank.length≤2 ^ 20) :
   DCalls prog m_g [cfA c0 c1 c2 c3 c4 c,iA i] σ (b_r σ a_4 ((c.Needs i).map Nd.enc)):=by
 refine (a_jh _ _ _ _ _ _ _ _ _ i σ _ ?_).ret (Q:=fun r s=>∃r' σ',Ret prog σ s r σ' r'∧b_r σ a_4 ((c.Needs i).map Nd.enc) r' σ') (fun r s h=>h)
 intro R hR
 have nil:a_k c.Rts i=none→∃r' σ',Ret prog σ σ (.a (.one .nils)) σ' r'∧b_r σ a_4 ((c.Needs i).map Nd.enc) r' σ':=fun e=>by
   rw[a_ty e];exact c_n (.nil _ (.refl _)) (a_gg _)
 obtain ⟨rows,hat,hlen⟩:=i_1 (h σ)
 refine bcd (fun e=>nil (b_z e)) (fun e0=>hat.lenK (bcd (fun e=>nil (c_z (by omega))) (fun e1=>hR σ ?_)))
 obtain ⟨x,hx⟩:=c_8 (l:=c.Rts) (i:=i) e0 (by omega)
 clear hR nil hat
 rw[Cf.Needs]
 rw[b_j hx] at *
 obtain ⟨rows,d1,d2,d3,hat,hlen,hrow,q1,q2,q3⟩:=p_h h (a_l hx).2.2
 refine (hat σ).load hrow c_p (by omega) ⟨d1,rfl,(q1 σ).lenK ⟨fun d n s'=>∃out:List Nd,Own prog σ s' a_4 d (out.map Nd.enc)∧(out.length:Int)≤n∧Rng x.Path (fun r=>out ++ r.filterMap (b_v c) =x.Path.filterMap (b_v c)) n,
   fun _ n _=>x.Path.length - n.toNat,⟨[], .nil _ (.refl _),by simp, .start rfl⟩,?_⟩⟩
 rintro d n s' ⟨out,ho,hol,hr⟩
 rw[List.length_map]
 refine bcd (fun hlt=>?_) (fun hge=>?_)
 · obtain ⟨j,y,rfl,hy,hj,hF,nx⟩:=hr.step rfl (by omega) hlt
   rw[List.filterMap_cons] at hF
   have skip : b_v c y = none → ∀ s2, Ext s' s2 → (∃ out : List Nd, Own prog σ s2 a_4 d (out.map Nd.enc) ∧ (out.length : Int) ≤ w64 ((j : Int) + 1) ∧ Rng x.Path (fun r => out ++ r.filterMap (b_v c) = x.Path.filterMap (b_v c)) (w64 ((j : Int) + 1))) ∧
       x.Path.length - (w64 ((j:Int) +1)).toNat < x.Path.length - (j:Int).toNat:=fun hn s2 he=>by
     rw[hn] at hF
     have:=nx (fun r=>out ++ r.filterMap (b_v c) =x.Path.filterMap (b_v c)) hF
     exact ⟨⟨out,ho.ext' he,by rw[a_m (by omega)];omega,this.1⟩,this.2⟩
   refine (q1 s').load (a_c hy) g_f rfl ⟨y.Sec,y.In,y.Out,rfl,bcd (fun e=>skip (by unfold b_v;rw[b_z e]) _ (.refl _)) (fun e0=>(h s').secs.lenK ?_)⟩
   rw[List.length_map]
   refine bcd (fun e=>skip (by unfold b_v;rw[c_z e]) _ (.refl _)) (fun e1=>?_)
   obtain ⟨z,hz⟩:=c_8 e0 e1
   have hneed:b_v c y=match h_n (f_c z.Kind) y.In y.Out with | none=>none | some p=>if p=0 then none else some ⟨y.Sec,p⟩:=by unfold b_v;rw[hz] <;> rfl
   refine (h s').secs.load (a_c (a_l hz).2.2) b_n (by omega) ⟨z.Kind,rfl,(y_9 _ _ _).use (a_eg _ ?_)⟩
   cases hp:h_n (f_c z.Kind) y.In y.Out with
   | none=>rw[hp] at hneed;exact bc (fun e=>by cases e) (fun _=>skip hneed _ (.refl _))
   | some p=>
     rw[hp] at hneed
     refine bc (fun _=>bcn (fun e=>?_) (fun e=>skip (by rw[hneed];exact if_pos e) _ (.refl _))) (fun e=>by cases e)
     have hsome:b_v c y=some ⟨y.Sec,p⟩:=by rw[hneed];exact if_neg e
     rw[hsome] at hF
     refine a_d fun id s2 hid _ he hs2=>(ho.ext' he).append (At.fresh hs2 (by simp) rfl) (by simp;omega) (by simp;omega) fun d4 s5 ho5 _ _=>?_
     have:=nx (fun r=>(out ++ [⟨y.Sec,p⟩]) ++ r.filterMap (b_v c) =x.Path.filterMap (b_v c)) (by rw[List.append_assoc];exact hF)
     exact ⟨⟨out ++ [⟨y.Sec,p⟩],by rw[List.map_append];exact ho5,by rw[a_m (by omega),List.length_append,List.length_singleton];omega,this.1⟩,this.2⟩
 · have hF:=hr.done rfl hge
   have hn:n≤x.Path.length:=by obtain ⟨j,rfl,hj,_⟩:=hr;omega
   rw[List.filterMap_nil,List.append_nil] at hF
   subst hF
   refine (hat s').load hrow c_p (by omega) ⟨d2,rfl,ho.append (q2 s') (by simp only[List.length_map];omega) (by simp only[List.length_map];omega) fun d4 s5 ho5 _ _=>?_⟩
   rw[←List.map_append] at ho5
   exact c_n ho5 (a_gg _)
theorem v_w (i:Int)(h1:c.Xs.length≤2 ^ 20) :
   DCalls prog h_8 [cfA c0 c1 c2 c3 c4 c,iA i] σ (b_r σ a_i ((c.Cross i).map Go.Fw.encI)):=by
 refine (z_p _ _ _ _ _ _ _ _ _ i σ _ ?_).ret (Q:=fun r s=>∃r' σ',Ret prog σ s r σ' r'∧b_r σ a_i ((c.Cross i).map Go.Fw.encI) r' σ') (fun r s h=>h)
 intro R hR
 have nil:a_k c.Rts i=none→∃r' σ',Ret prog σ σ (.a (.one .nils)) σ' r'∧b_r σ a_i ((c.Cross i).map Go.Fw.encI) r' σ':=fun e=>by
   rw[a_uc e];exact c_n (.nil _ (.refl _)) (v_e _)
 obtain ⟨rows,hat,hlen⟩:=i_1 (h σ)
 refine bcd (fun e=>nil (b_z e)) (fun e0=>hat.lenK (bcd (fun e=>nil (c_z (by omega))) (fun e1=>hR σ ?_)))
 obtain ⟨x,hx⟩:=c_8 (l:=c.Rts) (i:=i) e0 (by omega)
 clear hR nil hat
 rw[Cf.Cross,b_j hx]
 obtain ⟨rows,d1,d2,d3,hat,hlen,hrow,q1,q2,q3⟩:=p_h h (a_l hx).2.2
 have hps:=(q1 σ).size
 rw[List.length_map] at hps
 refine (h σ).xs.lenK ⟨fun d n s'=>∃out:List Int,Own prog σ s' a_i d (out.map Go.Fw.encI)∧(out.length:Int)≤n∧Rng c.Xs (fun r=>out ++ a_9 x.Path r n.toNat=a_9 x.Path c.Xs 0) n,
   fun _ n _=>c.Xs.length - n.toNat,⟨[], .nil _ (.refl _),by simp, .start rfl⟩,?_⟩
 rintro d n s' ⟨out,ho,hol,hr⟩
 rw[List.length_map]
 refine bcd (fun hlt=>?_) (fun hge=>?_)
 · obtain ⟨j,y,rfl,hy,hj,hF,nx⟩:=hr.step rfl (by omega) hlt
   have hw:w64 ((j:Int) +1) =((j+1:Nat) :Int):=a_m (by omega)
   have go : ∀ out2 d2 s2, out2 ++ a_9 x.Path (c.Xs.drop (j + 1)) (j + 1) = a_9 x.Path c.Xs 0 → Own prog σ s2 a_i d2 (out2.map Go.Fw.encI) → out2.length ≤ j + 1 → (∃ out : List Int, Own prog σ s2 a_i d2 (out.map Go.Fw.encI) ∧ (out.length : Int) ≤ w64 ((j : Int) + 1) ∧ Rng c.Xs (fun r => out ++ a_9 x.Path r (w64 ((j : Int) + 1)).toNat = a_9 x.Path c.Xs 0) (w64 ((j : Int) + 1))) ∧
       c.Xs.length - (w64 ((j:Int) +1)).toNat < c.Xs.length - (j:Int).toNat:=fun out2 d2 s2 he ho2 hl=>by
     have:=nx (fun r=>out2 ++ a_9 x.Path r (w64 ((j:Int) +1)).toNat=a_9 x.Path c.Xs 0) (by rw[hw,Int.toNat_natCast];exact he)
     exact ⟨⟨out2,ho2,by rw[hw];omega,this.1⟩,this.2⟩
   rw[Int.toNat_natCast,a_9] at hF
   refine (h s').xs.load (a_c hy) c_int rfl ⟨y,rfl,(hat s').load hrow c_p (by omega) ⟨d1,rfl,(q1 s').lenK ⟨fun d2 n2 s2=>d2=d∧s2=s'∧Rng x.Path (fun r=>c_e r y=c_e x.Path y) n2,fun _ n2 _=>x.Path.length - n2.toNat,⟨rfl,rfl, .start rfl⟩,?_⟩⟩⟩
   rintro _ n2 _ ⟨rfl,rfl,hr2⟩
   rw[List.length_map]
   refine bcd (fun hlt2=>?_) (fun hge2=>?_)
   · obtain ⟨j2,z,rfl,hz,hj2,hF2,nx2⟩:=hr2.step rfl hps hlt2
     unfold c_e at hF2
     rw[List.any_cons] at hF2
     refine (q1 _).load (a_c hz) g_f rfl ⟨z.Sec,z.In,z.Out,rfl,bce (fun e=>?_) (fun e=>a_y8 rfl rfl (nx2 (fun r=>c_e r y=c_e x.Path y) ?_))⟩
     · have hs:c_e x.Path y=true:=by unfold c_e;rw[←hF2,e];simp
       rw[if_pos hs] at hF
       exact a_d fun id1 s4 hid1 _ he4 hs4=>(ho.ext' he4).append (At.fresh hs4 (by simp) rfl) (by simp;omega) (by simp;omega) fun d4 s5 ho5 _ _=>go (out ++ [(j:Int)]) _ _ (by rw[List.append_assoc];exact hF) (by rw[List.map_append];exact ho5) (by simp;omega)
     · rw[show (z.Sec == y) =false by simpa using e,Bool.false_or] at hF2;exact hF2
   · have hs:false=c_e x.Path y:=hr2.done rfl hge2
     rw[if_neg (by rw[←hs];simp)] at hF
     exact go out _ _ hF ho (by omega)
 · have hF:=hr.done rfl hge
   rw[a_9,List.append_nil] at hF
   subst hF
   exact c_n ho (v_e _)
end
end
end Go.Proofs.YtdmfnhbmhkgemaaGreat
namespace Go.Fw
section
structure Br where
 Kind:Int
 Route:Int
 Sec:Int
 deriving DecidableEq
def Br.enc (b:Br) :List D:= [iD b.Kind,iD b.Route,iD b.Sec]
def opt (b:Bool)(x:Br) :List Br:=if b=true then [x] else []
def a_z (k:Co)(s:Int) :Int:=(a_k k.Own s).getD 0
def c_s (k:Co)(i:Int) :Int:=((a_k k.Routes i).map Rs.State).getD 0
def s_f (k:Co)(i:Int) :Int:=((a_k k.Routes i).map Rs.Next).getD 0
def d_c (l:List Mv)(i:Int) :Int:=((a_k l i).map Mv.Cmd).getD 0
def xAt (c:Cf)(i:Int) :Int:=(a_k c.Xs i).getD 0
def d_y (st:Int) :Bool:=inL [1,2,3] st
def b_6 (k:Co)(r len:Nat) :Nat:=if d_y (c_s k r) =true then 0 else if inL [4,5] (c_s k r) =true then (s_f k r).toNat else len
def p_a (k:Co)(r:Nat) :List St→List Br
 | []=> []
 | s::l=>opt (a_z k s.Sec !=(r:Int) +1) ⟨2,r,s.Sec⟩ ++ p_a k r l
def a_2 (k:Co) :List Rt→Nat→List Br
 | [],_=> []
 | x::l,r=>p_a k r (x.Path.drop (b_6 k r x.Path.length)) ++ a_2 k l (r+1)
def b_0 (k:Co) :List Int→Nat→List Br
 | [],_=> []
 | o::l,s=>opt (decide (o > 0) && inL [0] (c_s k (o - 1))) ⟨3,o - 1,s⟩ ++ b_0 k l (s+1)
def e_s (k:Co)(r:Nat) :List Nd→List Br
 | []=> []
 | n::l=>opt ((a_z k n.Sec ==(r:Int) +1) && (d_c k.Points n.Sec != n.Pos)) ⟨4,r,n.Sec⟩ ++ e_s k r l
def a_t (c:Cf)(k:Co) :List Rt→Nat→List Br
 | [],_=> []
 | x::l,r=>(if d_y (c_s k r) =true then e_s k r (c.needs x) else []) ++ a_t c k l (r+1)
def e_q (c:Cf)(k:Co)(r:Nat) :List Int→List Br
 | []=> []
 | i::l=>opt ((a_z k (xAt c i) ==(r:Int) +1) && (d_c k.Xs i != 1)) ⟨5,r,xAt c i⟩ ++ e_q c k r l
def a_0 (c:Cf)(k:Co) :List Rt→Nat→List Br
 | [],_=> []
 | x::l,r=>(if inL [0] (c_s k r) =true then [] else e_q c k r (a_9 x.Path c.Xs 0)) ++ a_0 c k l (r+1)
def u_x (c:Cf)(k:Co)(line:Nat) :List Br:=
 let s:=c.lineSec line
 let l:=(k.Lines[line]?).getD zLs
 opt (decide (0≤s) && (decide (l.Done > l.Ask) || (decide (l.Told > l.Grant) || ((a_z k s == -2) && (l.Ask != l.Done))))) ⟨6,-1,s⟩
def b_g (c:Cf)(k:Co) :Nat→List Br
 | 0=> []
 | j+1=>b_g c k j ++ u_x c k (j+1)
def Co.judge (c:Cf)(k:Co) :List Br:=
 if k.fits c=true then a_2 k c.Rts 0 ++ b_0 k k.Own 0 ++ a_t c k c.Rts 0 ++ a_0 c k c.Rts 0 ++ b_g c k 3 else [⟨1,-1,-1⟩]
theorem z_g (b:Bool)(x:Br) :(opt b x).length≤1:=by unfold opt;split <;> simp
theorem a_qa (k:Co)(r:Nat) :∀l:List St,(p_a k r l).length≤l.length
 | []=>by simp[p_a]
 | s::l=>by rw[p_a,List.length_append,List.length_cons];have:=z_g (a_z k s.Sec !=(r:Int) +1) ⟨2,r,s.Sec⟩;have:=a_qa k r l;omega
theorem s_s (k:Co) :∀(l:List Rt) (r:Nat),(∀x ∈ l,x.Path.length≤8)→(a_2 k l r).length≤8 * l.length
 | [],_,_=>by simp[a_2]
 | x::l,r,h=>by
   rw[a_2,List.length_append,List.length_cons]
   have h1:=a_qa k r (x.Path.drop (b_6 k r x.Path.length))
   have h2:=s_s k l (r+1) (fun y hy=>h y (by simp[hy]))
   have h3:=h x (by simp)
   rw[List.length_drop] at h1;omega
theorem a_bg (k:Co) :∀(l:List Int) (s:Nat),(b_0 k l s).length≤l.length
 | [],_=>by simp[b_0]
 | o::l,s=>by rw[b_0,List.length_append,List.length_cons];have:=z_g (decide (o > 0) && inL [0] (c_s k (o - 1))) ⟨3,o - 1,s⟩;have:=a_bg k l (s+1);omega
theorem a_kf (k:Co)(r:Nat) :∀l:List Nd,(e_s k r l).length≤l.length
 | []=>by simp[e_s]
 | n::l=>by rw[e_s,List.length_append,List.length_cons];have:=z_g ((a_z k n.Sec ==(r:Int) +1) && (d_c k.Points n.Sec != n.Pos)) ⟨4,r,n.Sec⟩;have:=a_kf k r l;omega
theorem m_2 (c:Cf)(k:Co) :∀(l:List Rt) (r:Nat),(∀x ∈ l,(c.needs x).length≤40)→(a_t c k l r).length≤40 * l.length
 | [],_,_=>by simp[a_t]
 | x::l,r,h=>by
   rw[a_t,List.length_append,List.length_cons]
   have h2:=m_2 c k l (r+1) (fun y hy=>h y (by simp[hy]))
   have h3:=h x (by simp)
   have h4:=a_kf k r (c.needs x)
   split <;> simp <;> omega
theorem a_j8 (c:Cf)(k:Co)(r:Nat) :∀l:List Int,(e_q c k r l).length≤l.length
 | []=>by simp[e_q]
 | i::l=>by rw[e_q,List.length_append,List.length_cons];have:=z_g ((a_z k (xAt c i) ==(r:Int) +1) && (d_c k.Xs i != 1)) ⟨5,r,xAt c i⟩;have:=a_j8 c k r l;omega
theorem p_p (c:Cf)(k:Co) :∀(l:List Rt) (r:Nat),c.Xs.length≤4→(a_0 c k l r).length≤4 * l.length
 | [],_,_=>by simp[a_0]
 | x::l,r,h=>by
   rw[a_0,List.length_append,List.length_cons]
   have h2:=p_p c k l (r+1) h
   have h4:=a_j8 c k r (a_9 x.Path c.Xs 0)
   have h5:=i_o x.Path c.Xs 0
   split <;> simp <;> omega
theorem h_3 (c:Cf)(k:Co) :∀j:Nat,(b_g c k j).length≤j
 | 0=>by simp[b_g]
 | j+1=>by rw[b_g,List.length_append];have:=h_3 c k j;have:(u_x c k (j+1)).length≤1:=z_g _ _;omega
theorem k_v {k:Co}{i:Int}{j:Nat}{x:Rs}(hi:i=j)(h:k.Routes[j]? =some x) :c_s k i=x.State∧s_f k i=x.Next:=by
 unfold c_s s_f;subst hi;rw[d_s,h];exact ⟨rfl,rfl⟩
theorem d_1 {k:Co}{i:Int}{j:Nat}{x:Int}(hi:i=j)(h:k.Own[j]? =some x) :a_z k i=x:=by unfold a_z;subst hi;rw[d_s,h];rfl
theorem k_e {l:List Mv}{i:Int}{j:Nat}{x:Mv}(hi:i=j)(h:l[j]? =some x) :d_c l i=x.Cmd:=by unfold d_c;subst hi;rw[d_s,h];rfl
theorem a_mw {c:Cf}{i:Int}{j:Nat}{x:Int}(hi:i=j)(h:c.Xs[j]? =some x) :xAt c i=x:=by unfold xAt;subst hi;rw[d_s,h];rfl
def ctr (d:D)(s:Store) :Nat:=
 match d with
 | .el (.osl i _ _) _ _=>match s i with
   | .live _ ((.int _ n::_) ::_)=>(4 - n).toNat
   | _=>0
 | _=>0
theorem a_u0 {s:Store}{i:Nat}{t:TypeId}{j:Nat}(h:s i= .live t [[iD j]]) :ctr (.el (.osl i 0 1) 0 0) s=4 - j:=by
 unfold ctr;simp only[h];omega
end
end Go.Fw
namespace Go.Proofs.YtdmfnhbmhkgemaaGreat
open Go.Fw Go.Proofs Go.RowKit
open Go.Proofs.Tryz (prog)
section
variable {σ:Store}
theorem g_w {d:D}{l:List Int}(v:Int)(h:At prog σ a_i d (l.map Go.Fw.encI)) :Pure prog c_b [.one d,iA v] σ (.a (bA (inL l v))):=by
 refine q_o d v σ _ ((j_s v h).use ⟨_,rfl,?_,rfl⟩)
 have key:∀(l:List Int) (j:Nat),decide (k_7 l v j≥0) =inL l v:=by
   intro l
   induction l with
   | nil=>intro j;simp[k_7,inL]
   | cons x r ih=>
     intro j
     rw[k_7]
     by_cases hx:v=x
     · rw[if_pos hx];simp[inL,hx]
     · rw[if_neg hx,ih,inL,inL];simp[hx]
 rw[key]
theorem h_m {α:Type}{a b t:List α}{n:Nat}(h:a ++ b=t)(ht:t.length≤n) :a.length≤n:=by
 have:=congrArg List.length h
 rw[List.length_append] at this;omega
section
variable {c0 c1 c2 c3 c4:D} {c:Cf} {k0 k1 k2 k3 k4 k5:D} {k:Co} {σ0:Store} {b:Bool} {id:Nat} {d:D} {out:List Br}
structure JAt (σ0 σ:Store) (id:Nat) (k0 k1 k2 k3 k4 k5:D) (b:Bool) (c0 c1 c2 c3 c4:D) (c:Cf) (d:D) (out:List Br) :Prop where
 new:σ0 id= .free
 row:σ id= .live m_6 [[k0,k1,k2,k3,k4,k5, .bool b,c0,c1,c2,c3,c4,iD c.Age,iD c.Brake,iD c.Hold,iD c.Budget,d]]
 own:Own prog σ0 σ a_q d (out.map Br.enc)
 ido:a_5 d≠some id
theorem JAt.ext' {σ':Store}(h:JAt σ0 σ id k0 k1 k2 k3 k4 k5 b c0 c1 c2 c3 c4 c d out)(he:Ext σ σ') :JAt σ0 σ' id k0 k1 k2 k3 k4 k5 b c0 c1 c2 c3 c4 c d out:=
 ⟨h.new,(he id (by rw[h.row];intro e;cases e)).trans h.row,h.own.ext' he,h.ido⟩
theorem c_0 (h:JAt σ0 σ id k0 k1 k2 k3 k4 k5 b c0 c1 c2 c3 c4 c d out)(hl:out.length≤2 ^ 30)(w:Bool)(x y z:Int) :
   DCalls prog a_s [.one (dp id),bA w,iA x,iA y,iA z] σ fun r s=>r= .tup []∧∃d',JAt σ0 s id k0 k1 k2 k3 k4 k5 b c0 c1 c2 c3 c4 c d' (out ++ opt w ⟨x,y,z⟩)∧
     (∀i,σ i≠ .free→i≠id→a_5 d≠some i→s i=σ i)∧∀i,a_5 d'=some i→σ i= .free∨a_5 d=some i:=by
 refine w_u (dp id) w x y z σ _ (bc (fun e=>?_) (fun e=>⟨rfl,d,by rw[opt,e];simpa using h,fun _ _ _ _=>rfl,fun _ h=> .inr h⟩))
 refine ⟨trivial,_,_,_,rfl,_,a_e h.row,d,rfl,a_d fun id2 s2 hid2 _ he2 hs2=>?_⟩
 have h2:=h.ext' he2
 refine h2.own.append (At.fresh hs2 (by simp) rfl) (by simp;omega) (by simp;omega) fun d4 s5 ho5 hk hd4=>?_
 have hr5:s5 id= .live m_6 [[k0,k1,k2,k3,k4,k5, .bool b,c0,c1,c2,c3,c4,iD c.Age,iD c.Brake,iD c.Hold,iD c.Budget,d]]:=
   (hk id (by rw[h2.row];intro e;cases e) fun a b e=>h2.ido (by rw[e];rfl)).trans h2.row
 have hid4:a_5 d4≠some id:=fun e=>by
   cases d4 with
   | osl i a n=>
     have e1:i=id:=by simpa[a_5] using e
     subst e1
     rcases hd4 i a n rfl with q | ⟨a2,b2,q⟩
     · rw[h2.row] at q;cases q
     · exact h2.ido (by rw[q];rfl)
   | _=>simp[a_5] at e
 refine ⟨trivial,_,_,_,rfl,b_i hr5 (by simp) fun s6 hs6 hs6'=>⟨rfl,d4,⟨h.new,hs6,?_,hid4⟩,fun i hi hne hd=>?_,fun i hi=>?_⟩⟩
 · have:=a_h ho5 h.new hid4 hs6'
   rw[opt,if_pos e,List.map_append];exact this
 · rw[hs6' i hne,hk i (by rw[he2 i hi];exact hi) fun a b e=>hd (by rw[e];rfl),he2 i hi]
 · cases d4 with
   | osl i' a n=>
     have e1:i'=i:=by simpa[a_5] using hi
     subst e1
     rcases hd4 i' a n rfl with q | ⟨a2,b2,q⟩
     · left
       by_cases hf:σ i'= .free
       · exact hf
       · have:=he2 i' hf;rw[q] at this;exact this.symm
     · right;rw[q];rfl
   | _=>simp[a_5] at hi
theorem l_w {e:D}{l:List Int}{r:Nat}{x:Rs}(h:JAt σ0 σ id k0 k1 k2 k3 k4 k5 b c0 c1 c2 c3 c4 c d out)(hk:CoAt σ k0 k1 k2 k3 k4 k5 k)(hx:k.Routes[r]? =some x)(hl:At prog σ a_i e (l.map Go.Fw.encI)) :
   Pure prog d_p [.one (dp id),iA r, .one e] σ (.a (bA (inL l (c_s k r)))):=by
 rw[(k_v rfl hx).1]
 exact a_bf (dp id) r e σ _ ⟨trivial,_,_,_,rfl,_,a_e h.row,k1,rfl,hk.routes.load (a_c hx) a_x rfl ⟨x.State,rfl,(g_w _ hl).use ⟨_,rfl,rfl,rfl⟩⟩⟩
theorem n_g {r:Nat}{x:Rs}(h:JAt σ0 σ id k0 k1 k2 k3 k4 k5 b c0 c1 c2 c3 c4 c d out)(hk:CoAt σ k0 k1 k2 k3 k4 k5 k)(hx:k.Routes[r]? =some x) :
   Pure prog d_x [.one (dp id),iA r] σ (.a (bA (d_y (c_s k r)))):=by
 refine .of (q_n (dp id) r σ _ (a_d fun id2 s2 hid2 _ he2 hs2=>?_)) (l_e _)
 exact (l_w (l:= [1,2,3]) (h.ext' he2) (hk.ext he2) hx (At.fresh hs2 (by simp) rfl)).use ⟨_,rfl,rfl,he2⟩
variable (hc:∀s,CfAt s c0 c1 c2 c3 c4 c) (hk:CoAt σ0 k0 k1 k2 k3 k4 k5 k) (hfit:k.fits c=true)
include hc hk hfit
theorem a_c9 (h:JAt σ0 σ id k0 k1 k2 k3 k4 k5 b c0 c1 c2 c3 c4 c d out)(hl:(out ++ (a_2 k c.Rts 0 ++ b_0 k k.Own 0)).length≤2 ^ 30) :
   DCalls prog d_9 [.one (dp id)] σ fun r s=>r= .tup []∧∃d',JAt σ0 s id k0 k1 k2 k3 k4 k5 b c0 c1 c2 c3 c4 c d' (out ++ (a_2 k c.Rts 0 ++ b_0 k k.Own 0)):=by
 obtain ⟨lo,lp,lr,lt,lx,ll⟩:=f_6 hfit
 have hck:=f_r hfit
 obtain ⟨_,s1,s2,s3,_,_⟩:=a_y hck
 obtain ⟨rows,hat,hlen,hrow⟩:=g_m fun s=>(hc s).rts
 refine q_2 (dp id) σ _ ⟨trivial,_,_,_,rfl,_,a_e h.row,c4,rfl,(hat σ).lenK ⟨fun n s=>∃d' out',JAt σ0 s id k0 k1 k2 k3 k4 k5 b c0 c1 c2 c3 c4 c d' out'∧Rng c.Rts (fun l=>out' ++ (a_2 k l n.toNat ++ b_0 k k.Own 0) =out ++ (a_2 k c.Rts 0 ++ b_0 k k.Own 0)) n,
   fun n _=>c.Rts.length - n.toNat,⟨d,out,h, .start rfl⟩,?_⟩⟩
 rintro n s ⟨d1,out1,h1,hr⟩
 refine bcd (fun hlt=>?_) (fun hge=>?_)
 · obtain ⟨j,x,rfl,hx,hj,hF,nx⟩:=hr.step hlen (by omega) hlt
   have hw:w64 ((j:Int) +1) =((j+1:Nat) :Int):=a_m (by omega)
   have hxo:=a_7 hck (List.mem_of_getElem? hx)
   obtain ⟨row,hrw⟩:=a_g (l:=rows) (j:=j) (by omega)
   obtain ⟨e1,e2,e3,rfl,q1,q2,q3⟩:=hrow j row x hrw hx
   obtain ⟨rs,hrs⟩:=a_g (l:=k.Routes) (j:=j) (by omega)
   have hst:=k_v (i:=j) rfl hrs
   rw[Int.toNat_natCast,a_2] at hF
   refine (hat s).load hrw c_p rfl ⟨_,_,e1,e2,e3,_,rfl,(q1 s).lenK ?_⟩
   rw[List.length_map]
   intro R hR
   have body : ∀ (fr : Nat) (s' : Store) (R1 : Store → Prop), fr = b_6 k j x.Path.length → JAt σ0 s' id k0 k1 k2 k3 k4 k5 b c0 c1 c2 c3 c4 c d1 out1 →
       ∃len3:Nat,IdxN prog s' e1 3 len3∧(0:Int)≤(fr:Int)∧(fr:Int)≤(len3:Int)∧∃len4:Nat,Len (g_i e1 (Int.toNat fr) len3) len4∧∃I1:Int→Store→Prop,∃μ1:Int→Store→Nat,I1 0 s'∧∀n5:Int,∀s3:Store,I1 n5 s3→
         a_b (decide (n5 < (len4:Int))) (∃len5:Nat,Idx prog s3 (g_i e1 (Int.toNat fr) len3) 3 len5∧(0:Int)≤n5∧n5 < (len5:Int)∧∃row2:List D,Row s3 (g_i e1 (Int.toNat fr) len3) (Int.toNat n5) row2∧∃n6 n7 n8:Int,List.take 3 row2=[iD n6,iD n7,iD n8]∧a_f (dp id)∧
           ∃s1:D,∃i1 off1:Nat,dp id= .el s1 i1 off1∧∃row3:List D,Row s3 s1 i1 row3∧∃d4:D,List.take 1 (List.drop ((off1+0) +0) row3) =[d4]∧∃len6:Nat,Idx prog s3 d4 1 len6∧(0:Int)≤n6∧n6 < (len6:Int)∧∃row4:List D,Row s3 d4 (Int.toNat n6) row4∧∃n9:Int,List.take 1 row4=[iD n9]∧
           DCalls prog a_s [.one (dp id),bA (n9 != w64 ((j:Int) +1)),iA 2,iA j,iA n6] s3 fun r s4=>r= .tup []∧I1 (w64 (n5+1)) s4∧μ1 (w64 (n5+1)) s4 < μ1 n5 s3)
         ((fun (n:Int) (s:Store)=>∃d' out',JAt σ0 s id k0 k1 k2 k3 k4 k5 b c0 c1 c2 c3 c4 c d' out'∧Rng c.Rts (fun l=>out' ++ (a_2 k l n.toNat ++ b_0 k k.Own 0) =out ++ (a_2 k c.Rts 0 ++ b_0 k k.Own 0)) n) (w64 ((j:Int) +1)) s3∧c.Rts.length - (w64 ((j:Int) +1)).toNat < c.Rts.length - (j:Int).toNat):=by
     intro fr s' R1 hfr h'
     have hfl:fr≤x.Path.length:=by
       subst hfr;unfold b_6
       split
       · omega
       · split
         · rw[hst.2]
           have:=hfit
           simp only[Co.fits,Co.parts,Bool.and_eq_true] at this
           have hz:=List.all_eq_true.1 this.2.2.2.1 (rs,x) (List.mem_of_getElem? (i:=j) (by rw[List.getElem?_zip_eq_some];exact ⟨hrs,hx⟩))
           simp only[Rs.fits,Bool.and_eq_true,decide_eq_true_eq] at hz
           omega
         · omega
     rw[←hfr] at hF
     have hps:=(q1 s').size
     rw[List.length_map] at hps
     refine (q1 s').sliceFromK g_f rfl (by rw[List.length_map];exact hfl) ?_
     have hsub:=fun s=>(q1 s).sub (lo:=fr) (hi:=x.Path.length) hfl (by simp)
     rw[List.length_map]
     have es:∀s,At prog s d_0 (g_i e1 fr x.Path.length) ((x.Path.drop fr).map St.enc):=fun s=>by
       have:=hsub s
       rw[List.take_of_length_le (by simp),←List.map_drop] at this
       exact this
     rw[Int.toNat_natCast]
     have hdl:(x.Path.drop fr).length < 2 ^ 60:=by rw[List.length_drop];omega
     refine (es s').lenK ⟨fun m s=>∃d' out',JAt σ0 s id k0 k1 k2 k3 k4 k5 b c0 c1 c2 c3 c4 c d' out'∧Rng (x.Path.drop fr) (fun l=>out' ++ (p_a k j l ++ (a_2 k (c.Rts.drop (j+1)) (j+1) ++ b_0 k k.Own 0)) =out ++ (a_2 k c.Rts 0 ++ b_0 k k.Own 0)) m,
       fun m _=>(x.Path.drop fr).length - m.toNat,⟨d1,out1,h', .start (by rw[List.append_assoc] at hF;exact hF)⟩,?_⟩
     rintro m s3 ⟨d2,out2,h2,hr2⟩
     refine bcd (fun hlt2=>?_) (fun hge2=>?_)
     · obtain ⟨j2,y,rfl,hy,hj2,hF2,nx2⟩:=hr2.step (by simp) hdl hlt2
       have hys:=(hxo.step y (List.mem_of_mem_drop (List.mem_of_getElem? hy))).1
       obtain ⟨z,hz,_⟩:=hys.sec
       have hzg:=a_l hz
       obtain ⟨o,ho⟩:=a_g (l:=k.Own) (j:=y.Sec.toNat) (by omega)
       rw[p_a,List.append_assoc] at hF2
       have hol:=h_m hF2 hl
       have hoa:=d_1 (i:=y.Sec) (j:=y.Sec.toNat) (by omega) ho
       refine (es s3).load (a_c hy) g_f rfl ⟨y.Sec,y.In,y.Out,rfl,trivial,_,_,_,rfl,_,a_e h2.row,k0,rfl,(hk.ext h2.own.ext).own.load (a_c ho) c_int (by omega) ⟨o,rfl,(c_0 h2 hol _ _ _ _).mono ?_⟩⟩
       rintro r s4 ⟨rfl,d3,h3,_⟩
       have:=nx2 (fun l=>(out2 ++ opt (o != w64 ((j:Int) +1)) ⟨2,j,y.Sec⟩) ++ (p_a k j l ++ (a_2 k (c.Rts.drop (j+1)) (j+1) ++ b_0 k k.Own 0)) =out ++ (a_2 k c.Rts 0 ++ b_0 k k.Own 0)) (by
         rw[List.append_assoc,hw]
         rw[hoa] at hF2
         exact hF2)
       exact ⟨rfl,⟨d3,_,h3,this.1⟩,this.2⟩
     · have hF2:=hr2.done (by simp) hge2
       rw[p_a,List.nil_append] at hF2
       have:=nx (fun l=>out2 ++ (a_2 k l (w64 ((j:Int) +1)).toNat ++ b_0 k k.Own 0) =out ++ (a_2 k c.Rts 0 ++ b_0 k k.Own 0)) (by rw[hw,Int.toNat_natCast];exact hF2)
       exact ⟨⟨d2,out2,h2,this.1⟩,this.2⟩
   have main:∀(n3:Int) (s':Store),(inL [4,5] (c_s k j) =false→n3=(b_6 k j x.Path.length:Int))→JAt σ0 s' id k0 k1 k2 k3 k4 k5 b c0 c1 c2 c3 c4 c d1 out1→(inL [4,5] (c_s k j) =true→d_y (c_s k j) =false)→R n3 s':=by
     intro n3 s' hn3 h' hex
     refine hR n3 s' ?_
     intro R1 hR1
     have hfits2:=hfit
     simp only[Co.fits,Co.parts,Bool.and_eq_true] at hfits2
     have hz:=List.all_eq_true.1 hfits2.2.2.2.1 (rs,x) (List.mem_of_getElem? (i:=j) (by rw[List.getElem?_zip_eq_some];exact ⟨hrs,hx⟩))
     simp only[Rs.fits,Bool.and_eq_true,decide_eq_true_eq] at hz
     refine a_d fun id2 s2 hid2 _ he2 hs2=>(l_w (l:= [4,5]) (h'.ext' he2) ((hk.ext h'.own.ext).ext he2) hrs (At.fresh hs2 (by simp) rfl)).use ⟨_,rfl,bc (fun e=>?_) (fun e=>⟨rfl,?_⟩)⟩
     · refine ⟨trivial,_,_,_,rfl,_,a_e (h'.ext' he2).row,k1,rfl,((hk.ext h'.own.ext).ext he2).routes.load (a_c hrs) a_x rfl ⟨rs.Next,rfl,rfl,?_⟩⟩
       obtain ⟨fr,hfr⟩ :∃fr:Nat,rs.Next=fr:=⟨rs.Next.toNat,by omega⟩
       rw[hfr]
       exact hR1 _ _ (body fr s2 (fun _=>True) (by unfold b_6;rw[if_neg (by rw[hex e];simp),if_pos e,hst.2,hfr,Int.toNat_natCast]) (h'.ext' he2))
     · have:=hn3 e
       subst this
       exact hR1 _ _ (body _ s2 (fun _=>True) rfl (h'.ext' he2))
   have dis:inL [4,5] (c_s k j) =true→d_y (c_s k j) =false:=fun e=>by
     simp[inL] at e
     rcases e with e | e <;> rw[e] <;> rfl
   refine (n_g h1 (hk.ext h1.own.ext) hrs).use ⟨_,rfl,bc (fun e=>⟨rfl,main 0 s (fun _=>by unfold b_6;rw[if_pos e];rfl) h1 dis⟩) (fun e=>⟨rfl,main _ s (fun e2=>by unfold b_6;rw[if_neg (by rw[e];simp),if_neg (by rw[e2];simp)]) h1 dis⟩)⟩
 · have hF:=hr.done hlen hge
   rw[a_2,List.nil_append] at hF
   refine ⟨trivial,_,_,_,rfl,_,a_e h1.row,k0,rfl,(hk.ext h1.own.ext).own.lenK ⟨fun n s=>∃d' out',JAt σ0 s id k0 k1 k2 k3 k4 k5 b c0 c1 c2 c3 c4 c d' out'∧Rng k.Own (fun l=>out' ++ b_0 k l n.toNat=out ++ (a_2 k c.Rts 0 ++ b_0 k k.Own 0)) n,
     fun n _=>k.Own.length - n.toNat,⟨d1,out1,h1, .start hF⟩,?_⟩⟩
   rintro m s3 ⟨d2,out2,h2,hr2⟩
   refine bcd (fun hlt2=>?_) (fun hge2=>?_)
   · obtain ⟨j2,o,rfl,ho,hj2,hF2,nx2⟩:=hr2.step (by simp) (by omega) hlt2
     have hw:w64 ((j2:Int) +1) =((j2+1:Nat) :Int):=a_m (by omega)
     have hfits2:=hfit
     simp only[Co.fits,Co.parts,Bool.and_eq_true] at hfits2
     have hz:=of_decide_eq_true (List.all_eq_true.1 hfits2.2.2.1 o (List.mem_of_getElem? ho))
     rw[Int.toNat_natCast,b_0] at hF2
     have hol:=h_m hF2 hl
     have go : ∀ d3 s4, JAt σ0 s4 id k0 k1 k2 k3 k4 k5 b c0 c1 c2 c3 c4 c d3 (out2 ++ opt (decide (o > 0) && inL [0] (c_s k (o - 1))) ⟨3, o - 1, j2⟩) →
         (∃d' out',JAt σ0 s4 id k0 k1 k2 k3 k4 k5 b c0 c1 c2 c3 c4 c d' out'∧Rng k.Own (fun l=>out' ++ b_0 k l (w64 ((j2:Int) +1)).toNat=out ++ (a_2 k c.Rts 0 ++ b_0 k k.Own 0)) (w64 ((j2:Int) +1)))∧k.Own.length - (w64 ((j2:Int) +1)).toNat < k.Own.length - (j2:Int).toNat:=fun d3 s4 h3=>by
       have:=nx2 (fun l=>(out2 ++ opt (decide (o > 0) && inL [0] (c_s k (o - 1))) ⟨3,o - 1,j2⟩) ++ b_0 k l (w64 ((j2:Int) +1)).toNat=out ++ (a_2 k c.Rts 0 ++ b_0 k k.Own 0)) (by
         rw[List.append_assoc,hw,Int.toNat_natCast];exact hF2)
       exact ⟨⟨d3,_,h3,this.1⟩,this.2⟩
     have hm:w64 (o - 1) =o - 1:=a_w (by omega) (by omega)
     refine (hk.ext h2.own.ext).own.load (a_c ho) c_int rfl ⟨o,rfl,bcd (fun e=>?_) (fun e=>?_)⟩
     · obtain ⟨jr,hjr⟩ :∃jr:Nat,o - 1=jr:=⟨(o - 1).toNat,by omega⟩
       obtain ⟨rs,hrs⟩:=a_g (l:=k.Routes) (j:=jr) (by omega)
       rw[hm]
       refine a_d fun id2 s2 hid2 _ he2 hs2=>?_
       rw[hjr] at go ⊢
       refine (l_w (l:= [0]) (h2.ext' he2) ((hk.ext h2.own.ext).ext he2) hrs (At.fresh hs2 (by simp) rfl)).use ⟨_,rfl,(c_0 (h2.ext' he2) hol _ _ _ _).mono ?_⟩
       rintro r s4 ⟨rfl,d3,h3,_⟩
       rw[decide_eq_true e,Bool.true_and] at go
       exact ⟨rfl,go d3 s4 h3⟩
     · rw[hm]
       refine (c_0 h2 hol _ _ _ _).mono ?_
       rintro r s4 ⟨rfl,d3,h3,_⟩
       rw[decide_eq_false e,Bool.false_and] at go
       exact ⟨rfl,go d3 s4 h3⟩
   · have hF2:=hr2.done (by simp) hge2
     rw[b_0,List.append_nil] at hF2
     exact ⟨rfl,d2,hF2 ▸ h2⟩
theorem a_d6 (h:JAt σ0 σ id k0 k1 k2 k3 k4 k5 b c0 c1 c2 c3 c4 c d out)(hl:(out ++ a_t c k c.Rts 0).length≤2 ^ 30) :
   DCalls prog d_4 [.one (dp id)] σ fun r s=>r= .tup []∧∃d',JAt σ0 s id k0 k1 k2 k3 k4 k5 b c0 c1 c2 c3 c4 c d' (out ++ a_t c k c.Rts 0):=by
 obtain ⟨lo,lp,lr,lt,lx,ll⟩:=f_6 hfit
 have hck:=f_r hfit
 obtain ⟨_,s1,s2,s3,_,_⟩:=a_y hck
 obtain ⟨rows,hat,hlen,hrow⟩:=g_m fun s=>(hc s).rts
 refine s_a (dp id) σ _ ⟨trivial,_,_,_,rfl,_,a_e h.row,c4,rfl,(hat σ).lenK ⟨fun n s=>∃d' out',JAt σ0 s id k0 k1 k2 k3 k4 k5 b c0 c1 c2 c3 c4 c d' out'∧Rng c.Rts (fun l=>out' ++ a_t c k l n.toNat=out ++ a_t c k c.Rts 0) n,
   fun n _=>c.Rts.length - n.toNat,⟨d,out,h, .start rfl⟩,?_⟩⟩
 rintro n s ⟨d1,out1,h1,hr⟩
 refine bcd (fun hlt=>?_) (fun hge=>?_)
 · obtain ⟨j,x,rfl,hx,hj,hF,nx⟩:=hr.step hlen (by omega) hlt
   have hw:w64 ((j:Int) +1) =((j+1:Nat) :Int):=a_m (by omega)
   have hxo:=a_7 hck (List.mem_of_getElem? hx)
   obtain ⟨rs,hrs⟩:=a_g (l:=k.Routes) (j:=j) (by omega)
   rw[Int.toNat_natCast,a_t] at hF
   have fin : ∀ d2 out2 s2, JAt σ0 s2 id k0 k1 k2 k3 k4 k5 b c0 c1 c2 c3 c4 c d2 out2 → out2 ++ a_t c k (c.Rts.drop (j + 1)) (j + 1) = out ++ a_t c k c.Rts 0 →
       (∃d' out',JAt σ0 s2 id k0 k1 k2 k3 k4 k5 b c0 c1 c2 c3 c4 c d' out'∧Rng c.Rts (fun l=>out' ++ a_t c k l (w64 ((j:Int) +1)).toNat=out ++ a_t c k c.Rts 0) (w64 ((j:Int) +1)))∧c.Rts.length - (w64 ((j:Int) +1)).toNat < c.Rts.length - (j:Int).toNat:=fun d2 out2 s2 h2 he=>by
     have:=nx (fun l=>out2 ++ a_t c k l (w64 ((j:Int) +1)).toNat=out ++ a_t c k c.Rts 0) (by rw[hw,Int.toNat_natCast];exact he)
     exact ⟨⟨d2,out2,h2,this.1⟩,this.2⟩
   refine (n_g h1 (hk.ext h1.own.ext) hrs).use ⟨_,rfl,a_p (fun e=>fin _ _ _ h1 (by rw[if_neg (by rw[e];simp)] at hF;exact hF)) (fun e=>?_)⟩
   rw[if_pos e] at hF
   have hrt:c.rt j=x:=b_j (by rw[d_s];exact hx)
   refine ⟨trivial,_,_,_,rfl,_,a_e h1.row,c0,c1,c2,c3,c4,_,_,_,_,rfl,(k_y hc j (by rw[hrt];have:=hxo.len;omega) (by rw[hrt];have:=hxo.flen;omega)).mono ?_⟩
   rintro r s2 ⟨rfl,e1,rfl,q1⟩
   rw[Cf.Needs,hrt] at q1
   have hnl:(c.needs x).length≤40:=by have:=k_m c x;have:=hxo.len;have:=hxo.flen;omega
   refine ⟨e1,rfl,(q1 s2).lenK ⟨fun m s=>∃d' out',JAt σ0 s id k0 k1 k2 k3 k4 k5 b c0 c1 c2 c3 c4 c d' out'∧Rng (c.needs x) (fun l=>out' ++ (e_s k j l ++ a_t c k (c.Rts.drop (j+1)) (j+1)) =out ++ a_t c k c.Rts 0) m,
     fun m _=>(c.needs x).length - m.toNat,⟨d1,out1,h1, .start hF⟩,?_⟩⟩
   rintro m s3 ⟨d2,out2,h2,hr2⟩
   rw[List.length_map]
   refine bcd (fun hlt2=>?_) (fun hge2=>?_)
   · obtain ⟨j2,y,rfl,hy,hj2,hF2,nx2⟩:=hr2.step rfl (by omega) hlt2
     obtain ⟨⟨z,hz⟩,_⟩:=k_h hxo (List.mem_of_getElem? hy)
     have hzg:=a_l hz
     obtain ⟨o,ho⟩:=a_g (l:=k.Own) (j:=y.Sec.toNat) (by omega)
     obtain ⟨mv,hmv⟩:=a_g (l:=k.Points) (j:=y.Sec.toNat) (by omega)
     rw[e_s,List.append_assoc] at hF2
     have hol:=h_m hF2 hl
     rw[d_1 (i:=y.Sec) (j:=y.Sec.toNat) (by omega) ho,k_e (i:=y.Sec) (j:=y.Sec.toNat) (by omega) hmv] at hF2
     have go : ∀ w d3 s4, w = ((o == (j : Int) + 1) && (mv.Cmd != y.Pos)) → JAt σ0 s4 id k0 k1 k2 k3 k4 k5 b c0 c1 c2 c3 c4 c d3 (out2 ++ opt w ⟨4, j, y.Sec⟩) →
         (∃d' out',JAt σ0 s4 id k0 k1 k2 k3 k4 k5 b c0 c1 c2 c3 c4 c d' out'∧Rng (c.needs x) (fun l=>out' ++ (e_s k j l ++ a_t c k (c.Rts.drop (j+1)) (j+1)) =out ++ a_t c k c.Rts 0) (w64 ((j2:Int) +1)))∧(c.needs x).length - (w64 ((j2:Int) +1)).toNat < (c.needs x).length - (j2:Int).toNat:=fun w d3 s4 hw h3=>by
       subst hw
       have:=nx2 (fun l=>(out2 ++ opt ((o ==(j:Int) +1) && (mv.Cmd != y.Pos)) ⟨4,j,y.Sec⟩) ++ (e_s k j l ++ a_t c k (c.Rts.drop (j+1)) (j+1)) =out ++ a_t c k c.Rts 0) (by
         rw[List.append_assoc];exact hF2)
       exact ⟨⟨d3,_,h3,this.1⟩,this.2⟩
     have hk2:=hk.ext h2.own.ext
     refine (q1 s3).load (a_c hy) m_m rfl ⟨y.Sec,y.Pos,rfl,trivial,_,_,_,rfl,_,a_e h2.row,k0,rfl,hk2.own.load (a_c ho) c_int (by omega) ⟨o,rfl,?_⟩⟩
     rw[hw]
     refine bce (fun e=>⟨trivial,_,_,_,rfl,_,a_e h2.row,k2,rfl,hk2.points.load (a_c hmv) c_l (by omega) ⟨mv.Cmd,rfl,(c_0 h2 hol _ _ _ _).mono ?_⟩⟩) (fun e=>(c_0 h2 hol _ _ _ _).mono ?_)
     · rintro r s4 ⟨rfl,d3,h3,_⟩
       exact ⟨rfl,go _ d3 s4 (by rw[show (o ==(j:Int) +1) =true by simpa using e,Bool.true_and]) h3⟩
     · rintro r s4 ⟨rfl,d3,h3,_⟩
       exact ⟨rfl,go _ d3 s4 (by rw[show (o ==(j:Int) +1) =false by simpa using e,Bool.false_and]) h3⟩
   · have hF2:=hr2.done rfl hge2
     rw[e_s,List.nil_append] at hF2
     exact fin _ _ _ h2 hF2
 · have hF:=hr.done hlen hge
   rw[a_t,List.append_nil] at hF
   exact ⟨rfl,d1,hF ▸ h1⟩
theorem a_e5 (h:JAt σ0 σ id k0 k1 k2 k3 k4 k5 b c0 c1 c2 c3 c4 c d out)(hl:(out ++ a_0 c k c.Rts 0).length≤2 ^ 30) :
   DCalls prog e_i [.one (dp id)] σ fun r s=>r= .tup []∧∃d',JAt σ0 s id k0 k1 k2 k3 k4 k5 b c0 c1 c2 c3 c4 c d' (out ++ a_0 c k c.Rts 0):=by
 obtain ⟨lo,lp,lr,lt,lx,ll⟩:=f_6 hfit
 have hck:=f_r hfit
 obtain ⟨_,s1,s2,s3,_,_⟩:=a_y hck
 obtain ⟨rows,hat,hlen,hrow⟩:=g_m fun s=>(hc s).rts
 have hxs:=q_y hck
 refine u_g (dp id) σ _ ⟨trivial,_,_,_,rfl,_,a_e h.row,c4,rfl,(hat σ).lenK ⟨fun n s=>∃d' out',JAt σ0 s id k0 k1 k2 k3 k4 k5 b c0 c1 c2 c3 c4 c d' out'∧Rng c.Rts (fun l=>out' ++ a_0 c k l n.toNat=out ++ a_0 c k c.Rts 0) n,
   fun n _=>c.Rts.length - n.toNat,⟨d,out,h, .start rfl⟩,?_⟩⟩
 rintro n s ⟨d1,out1,h1,hr⟩
 refine bcd (fun hlt=>?_) (fun hge=>?_)
 · obtain ⟨j,x,rfl,hx,hj,hF,nx⟩:=hr.step hlen (by omega) hlt
   have hw:w64 ((j:Int) +1) =((j+1:Nat) :Int):=a_m (by omega)
   obtain ⟨rs,hrs⟩:=a_g (l:=k.Routes) (j:=j) (by omega)
   rw[Int.toNat_natCast,a_0] at hF
   have fin : ∀ d2 out2 s2, JAt σ0 s2 id k0 k1 k2 k3 k4 k5 b c0 c1 c2 c3 c4 c d2 out2 → out2 ++ a_0 c k (c.Rts.drop (j + 1)) (j + 1) = out ++ a_0 c k c.Rts 0 →
       (∃d' out',JAt σ0 s2 id k0 k1 k2 k3 k4 k5 b c0 c1 c2 c3 c4 c d' out'∧Rng c.Rts (fun l=>out' ++ a_0 c k l (w64 ((j:Int) +1)).toNat=out ++ a_0 c k c.Rts 0) (w64 ((j:Int) +1)))∧c.Rts.length - (w64 ((j:Int) +1)).toNat < c.Rts.length - (j:Int).toNat:=fun d2 out2 s2 h2 he=>by
     have:=nx (fun l=>out2 ++ a_0 c k l (w64 ((j:Int) +1)).toNat=out ++ a_0 c k c.Rts 0) (by rw[hw,Int.toNat_natCast];exact he)
     exact ⟨⟨d2,out2,h2,this.1⟩,this.2⟩
   refine a_d fun id2 s2 hid2 _ he2 hs2=>(l_w (l:= [0]) (h1.ext' he2) ((hk.ext h1.own.ext).ext he2) hrs (At.fresh hs2 (by simp) rfl)).use ⟨_,rfl,bc (fun e=>fin _ _ _ (h1.ext' he2) (by rw[if_pos e] at hF;exact hF)) (fun e=>?_)⟩
   rw[if_neg (by rw[e];simp)] at hF
   have h1':=h1.ext' he2
   have hrt:c.rt j=x:=b_j (by rw[d_s];exact hx)
   refine ⟨trivial,_,_,_,rfl,_,a_e h1'.row,c0,c1,c2,c3,c4,_,_,_,_,rfl,(g_8 hc j (by omega)).mono ?_⟩
   rintro r s2 ⟨rfl,e1,rfl,q1⟩
   rw[Cf.Cross,hrt] at q1
   have hnl:=i_o x.Path c.Xs 0
   have hmem:=f_y x.Path c.Xs 0
   generalize a_9 x.Path c.Xs 0=cr at *
   refine ⟨e1,rfl,(q1 s2).lenK ⟨fun m s=>∃d' out',JAt σ0 s id k0 k1 k2 k3 k4 k5 b c0 c1 c2 c3 c4 c d' out'∧Rng cr (fun l=>out' ++ (e_q c k j l ++ a_0 c k (c.Rts.drop (j+1)) (j+1)) =out ++ a_0 c k c.Rts 0) m,
     fun m _=>cr.length - m.toNat,⟨d1,out1,h1', .start hF⟩,?_⟩⟩
   rintro m s3 ⟨d2,out2,h2,hr2⟩
   rw[List.length_map]
   refine bcd (fun hlt2=>?_) (fun hge2=>?_)
   · obtain ⟨j2,y,rfl,hy,hj2,hF2,nx2⟩:=hr2.step rfl (by omega) hlt2
     obtain ⟨jx,sx,rfl,hsx,_⟩:=hmem y (List.mem_of_getElem? hy)
     rw[Nat.zero_add] at *
     obtain ⟨z,hz,_⟩:=hxs.1 sx (List.mem_of_getElem? hsx)
     have hzg:=a_l hz
     have hjx:=(List.getElem?_eq_some_iff.1 hsx).1
     obtain ⟨o,ho⟩:=a_g (l:=k.Own) (j:=sx.toNat) (by omega)
     obtain ⟨mv,hmv⟩:=a_g (l:=k.Xs) (j:=jx) (by omega)
     rw[e_q,List.append_assoc] at hF2
     have hol:=h_m hF2 hl
     rw[a_mw (i:=jx) rfl hsx,d_1 (i:=sx) (j:=sx.toNat) (by omega) ho,k_e (i:=jx) rfl hmv] at hF2
     have go : ∀ w d3 s4, w = ((o == (j : Int) + 1) && (mv.Cmd != 1)) → JAt σ0 s4 id k0 k1 k2 k3 k4 k5 b c0 c1 c2 c3 c4 c d3 (out2 ++ opt w ⟨5, j, sx⟩) →
         (∃d' out',JAt σ0 s4 id k0 k1 k2 k3 k4 k5 b c0 c1 c2 c3 c4 c d' out'∧Rng cr (fun l=>out' ++ (e_q c k j l ++ a_0 c k (c.Rts.drop (j+1)) (j+1)) =out ++ a_0 c k c.Rts 0) (w64 ((j2:Int) +1)))∧cr.length - (w64 ((j2:Int) +1)).toNat < cr.length - (j2:Int).toNat:=fun w d3 s4 hw h3=>by
       subst hw
       have:=nx2 (fun l=>(out2 ++ opt ((o ==(j:Int) +1) && (mv.Cmd != 1)) ⟨5,j,sx⟩) ++ (e_q c k j l ++ a_0 c k (c.Rts.drop (j+1)) (j+1)) =out ++ a_0 c k c.Rts 0) (by
         rw[List.append_assoc];exact hF2)
       exact ⟨⟨d3,_,h3,this.1⟩,this.2⟩
     have hk2:=hk.ext h2.own.ext
     refine (q1 s3).load (a_c hy) c_int rfl ⟨jx,rfl,trivial,_,_,_,rfl,_,a_e h2.row,c3,rfl,(hc s3).xs.load (a_c hsx) c_int rfl ⟨sx,rfl,trivial,_,_,_,rfl,_,a_e h2.row,k0,rfl,hk2.own.load (a_c ho) c_int (by omega) ⟨o,rfl,?_⟩⟩⟩
     rw[hw]
     refine bce (fun e=>⟨trivial,_,_,_,rfl,_,a_e h2.row,k3,rfl,hk2.xs.load (a_c hmv) c_l rfl ⟨mv.Cmd,rfl,(c_0 h2 hol _ _ _ _).mono ?_⟩⟩) (fun e=>(c_0 h2 hol _ _ _ _).mono ?_)
     · rintro r s4 ⟨rfl,d3,h3,_⟩
       exact ⟨rfl,go _ d3 s4 (by rw[show (o ==(j:Int) +1) =true by simpa using e,Bool.true_and]) h3⟩
     · rintro r s4 ⟨rfl,d3,h3,_⟩
       exact ⟨rfl,go _ d3 s4 (by rw[show (o ==(j:Int) +1) =false by simpa using e,Bool.false_and]) h3⟩
   · have hF2:=hr2.done rfl hge2
     rw[e_q,List.nil_append] at hF2
     exact fin _ _ _ h2 hF2
 · have hF:=hr.done hlen hge
   rw[a_0,List.append_nil] at hF
   exact ⟨rfl,d1,hF ▸ h1⟩
end
end
section
variable {σ:Store}
section
variable {c0 c1 c2 c3 c4:D} {c:Cf} {k0 k1 k2 k3 k4 k5:D} {k:Co} {σ0:Store} {b:Bool} {id:Nat} {d:D} {out:List Br}
 (hc:∀s,CfAt s c0 c1 c2 c3 c4 c)
include hc
theorem a_f2 (hk:CoAt σ0 k0 k1 k2 k3 k4 k5 k)(hfit:k.fits c=true)(h:JAt σ0 σ id k0 k1 k2 k3 k4 k5 b c0 c1 c2 c3 c4 c d out)(hl:out.length≤2 ^ 20) :
   DCalls prog e_j [.one (dp id)] σ fun r s=>r= .tup []∧∃d',JAt σ0 s id k0 k1 k2 k3 k4 k5 b c0 c1 c2 c3 c4 c d' (out ++ b_g c k 3):=by
 obtain ⟨lo,lp,lr,lt,lx,ll⟩:=f_6 hfit
 have hid:=h.row
 refine t_9 (dp id) σ _ (a_d fun ia sa hia _ hea hsa=>n_7 hsa fun sb hsb hsb'=>?_)
 have heb:Ext σ sb:=fun i hi=>by rw[hsb' i (fun e=>hi (by rw[e];exact hia))];exact hea i hi
 have hne:ia≠id:=fun e=>by rw[e,hid] at hia;cases hia
 have hda:a_5 d≠some ia:=fun e=>by
   cases d with
   | osl i a n=>
     have e1:i=ia:=by simpa[a_5] using e
     subst e1
     obtain ⟨t,rows,g1,_⟩:=h.own.at_.rows
     rw[hia] at g1;cases g1
   | _=>simp[a_5] at e
 refine ⟨fun d s=>∃(ic j:Nat) (d':D),d=dp ic∧1≤j∧j≤4∧s ic= .live a_i [[iD j]]∧ic≠id∧a_5 d'≠some ic∧JAt σ0 s id k0 k1 k2 k3 k4 k5 b c0 c1 c2 c3 c4 c d' (out ++ b_g c k (j - 1)),ctr,
   ⟨ia,1,d,rfl,by omega,by omega,hsb,hne,hda,by simpa[b_g] using h.ext' heb⟩,?_⟩
 rintro _ s ⟨ic,j,d1,rfl,hj1,hj4,hic,hne,hd1,h1⟩
 refine ⟨_,_,_,rfl,_,a_e hic,j,rfl,bcd (fun hlt=>?_) (fun hge=>⟨rfl,d1,by rw[show j - 1=3 by omega] at h1;exact h1⟩)⟩
 obtain ⟨j',rfl⟩ :∃j':Nat,j=j'+1:=⟨j - 1,by omega⟩
 rw[Nat.add_sub_cancel] at h1
 have hol:(out ++ b_g c k j').length≤2 ^ 30:=by rw[List.length_append];have:=h_3 c k j';omega
 have next : ∀ (s3 : Store) (d3 : D), JAt σ0 s3 id k0 k1 k2 k3 k4 k5 b c0 c1 c2 c3 c4 c d3 (out ++ b_g c k (j' + 1)) → s3 ic = .live a_i [[iD ((j' + 1 : Nat) : Int)]] →
     ∃s2:D,∃i2 off2:Nat,dp ic= .el s2 i2 off2∧∃row2:List D,Row s3 s2 i2 row2∧∃n2:Int,List.take 1 (List.drop off2 row2) =[iD n2]∧Fw.newObj s3 (.live a_i [[iD 0]]) fun id1 σ4=>a_j [iD n2] σ4 (.osl id1 0 1) 0 0 fun σ5=>∃row3:List D,Row σ5 (.osl id1 0 1) 0 row3∧∃n3:Int,List.take 1 row3=[iD n3]∧a_j [iD (w64 (n3+1))] σ5 (.osl id1 0 1) 0 0 fun σ6=>
       (∃(ic j:Nat) (d':D),D.el (.osl id1 0 1) 0 0=dp ic∧1≤j∧j≤4∧σ6 ic= .live a_i [[iD j]]∧ic≠id∧a_5 d'≠some ic∧JAt σ0 σ6 id k0 k1 k2 k3 k4 k5 b c0 c1 c2 c3 c4 c d' (out ++ b_g c k (j - 1)))∧ctr (.el (.osl id1 0 1) 0 0) σ6 < ctr (dp ic) s:=by
   intro s3 d3 h3 hc3
   refine ⟨_,_,_,rfl,_,a_e hc3,_,rfl,a_d fun i4 s4 hi4 _ he4 hs4=>n_7 hs4 fun s5 hs5 hs5'=>⟨_,a_e hs5,_,rfl,n_7 hs5 fun s6 hs6 hs6'=>?_⟩⟩
   have he6:Ext s3 s6:=fun i hi=>by
     have hne:i≠i4:=fun e=>hi (by rw[e];exact hi4)
     rw[hs6' i hne,hs5' i hne];exact he4 i hi
   rw[a_w (n:=((j'+1:Nat) :Int) +1) (by omega) (by omega)] at hs6
   have hs6:s6 i4= .live a_i [[iD ((j'+2:Nat) :Int)]]:=by rw[hs6];congr 3
   refine ⟨⟨i4,j'+2,d3,rfl,by omega,by omega,hs6,fun e=>?_,fun e=>?_,h3.ext' he6⟩,?_⟩
   · rw[e,h3.row] at hi4;cases hi4
   · cases d3 with
     | osl i a n=>
       have e1:i=i4:=by simpa[a_5] using e
       subst e1
       obtain ⟨t,rows,g1,_⟩:=h3.own.at_.rows
       rw[hi4] at g1;cases g1
     | _=>simp[a_5] at e
   · rw[a_u0 hs6,a_u0 hic];omega
 have note : ∀ (w : Bool) (si : Int), opt w ⟨6, -1, si⟩ = u_x c k (j' + 1) → DCalls prog a_s [.one (dp id), bA w, iA 6, iA (-1), iA si] s fun r s3 => r = .tup [] ∧
     ∃s2:D,∃i2 off2:Nat,dp ic= .el s2 i2 off2∧∃row2:List D,Row s3 s2 i2 row2∧∃n2:Int,List.take 1 (List.drop off2 row2) =[iD n2]∧Fw.newObj s3 (.live a_i [[iD 0]]) fun id1 σ4=>a_j [iD n2] σ4 (.osl id1 0 1) 0 0 fun σ5=>∃row3:List D,Row σ5 (.osl id1 0 1) 0 row3∧∃n3:Int,List.take 1 row3=[iD n3]∧a_j [iD (w64 (n3+1))] σ5 (.osl id1 0 1) 0 0 fun σ6=>
       (∃(ic j:Nat) (d':D),D.el (.osl id1 0 1) 0 0=dp ic∧1≤j∧j≤4∧σ6 ic= .live a_i [[iD j]]∧ic≠id∧a_5 d'≠some ic∧JAt σ0 σ6 id k0 k1 k2 k3 k4 k5 b c0 c1 c2 c3 c4 c d' (out ++ b_g c k (j - 1)))∧ctr (.el (.osl id1 0 1) 0 0) σ6 < ctr (dp ic) s:=by
   intro w si hw
   refine (c_0 h1 hol w 6 (-1) si).mono ?_
   rintro r s4 ⟨rfl,d3,h3,hf,_⟩
   rw[hw,List.append_assoc] at h3
   exact ⟨rfl,next s4 d3 h3 ((hf ic (by rw[hic];intro e;cases e) hne hd1).trans hic)⟩
 have hls:c.lineSec ((j'+1:Nat) :Int) =d_z (fun x:Sec=>x.Line ==((j'+1:Nat) :Int)) c.Secs 0:=if_neg (by omega)
 have hlb:∀x:Ls,k.Lines[j'+1]? =some x→u_x c k (j'+1) =opt (decide (0≤c.lineSec ((j'+1:Nat) :Int)) && (decide (x.Done > x.Ask) || (decide (x.Told > x.Grant) || ((a_z k (c.lineSec ((j'+1:Nat) :Int)) == -2) && (x.Ask != x.Done))))) ⟨6,-1,c.lineSec ((j'+1:Nat) :Int)⟩:=fun x hx=>by
   unfold u_x;simp only[hx,Option.getD_some]
 have hk1:=hk.ext h1.own.ext
 refine ⟨trivial,_,_,_,rfl,_,a_e h1.row,c0,rfl,(i_6 (p:=fun x=>x.Line ==((j'+1:Nat) :Int)) (hc s).secs (a_ge hic fun x _=>p_9 x.Kind x.OC x.Line _ s _ ⟨_,_,_,rfl,_,a_e hic,_,rfl,rfl,rfl⟩)).use ⟨_,rfl,?_⟩⟩
 rw[←hls]
 obtain ⟨x,hx⟩:=a_g (l:=k.Lines) (j:=j'+1) (by omega)
 have hlb:=hlb x hx
 have hsb:=m_k c ((j'+1:Nat) :Int)
 generalize c.lineSec ((j'+1:Nat) :Int) =sec at hlb hsb ⊢
 refine bcd (fun e=>next s d1 (by rw[b_g,hlb,decide_eq_false (by omega),Bool.false_and];simpa[opt] using h1) hic) (fun e=>?_)
 rw[decide_eq_true (by omega),Bool.true_and] at hlb
 refine ⟨trivial,_,_,_,rfl,_,a_e h1.row,k4,rfl,_,_,_,rfl,_,a_e hic,_,rfl,hk1.lines.load (a_c hx) b_8 rfl ⟨x.Ask,x.Done,x.Grant,x.Told,x.PAsk,x.PDone,x.PGrant,x.Since,rfl,?_⟩⟩
 refine bcd (fun t1=>note true sec (by rw[hlb,decide_eq_true t1];rfl)) (fun t1=>bcd (fun t2=>note true sec (by rw[hlb,decide_eq_true t2,Bool.true_or,Bool.or_true])) (fun t2=>?_))
 rw[decide_eq_false t1,decide_eq_false t2,Bool.false_or,Bool.false_or] at hlb
 obtain ⟨o,ho⟩:=a_g (l:=k.Own) (j:=sec.toNat) (by omega)
 rw[d_1 (i:=sec) (j:=sec.toNat) (by omega) ho] at hlb
 refine ⟨trivial,_,_,_,rfl,_,a_e h1.row,k0,rfl,hk1.own.load (a_c ho) c_int (by omega) ⟨o,rfl,bce (fun t3=>note _ sec (by rw[hlb,show (o == -2) =true by simpa using t3,Bool.true_and])) (fun t3=>note _ sec (by rw[hlb,show (o == -2) =false by simpa using t3,Bool.false_and]))⟩⟩
theorem r_l (hk:CoAt σ k0 k1 k2 k3 k4 k5 k)(hb:b=k.Dirty) :
   DCalls prog f_b [cfA c0 c1 c2 c3 c4 c,coA k0 k1 k2 k3 k4 k5 b] σ fun r s=>∃d,r= .a (.one d)∧Own prog σ s a_q d ((k.judge c).map Br.enc):=by
 subst hb
 refine a_id _ _ _ _ _ _ _ _ _ k0 k1 k2 k3 k4 k5 k.Dirty σ _ (a_d fun id s1 hid _ he1 hs1=>?_)
 have h1:JAt σ s1 id k0 k1 k2 k3 k4 k5 k.Dirty c0 c1 c2 c3 c4 c .nils []:=⟨hid,hs1, .nil _ he1,fun e=>by cases e⟩
 refine (f_a hc (hk.ext he1)).use ⟨_,rfl,a_p (fun e=>?_) (fun hfit=>?_)⟩
 · refine (c_0 h1 (by simp) true 1 (-1) (-1)).mono ?_
   rintro r s2 ⟨rfl,d2,h2,_⟩
   refine ⟨rfl,_,a_e h2.row,d2,rfl,d2,rfl,?_⟩
   rw[Co.judge,if_neg (by rw[e];simp)];exact h2.own
 have hck:=f_r hfit
 obtain ⟨lo,lp,lr,lt,lx,ll⟩:=f_6 hfit
 obtain ⟨_,z1,z2,z3,_,_⟩:=a_y hck
 have b1:=s_s k c.Rts 0 (fun x hx=>(a_7 hck hx).len.2)
 have b2:=a_bg k k.Own 0
 have b3:=m_2 c k c.Rts 0 (fun x hx=>by have:=a_7 hck hx;have:=k_m c x;have:=(a_7 hck hx).len;have:=(a_7 hck hx).flen;omega)
 have b4:=p_p c k c.Rts 0 z3
 have hJ:k.judge c=((a_2 k c.Rts 0 ++ b_0 k k.Own 0) ++ a_t c k c.Rts 0) ++ a_0 c k c.Rts 0 ++ b_g c k 3:=by rw[Co.judge,if_pos hfit]
 refine a_d fun id2 s2 hid2 _ he2 hs2=>?_
 have h2:=h1.ext' he2
 have hne2:id2≠id:=fun e=>by rw[e,hs1] at hid2;cases hid2
 obtain ⟨τ,hτ⟩ :∃τ,τ=s2.set id .free:=⟨_,rfl⟩
 have t0:τ id= .free:=by rw[hτ,Store.set_same]
 have t1:∀i,i≠id→τ i=s2 i:=fun i hi=>by rw[hτ,Store.set_ne _ _ hi]
 have e0:Ext σ τ:=fun i hi=>by
   rw[t1 i (fun e=>hi (by rw[e];exact hid)),he2 i (by rw[he1 i hi];exact hi),he1 i hi]
 have e1:Ext τ s2:=fun i hi=>(t1 i (fun e=>hi (by rw[e];exact t0))).symm
 have hk':=hk.ext e0
 have hJ2:JAt τ s2 id k0 k1 k2 k3 k4 k5 k.Dirty c0 c1 c2 c3 c4 c .nils []:=⟨t0,h2.row, .nil _ e1,fun e=>by cases e⟩
 have hfn:∀s,Ext τ s→s id2=s2 id2:=fun s he=>by rw[he id2 (by rw[t1 id2 hne2,hs2];intro e;cases e),t1 id2 hne2]
 generalize hp:([a_2 k c.Rts 0 ++ b_0 k k.Own 0,a_t c k c.Rts 0,a_0 c k c.Rts 0,b_g c k 3]:List (List Br)) =parts
 have hpf:parts.flatten=k.judge c:=by rw[hJ,←hp];simp
 refine (At.fresh hs2 (by simp) rfl:At prog s2 _ (.osl id2 0 4) _).lenK ?_
 refine ⟨fun n s=>∃(j:Nat) (d':D),n=j∧j≤4∧JAt τ s id k0 k1 k2 k3 k4 k5 k.Dirty c0 c1 c2 c3 c4 c d' (parts.take j).flatten,fun n _=>4 - n.toNat,⟨0, .nils,rfl,by omega,hJ2⟩,?_⟩
 rintro _ s ⟨j,d1,rfl,hj4,h3⟩
 refine bcd (fun hlt=>?_) (fun hge=>?_)
 · have hlt:j < 4:=by simp at hlt;omega
   have hat:=At.fresh (P:=prog) ((hfn s h3.own.ext).trans hs2) (by simp) (n:=4) rfl
   have step : ∀ (r : RV) (s4 : Store) (p : List Br), parts[j]? = some p → (r = .tup [] ∧ ∃ d', JAt τ s4 id k0 k1 k2 k3 k4 k5 k.Dirty c0 c1 c2 c3 c4 c d' ((parts.take j).flatten ++ p)) →
       r= .tup []∧(∃(j':Nat) (d':D),w64 ((j:Int) +1) =j'∧j'≤4∧JAt τ s4 id k0 k1 k2 k3 k4 k5 k.Dirty c0 c1 c2 c3 c4 c d' (parts.take j').flatten)∧4 - (w64 ((j:Int) +1)).toNat < 4 - (j:Int).toNat:=by
     rintro r s4 p hpj ⟨rfl,d',h4⟩
     rw[a_m (by omega)]
     refine ⟨rfl,⟨j+1,d',rfl,by omega,?_⟩,by omega⟩
     rw[List.take_add_one,hpj]
     simpa using h4
   have hlen:(parts.flatten).length≤2 ^ 20:=by
     rw[hpf,hJ]
     simp only[List.length_append] at *
     have:=h_3 c k 3
     omega
   have:j=0∨j=1∨j=2∨j=3:=by omega
   rcases this with rfl | rfl | rfl | rfl
   · refine hat.load (j:=0) rfl (by kernel_rfl) rfl ⟨_,rfl,d_9,_,_,[.one (dp id)],[],rfl,rfl,rfl,(a_c9 hc hk' hfit h3 ?_).mono fun r s4 h4=>step r s4 _ (by rw[←hp];rfl) h4⟩
     rw[hpf,hJ] at hlen;simp only[List.length_append,List.take_zero,List.flatten_nil,List.length_nil] at hlen ⊢;omega
   · refine hat.load (j:=1) rfl (by kernel_rfl) rfl ⟨_,rfl,d_4,_,_,[.one (dp id)],[],rfl,rfl,rfl,(a_d6 hc hk' hfit h3 ?_).mono fun r s4 h4=>step r s4 _ (by rw[←hp];rfl) h4⟩
     rw[hpf,hJ] at hlen;rw[←hp];simp only[List.length_append,List.take_succ_cons,List.take_zero,List.flatten_cons,List.flatten_nil,List.length_nil] at hlen ⊢;omega
   · refine hat.load (j:=2) rfl (by kernel_rfl) rfl ⟨_,rfl,e_i,_,_,[.one (dp id)],[],rfl,rfl,rfl,(a_e5 hc hk' hfit h3 ?_).mono fun r s4 h4=>step r s4 _ (by rw[←hp];rfl) h4⟩
     rw[hpf,hJ] at hlen;rw[←hp];simp only[List.length_append,List.take_succ_cons,List.take_zero,List.flatten_cons,List.flatten_nil,List.length_nil] at hlen ⊢;omega
   · refine hat.load (j:=3) rfl (by kernel_rfl) rfl ⟨_,rfl,e_j,_,_,[.one (dp id)],[],rfl,rfl,rfl,(a_f2 hc hk' hfit h3 ?_).mono fun r s4 h4=>step r s4 _ (by rw[←hp];rfl) h4⟩
     rw[hpf,hJ] at hlen;rw[←hp];simp only[List.length_append,List.take_succ_cons,List.take_zero,List.flatten_cons,List.flatten_nil,List.length_nil] at hlen ⊢;omega
 · have hj:j=4:=by simp at hge;omega
   subst hj
   refine ⟨_,a_e h3.row,d1,rfl,d1,rfl,?_⟩
   rw[←hpf]
   have:=h3.own.from e0
   rw[show parts.take 4=parts by rw[←hp];rfl] at this
   exact this
end
end
section
variable {σ:Store}
theorem r_x (l:List Br) :∀row ∈ l.map Br.enc,∀x ∈ row,Flat x:=
 h_g Br.enc (fun r d hd=>by simp[Br.enc] at hd;rcases hd with rfl | rfl | rfl <;> exact .int _ _) l
theorem u_2 (n:Int) :Pure prog j_t [iA n] σ (.a (bA (d_y n))):=
 a_m7 n σ _ (bce (fun e=>⟨by subst e;rfl,rfl⟩) (fun e1=>bce (fun e=>⟨by subst e;rfl,rfl⟩) (fun e2=>⟨by
   congr 3
   rw[Bool.eq_iff_iff]
   simp only[d_y,inL,List.mem_cons,List.not_mem_nil,or_false,decide_eq_true_eq,beq_iff_eq]
   omega,rfl⟩)))
def w_j (k:Co)(r:Nat)(must:Nat→Bool) :List St→Nat→List Br
 | [],_=> []
 | s::l,j=>opt (must j && (a_z k s.Sec !=(r:Int) +1)) ⟨2,r,s.Sec⟩ ++ w_j k r must l (j+1)
section
variable {c0 c1 c2 c3 c4:D} {c:Cf} {k0 k1 k2 k3 k4 k5:D} {k:Co} {b:Bool}
 (hc:∀s,CfAt s c0 c1 c2 c3 c4 c) (hk:∀s,CoAt s k0 k1 k2 k3 k4 k5 k) (hfit:k.fits c=true)
include hc hk hfit
theorem a_h7 {r:Nat}{x:Rt}(hx:c.Rts[r]? =some x) :
   DCalls prog p_n [cfA c0 c1 c2 c3 c4 c,coA k0 k1 k2 k3 k4 k5 b,iA r] σ (b_r σ a_q ((p_a k r (x.Path.drop (b_6 k r x.Path.length))).map Br.enc)):=by
 obtain ⟨lo,lp,lr,lt,lx,ll⟩:=f_6 hfit
 have hck:=f_r hfit
 obtain ⟨_,s1,s2,s3,_,_⟩:=a_y hck
 have hxo:=a_7 hck (List.mem_of_getElem? hx)
 obtain ⟨rows,d1,d2,d3,hat,hlen,hrow,q1,q2,q3⟩:=p_h hc hx
 have hrl:=(List.getElem?_eq_some_iff.1 hx).1
 obtain ⟨rs,hrs⟩:=a_g (l:=k.Routes) (j:=r) (by omega)
 have hst:=k_v (i:=r) rfl hrs
 have hfits2:=hfit
 simp only[Co.fits,Co.parts,Bool.and_eq_true] at hfits2
 have hz:=List.all_eq_true.1 hfits2.2.2.2.1 (rs,x) (List.mem_of_getElem? (i:=r) (by rw[List.getElem?_zip_eq_some];exact ⟨hrs,hx⟩))
 simp only[Rs.fits,Bool.and_eq_true,decide_eq_true_eq] at hz
 have hlen8:=hxo.len
 obtain ⟨must,hmd⟩ :∃must:Nat→Bool,must=fun (j:Nat)=>d_y rs.State || (inL [4,5] rs.State && decide ((j:Int)≥rs.Next)):=⟨_,rfl⟩
 have hcut:∀j,j < x.Path.length→must j=decide (b_6 k r x.Path.length≤j):=fun j hj=>by
   rw[hmd];simp only;unfold b_6
   rw[hst.1,hst.2]
   cases hr:d_y rs.State with
   | true=>simp
   | false=>
     cases h45:inL [4,5] rs.State with
     | true=>simp <;> omega
     | false=>simp;try omega
 have key:∀(l:List St) (j:Nat),j+l.length=x.Path.length→w_j k r must l j=p_a k r (l.drop (b_6 k r x.Path.length - j)):=by
   intro l
   induction l with
   | nil=>intro j _;simp[w_j,p_a]
   | cons s l ih=>
     intro j hj
     rw[List.length_cons] at hj
     rw[w_j,ih (j+1) (by omega),hcut j (by omega)]
     by_cases h:b_6 k r x.Path.length≤j
     · rw[decide_eq_true h,Bool.true_and,show b_6 k r x.Path.length - j=0 by omega,show b_6 k r x.Path.length - (j+1) =0 by omega,List.drop_zero,List.drop_zero,p_a]
     · rw[decide_eq_false h,Bool.false_and,show b_6 k r x.Path.length - j=(b_6 k r x.Path.length - (j+1)) +1 by omega,List.drop_succ_cons];rfl
 have k0':=key x.Path 0 (by omega)
 rw[Nat.sub_zero] at k0'
 rw[←k0']
 refine (a_nc _ _ _ _ _ _ _ _ _ k0 k1 k2 k3 k4 k5 b r σ _ ?_).ret (Q:=fun r' s=>∃r'' σ',Ret prog σ s r' σ' r''∧b_r σ a_q ((w_j k r must x.Path 0).map Br.enc) r'' σ') (fun r s h=>h)
 refine (hk σ).routes.load (a_c hrs) a_x rfl ⟨rs.State,rs.Since,rs.Next,rs.Mark,rfl,(hat σ).load hrow c_p rfl ⟨d1,rfl,(q1 σ).lenK ⟨fun d n s=>∃out:List Br,Own prog σ s a_q d (out.map Br.enc)∧(out.length:Int)≤n∧Rng x.Path (fun l=>out ++ w_j k r must l n.toNat=w_j k r must x.Path 0) n,
   fun _ n _=>x.Path.length - n.toNat,⟨[], .nil _ (.refl _),by simp, .start rfl⟩,?_⟩⟩⟩
 rintro d n s ⟨out,ho,hol,hr⟩
 rw[List.length_map]
 refine bcd (fun hlt=>?_) (fun hge=>?_)
 · obtain ⟨j,y,rfl,hy,hj,hF,nx⟩:=hr.step rfl (by omega) hlt
   have hw:w64 ((j:Int) +1) =((j+1:Nat) :Int):=a_m (by omega)
   obtain ⟨z,hzs,_⟩:=(hxo.step y (List.mem_of_getElem? hy)).1.sec
   have hzg:=a_l hzs
   obtain ⟨o,hog⟩:=a_g (l:=k.Own) (j:=y.Sec.toNat) (by omega)
   rw[Int.toNat_natCast,w_j,d_1 (i:=y.Sec) (j:=y.Sec.toNat) (by omega) hog] at hF
   have go : ∀ out2 d2 s2, out2 ++ w_j k r must (x.Path.drop (j + 1)) (j + 1) = w_j k r must x.Path 0 → Own prog σ s2 a_q d2 (out2.map Br.enc) → out2.length ≤ j + 1 → (∃ out : List Br, Own prog σ s2 a_q d2 (out.map Br.enc) ∧ (out.length : Int) ≤ w64 ((j : Int) + 1) ∧ Rng x.Path (fun l => out ++ w_j k r must l (w64 ((j : Int) + 1)).toNat = w_j k r must x.Path 0) (w64 ((j : Int) + 1))) ∧
       x.Path.length - (w64 ((j:Int) +1)).toNat < x.Path.length - (j:Int).toNat:=fun out2 d2 s2 he ho2 hl=>by
     have:=nx (fun l=>out2 ++ w_j k r must l (w64 ((j:Int) +1)).toNat=w_j k r must x.Path 0) (by rw[hw,Int.toNat_natCast];exact he)
     exact ⟨⟨out2,ho2,by rw[hw];omega,this.1⟩,this.2⟩
   refine (q1 s).load (a_c hy) g_f rfl ⟨y.Sec,y.In,y.Out,rfl,?_⟩
   intro R hR
   have hwr:w64 ((r:Int) +1) =(r:Int) +1:=a_w (by omega) (by omega)
   have main:R (must j) s:=by
     refine hR _ s (bc (fun e=>?_) (fun e=>⟨rfl,go out _ _ (by rw[e] at hF;exact hF) ho (by omega)⟩))
     rw[e,Bool.true_and] at hF
     refine (hk s).own.load (a_c hog) c_int (by omega) ⟨o,rfl,?_⟩
     rw[hwr]
     refine bcn (fun e2=>?_) (fun e2=>⟨rfl,go out _ _ (by rw[show (o !=(r:Int) +1) =false by simpa using e2] at hF;exact hF) ho (by omega)⟩)
     rw[show (o !=(r:Int) +1) =true by simpa using e2] at hF
     exact a_d fun id1 s4 hid1 _ he4 hs4=>(ho.ext' he4).append (At.fresh hs4 (by simp) rfl) (by simp;omega) (by simp;omega) fun d4 s5 ho5 _ _=>⟨rfl,go (out ++ [⟨2,r,y.Sec⟩]) _ _ (by rw[List.append_assoc];exact hF) (by rw[List.map_append];exact ho5) (by simp;omega)⟩
   rw[hmd] at main
   simp only at main
   refine (u_2 _).use ⟨_,rfl,bc (fun e=>⟨rfl,by rw[e,Bool.true_or] at main;exact main⟩) (fun e=>?_)⟩
   rw[e,Bool.false_or] at main
   refine bce (fun e4=>⟨rfl,by rw[e4] at main;exact main⟩) (fun e4=>bce (fun e5=>⟨rfl,by rw[e5] at main;exact main⟩) (fun e5=>⟨rfl,?_⟩))
   rw[show inL [4,5] rs.State=false by simp[inL,e4,e5],Bool.false_and] at main;exact main
 · have hF:=hr.done rfl hge
   rw[w_j,List.append_nil] at hF
   rw[←hF]
   exact c_n ho (r_x _)
theorem a_cr {r:Nat}{x:Rt}(hx:c.Rts[r]? =some x) :
   DCalls prog k_0 [cfA c0 c1 c2 c3 c4 c,coA k0 k1 k2 k3 k4 k5 b,iA r] σ (b_r σ a_q ((if d_y (c_s k r) =true then e_s k r (c.needs x) else []).map Br.enc)):=by
 obtain ⟨lo,lp,lr,lt,lx,ll⟩:=f_6 hfit
 have hck:=f_r hfit
 obtain ⟨_,s1,s2,s3,_,_⟩:=a_y hck
 have hxo:=a_7 hck (List.mem_of_getElem? hx)
 have hrl:=(List.getElem?_eq_some_iff.1 hx).1
 obtain ⟨rs,hrs⟩:=a_g (l:=k.Routes) (j:=r) (by omega)
 rw[(k_v (i:=r) rfl hrs).1]
 refine (a_e7 _ _ _ _ _ _ _ _ _ k0 k1 k2 k3 k4 k5 b r σ _ ?_).ret (Q:=fun r' s=>∃r'' σ',Ret prog σ s r' σ' r''∧b_r σ a_q ((if d_y rs.State=true then e_s k r (c.needs x) else []).map Br.enc) r'' σ') (fun r s h=>h)
 refine (hk σ).routes.load (a_c hrs) a_x rfl ⟨rs.State,rfl,(u_2 _).use ⟨_,rfl,a_p (fun e=>?_) (fun e=>?_)⟩⟩
 · rw[if_neg (by rw[e];simp)];exact c_n (.nil _ (.refl _)) (r_x _)
 rw[if_pos e]
 have hrt:c.rt r=x:=b_j (by rw[d_s];exact hx)
 refine (a_ex hc r (by rw[hrt];have:=hxo.len;omega) (by rw[hrt];have:=hxo.flen;omega)).mono ?_
 rintro r1 s ⟨rfl,e1,rfl,q1⟩
 rw[Cf.Needs,hrt] at q1
 have hnl:(c.needs x).length≤40:=by have:=k_m c x;have:=hxo.len;have:=hxo.flen;omega
 have hwr:w64 ((r:Int) +1) =(r:Int) +1:=a_w (by omega) (by omega)
 refine ⟨e1,rfl,(q1 s).lenK ⟨fun d n s'=>∃out:List Br,Own prog s s' a_q d (out.map Br.enc)∧(out.length:Int)≤n∧Rng (c.needs x) (fun l=>out ++ e_s k r l=e_s k r (c.needs x)) n,
   fun _ n _=>(c.needs x).length - n.toNat,⟨[], .nil _ (.refl _),by simp, .start rfl⟩,?_⟩⟩
 rintro d n s' ⟨out,ho,hol,hr⟩
 rw[List.length_map,hwr]
 refine bcd (fun hlt=>?_) (fun hge=>?_)
 · obtain ⟨j,y,rfl,hy,hj,hF,nx⟩:=hr.step rfl (by omega) hlt
   obtain ⟨⟨z,hz⟩,_⟩:=k_h hxo (List.mem_of_getElem? hy)
   have hzg:=a_l hz
   obtain ⟨o,hog⟩:=a_g (l:=k.Own) (j:=y.Sec.toNat) (by omega)
   obtain ⟨mv,hmv⟩:=a_g (l:=k.Points) (j:=y.Sec.toNat) (by omega)
   rw[e_s,d_1 (i:=y.Sec) (j:=y.Sec.toNat) (by omega) hog,k_e (i:=y.Sec) (j:=y.Sec.toNat) (by omega) hmv] at hF
   have go : ∀ out2 d2 s2, out2 ++ e_s k r ((c.needs x).drop (j + 1)) = e_s k r (c.needs x) → Own prog s s2 a_q d2 (out2.map Br.enc) → out2.length ≤ j + 1 → (∃ out : List Br, Own prog s s2 a_q d2 (out.map Br.enc) ∧ (out.length : Int) ≤ w64 ((j : Int) + 1) ∧ Rng (c.needs x) (fun l => out ++ e_s k r l = e_s k r (c.needs x)) (w64 ((j : Int) + 1))) ∧
       (c.needs x).length - (w64 ((j:Int) +1)).toNat < (c.needs x).length - (j:Int).toNat:=fun out2 d2 s2 he ho2 hl=>by
     have:=nx (fun l=>out2 ++ e_s k r l=e_s k r (c.needs x)) he
     exact ⟨⟨out2,ho2,by rw[a_m (by omega)];omega,this.1⟩,this.2⟩
   refine (q1 s').load (a_c hy) m_m rfl ⟨y.Sec,y.Pos,rfl,(hk s').own.load (a_c hog) c_int (by omega) ⟨o,rfl,bce (fun e2=>(hk s').points.load (a_c hmv) c_l (by omega) ⟨mv.Cmd,rfl,bcn (fun e3=>?_) (fun e3=>go out _ _ ?_ ho (by omega))⟩) (fun e2=>go out _ _ ?_ ho (by omega))⟩⟩
   · rw[show (o ==(r:Int) +1) =true by simpa using e2,show (mv.Cmd != y.Pos) =true by simpa using e3] at hF
     exact a_d fun id1 s4 hid1 _ he4 hs4=>(ho.ext' he4).append (At.fresh hs4 (by simp) rfl) (by simp;omega) (by simp;omega) fun d4 s5 ho5 _ _=>go (out ++ [⟨4,r,y.Sec⟩]) _ _ (by rw[List.append_assoc];exact hF) (by rw[List.map_append];exact ho5) (by simp;omega)
   · rw[show (mv.Cmd != y.Pos) =false by simpa using e3,Bool.and_false] at hF;exact hF
   · rw[show (o ==(r:Int) +1) =false by simpa using e2,Bool.false_and] at hF;exact hF
 · have hF:=hr.done rfl hge
   rw[e_s,List.append_nil] at hF
   rw[←hF]
   exact c_n ho (r_x _)
theorem a_g8 {r:Nat}{x:Rt}(hx:c.Rts[r]? =some x) :
   DCalls prog m_h [cfA c0 c1 c2 c3 c4 c,coA k0 k1 k2 k3 k4 k5 b,iA r] σ (b_r σ a_q ((if inL [0] (c_s k r) =true then [] else e_q c k r (a_9 x.Path c.Xs 0)).map Br.enc)):=by
 obtain ⟨lo,lp,lr,lt,lx,ll⟩:=f_6 hfit
 have hck:=f_r hfit
 obtain ⟨_,s1,s2,s3,_,_⟩:=a_y hck
 have hxs:=q_y hck
 have hrl:=(List.getElem?_eq_some_iff.1 hx).1
 obtain ⟨rs,hrs⟩:=a_g (l:=k.Routes) (j:=r) (by omega)
 rw[(k_v (i:=r) rfl hrs).1]
 refine (a_jm _ _ _ _ _ _ _ _ _ k0 k1 k2 k3 k4 k5 b r σ _ ?_).ret (Q:=fun r' s=>∃r'' σ',Ret prog σ s r' σ' r''∧b_r σ a_q ((if inL [0] rs.State=true then [] else e_q c k r (a_9 x.Path c.Xs 0)).map Br.enc) r'' σ') (fun r s h=>h)
 refine (hk σ).routes.load (a_c hrs) a_x rfl ⟨rs.State,rfl,bce (fun e=>?_) (fun e=>?_)⟩
 · rw[if_pos (by simp[inL,e])];exact c_n (.nil _ (.refl _)) (r_x _)
 rw[if_neg (by simp[inL,e])]
 have hrt:c.rt r=x:=b_j (by rw[d_s];exact hx)
 refine (v_w hc r (by omega)).mono ?_
 rintro r1 s ⟨rfl,e1,rfl,q1⟩
 rw[Cf.Cross,hrt] at q1
 have hnl:=i_o x.Path c.Xs 0
 have hmem:=f_y x.Path c.Xs 0
 generalize a_9 x.Path c.Xs 0=cr at *
 have hwr:w64 ((r:Int) +1) =(r:Int) +1:=a_w (by omega) (by omega)
 refine ⟨e1,rfl,(q1 s).lenK ⟨fun d n s'=>∃out:List Br,Own prog s s' a_q d (out.map Br.enc)∧(out.length:Int)≤n∧Rng cr (fun l=>out ++ e_q c k r l=e_q c k r cr) n,
   fun _ n _=>cr.length - n.toNat,⟨[], .nil _ (.refl _),by simp, .start rfl⟩,?_⟩⟩
 rintro d n s' ⟨out,ho,hol,hr⟩
 rw[List.length_map,hwr]
 refine bcd (fun hlt=>?_) (fun hge=>?_)
 · obtain ⟨j,y,rfl,hy,hj,hF,nx⟩:=hr.step rfl (by omega) hlt
   obtain ⟨jx,sx,rfl,hsx,_⟩:=hmem y (List.mem_of_getElem? hy)
   rw[Nat.zero_add] at *
   obtain ⟨z,hz,_⟩:=hxs.1 sx (List.mem_of_getElem? hsx)
   have hzg:=a_l hz
   have hjx:=(List.getElem?_eq_some_iff.1 hsx).1
   obtain ⟨o,hog⟩:=a_g (l:=k.Own) (j:=sx.toNat) (by omega)
   obtain ⟨mv,hmv⟩:=a_g (l:=k.Xs) (j:=jx) (by omega)
   rw[e_q,a_mw (i:=jx) rfl hsx,d_1 (i:=sx) (j:=sx.toNat) (by omega) hog,k_e (i:=jx) rfl hmv] at hF
   have go : ∀ out2 d2 s2, out2 ++ e_q c k r (cr.drop (j + 1)) = e_q c k r cr → Own prog s s2 a_q d2 (out2.map Br.enc) → out2.length ≤ j + 1 → (∃ out : List Br, Own prog s s2 a_q d2 (out.map Br.enc) ∧ (out.length : Int) ≤ w64 ((j : Int) + 1) ∧ Rng cr (fun l => out ++ e_q c k r l = e_q c k r cr) (w64 ((j : Int) + 1))) ∧
       cr.length - (w64 ((j:Int) +1)).toNat < cr.length - (j:Int).toNat:=fun out2 d2 s2 he ho2 hl=>by
     have:=nx (fun l=>out2 ++ e_q c k r l=e_q c k r cr) he
     exact ⟨⟨out2,ho2,by rw[a_m (by omega)];omega,this.1⟩,this.2⟩
   refine (q1 s').load (a_c hy) c_int rfl ⟨jx,rfl,(hc s').xs.load (a_c hsx) c_int rfl ⟨sx,rfl,(hk s').own.load (a_c hog) c_int (by omega) ⟨o,rfl,bce (fun e2=>(hk s').xs.load (a_c hmv) c_l rfl ⟨mv.Cmd,rfl,bcn (fun e3=>?_) (fun e3=>go out _ _ ?_ ho (by omega))⟩) (fun e2=>go out _ _ ?_ ho (by omega))⟩⟩⟩
   · rw[show (o ==(r:Int) +1) =true by simpa using e2,show (mv.Cmd != 1) =true by simpa using e3] at hF
     exact a_d fun id1 s4 hid1 _ he4 hs4=>(ho.ext' he4).append (At.fresh hs4 (by simp) rfl) (by simp;omega) (by simp;omega) fun d4 s5 ho5 _ _=>go (out ++ [⟨5,r,sx⟩]) _ _ (by rw[List.append_assoc];exact hF) (by rw[List.map_append];exact ho5) (by simp;omega)
   · rw[show (mv.Cmd != 1) =false by simpa using e3,Bool.and_false] at hF;exact hF
   · rw[show (o ==(r:Int) +1) =false by simpa using e2,Bool.false_and] at hF;exact hF
 · have hF:=hr.done rfl hge
   rw[e_q,List.append_nil] at hF
   rw[←hF]
   exact c_n ho (r_x _)
end
theorem a_iw {a b:D}{la lb:List Br}(ha:At prog σ a_q a (la.map Br.enc))(hb:At prog σ a_q b (lb.map Br.enc)) :Pure prog o_t [.one a, .one b] σ (.a (bA (decide (la=lb)))):=by
 have hs:=ha.size
 rw[List.length_map] at hs
 refine a_k5 a b σ _ (ha.lenK (hb.lenK ?_))
 rw[List.length_map,List.length_map]
 refine bcn (fun hne=>⟨?_,rfl⟩) (fun he=>ha.lenK ?_)
 · rw[decide_eq_false (fun e=>hne (by rw[e]))]
 have hl:la.length=lb.length:=by omega
 rw[List.length_map]
 refine ⟨fun n s=>s=σ∧EqR la lb n,fun n _=>la.length - n.toNat,⟨rfl, .start _ _⟩,?_⟩
 rintro n s ⟨rfl,hr⟩
 refine bcd (fun hlt=>?_) (fun hge=>⟨?_,rfl⟩)
 · obtain ⟨j,x,y,rfl,hx,hy,hn,hy2⟩:=hr.step hl rfl hs hlt
   refine ha.load (a_c hx) a_e0 rfl ⟨x.Kind,x.Route,x.Sec,rfl,hb.load (a_c hy) a_e0 rfl ⟨y.Kind,y.Route,y.Sec,rfl,a_p (fun e=>⟨?_,rfl⟩) (fun e=>c_6 rfl (hy2 ?_))⟩⟩
   · rw[decide_eq_false (hn fun g=>by rw[g] at e;simp at e)]
   · simp at e;cases x;cases y;simp at e;simp[e]
 · rw[decide_eq_true (hr.done hl rfl hge)]
section
variable {c0 c1 c2 c3 c4:D} {c:Cf} {k0 k1 k2 k3 k4 k5:D} {k:Co}
 (hc:∀s,CfAt s c0 c1 c2 c3 c4 c) (hk:∀s,CoAt s k0 k1 k2 k3 k4 k5 k)
include hc hk
theorem a_er (b:Bool) :DCalls prog n_a [cfA c0 c1 c2 c3 c4 c,coA k0 k1 k2 k3 k4 k5 b] σ (b_r σ a_q ((k.judge c).map Br.enc)):=by
 refine (a_jx _ _ _ _ _ _ _ _ _ k0 k1 k2 k3 k4 k5 b σ _ ?_).ret (Q:=fun r' s=>∃r'' σ',Ret prog σ s r' σ' r''∧b_r σ a_q ((k.judge c).map Br.enc) r'' σ') (fun r s h=>h)
 refine (a_iu hc (hk σ) b).use ⟨_,rfl,a_p (fun e=>?_) (fun hfit=>?_)⟩
 · refine a_d fun id s hid _ he hs=>?_
   rw[Co.judge,if_neg (by rw[e];simp)]
   exact c_n (.at_new hid he hs (by simp) rfl) (r_x _)
 have hck:=f_r hfit
 obtain ⟨lo,lp,lr,lt,lx,ll⟩:=f_6 hfit
 obtain ⟨_,z1,z2,z3,_,_⟩:=a_y hck
 have b1:=s_s k c.Rts 0 (fun x hx=>(a_7 hck hx).len.2)
 have b2:=a_bg k k.Own 0
 have b3:=m_2 c k c.Rts 0 (fun x hx=>by have:=a_7 hck hx;have:=k_m c x;have:=(a_7 hck hx).len;have:=(a_7 hck hx).flen;omega)
 have b4:=p_p c k c.Rts 0 z3
 have b5:=h_3 c k 3
 have hJ:k.judge c=a_2 k c.Rts 0 ++ b_0 k k.Own 0 ++ a_t c k c.Rts 0 ++ a_0 c k c.Rts 0 ++ b_g c k 3:=by rw[Co.judge,if_pos hfit]
 have hJl:(k.judge c).length≤2 ^ 20:=by rw[hJ];simp only[List.length_append];omega
 obtain ⟨rows,hat,hlen⟩:=i_1 (hc σ)
 have hr4:Len c4 c.Rts.length:=by rw[←hlen];exact hat.lenI
 refine ⟨_,hr4,fun d n s=>∃out:List Br,Own prog σ s a_q d (out.map Br.enc)∧Rng c.Rts (fun l=>out ++ a_2 k l n.toNat=a_2 k c.Rts 0) n,fun _ n _=>c.Rts.length - n.toNat,⟨[], .nil _ (.refl _), .start rfl⟩,?_⟩
 rintro d n s ⟨out,ho,hr⟩
 refine bcd (fun hlt=>?_) (fun hge=>?_)
 · obtain ⟨j,x,rfl,hx,hj,hF,nx⟩:=hr.step rfl (by omega) hlt
   have hw:w64 ((j:Int) +1) =((j+1:Nat) :Int):=a_m (by omega)
   rw[Int.toNat_natCast,a_2] at hF
   refine (a_h7 hc hk hfit hx).mono ?_
   rintro r1 s1 ⟨rfl,e1,rfl,q1⟩
   have hl1:=h_m hF (n:=1000) (by omega)
   have hl2:(out ++ p_a k j (x.Path.drop (b_6 k j x.Path.length))).length≤1000:=h_m ((List.append_assoc _ _ _).trans hF) (by omega)
   rw[List.length_append] at hl2
   refine ⟨e1,rfl,ho.append (q1 _) (by simp only[List.length_map];omega) (by simp only[List.length_map];omega) fun d2 s2 ho2 _ _=>?_⟩
   have:=nx (fun l=>(out ++ p_a k j (x.Path.drop (b_6 k j x.Path.length))) ++ a_2 k l (w64 ((j:Int) +1)).toNat=a_2 k c.Rts 0) (by rw[hw,Int.toNat_natCast,List.append_assoc];exact hF)
   exact ⟨⟨_,by rw[List.map_append];exact ho2,this.1⟩,this.2⟩
 have hF:=hr.done rfl hge
 rw[a_2,List.append_nil] at hF
 subst hF
 clear hge hr
 refine (hk s).own.lenK ⟨fun d n s=>∃out:List Br,Own prog σ s a_q d (out.map Br.enc)∧Rng k.Own (fun l=>out ++ b_0 k l n.toNat=a_2 k c.Rts 0 ++ b_0 k k.Own 0) n,fun _ n _=>k.Own.length - n.toNat,⟨_,ho, .start rfl⟩,?_⟩
 rintro d n s ⟨out,ho,hr⟩
 rw[List.length_map]
 refine bcd (fun hlt=>?_) (fun hge=>?_)
 · obtain ⟨j,o,rfl,hog,hj,hF,nx⟩:=hr.step rfl (by omega) hlt
   have hw:w64 ((j:Int) +1) =((j+1:Nat) :Int):=a_m (by omega)
   rw[Int.toNat_natCast,b_0] at hF
   have hl1:=h_m hF (n:=1000) (by simp only[List.length_append];omega)
   have hfits2:=hfit
   simp only[Co.fits,Co.parts,Bool.and_eq_true] at hfits2
   have hz:=of_decide_eq_true (List.all_eq_true.1 hfits2.2.2.1 o (List.mem_of_getElem? hog))
   have go : ∀ out2 d2 s2, out2 ++ b_0 k (k.Own.drop (j + 1)) (j + 1) = a_2 k c.Rts 0 ++ b_0 k k.Own 0 → Own prog σ s2 a_q d2 (out2.map Br.enc) → (∃ out : List Br, Own prog σ s2 a_q d2 (out.map Br.enc) ∧ Rng k.Own (fun l => out ++ b_0 k l (w64 ((j : Int) + 1)).toNat = a_2 k c.Rts 0 ++ b_0 k k.Own 0) (w64 ((j : Int) + 1))) ∧
       k.Own.length - (w64 ((j:Int) +1)).toNat < k.Own.length - (j:Int).toNat:=fun out2 d2 s2 he ho2=>by
     have:=nx (fun l=>out2 ++ b_0 k l (w64 ((j:Int) +1)).toNat=a_2 k c.Rts 0 ++ b_0 k k.Own 0) (by rw[hw,Int.toNat_natCast];exact he)
     exact ⟨⟨out2,ho2,this.1⟩,this.2⟩
   have hm:w64 (o - 1) =o - 1:=a_w (by omega) (by omega)
   refine (hk s).own.load (a_c hog) c_int rfl ⟨o,rfl,bcd (fun e=>?_) (fun e=>go out _ _ (by rw[decide_eq_false e,Bool.false_and] at hF;exact hF) ho)⟩
   rw[hm]
   obtain ⟨jr,hjr⟩ :∃jr:Nat,o - 1=jr:=⟨(o - 1).toNat,by omega⟩
   obtain ⟨rs,hrs⟩:=a_g (l:=k.Routes) (j:=jr) (by omega)
   rw[decide_eq_true e,Bool.true_and,(k_v hjr hrs).1] at hF
   refine (hk s).routes.load (a_c hrs) a_x hjr ⟨rs.State,rfl,bce (fun e2=>?_) (fun e2=>go out _ _ (by rw[show inL [0] rs.State=false by simp[inL,e2]] at hF;exact hF) ho)⟩
   rw[show inL [0] rs.State=true by simp[inL,e2]] at hF
   exact a_d fun id1 s4 hid1 _ he4 hs4=>(ho.ext' he4).append (At.fresh hs4 (by simp) rfl) (by simp;omega) (by simp;omega) fun d4 s5 ho5 _ _=>go (out ++ [⟨3,o - 1,j⟩]) _ _ (by rw[List.append_assoc];exact hF) (by rw[List.map_append];exact ho5)
 have hF:=hr.done rfl hge
 rw[b_0,List.append_nil] at hF
 subst hF
 clear hge hr
 refine ⟨_,hr4,fun d n s=>∃out:List Br,Own prog σ s a_q d (out.map Br.enc)∧Rng c.Rts (fun l=>out ++ a_t c k l n.toNat=a_2 k c.Rts 0 ++ b_0 k k.Own 0 ++ a_t c k c.Rts 0) n,fun _ n _=>c.Rts.length - n.toNat,⟨_,ho, .start rfl⟩,?_⟩
 rintro d n s ⟨out,ho,hr⟩
 refine bcd (fun hlt=>?_) (fun hge=>?_)
 · obtain ⟨j,x,rfl,hx,hj,hF,nx⟩:=hr.step rfl (by omega) hlt
   have hw:w64 ((j:Int) +1) =((j+1:Nat) :Int):=a_m (by omega)
   rw[Int.toNat_natCast,a_t] at hF
   refine (a_cr hc hk hfit hx).mono ?_
   rintro r1 s1 ⟨rfl,e1,rfl,q1⟩
   generalize hp:(if d_y (c_s k j) =true then e_s k j (c.needs x) else []) =p at hF q1
   have hl2:(out ++ p).length≤2000:=h_m ((List.append_assoc _ _ _).trans hF) (by simp only[List.length_append];omega)
   rw[List.length_append] at hl2
   refine ⟨e1,rfl,ho.append (q1 _) (by simp only[List.length_map];omega) (by simp only[List.length_map];omega) fun d2 s2 ho2 _ _=>?_⟩
   have:=nx (fun l=>(out ++ p) ++ a_t c k l (w64 ((j:Int) +1)).toNat=a_2 k c.Rts 0 ++ b_0 k k.Own 0 ++ a_t c k c.Rts 0) (by rw[hw,Int.toNat_natCast,List.append_assoc];exact hF)
   exact ⟨⟨_,by rw[List.map_append];exact ho2,this.1⟩,this.2⟩
 have hF:=hr.done rfl hge
 rw[a_t,List.append_nil] at hF
 subst hF
 clear hge hr
 refine ⟨_,hr4,fun d n s=>∃out:List Br,Own prog σ s a_q d (out.map Br.enc)∧Rng c.Rts (fun l=>out ++ a_0 c k l n.toNat=a_2 k c.Rts 0 ++ b_0 k k.Own 0 ++ a_t c k c.Rts 0 ++ a_0 c k c.Rts 0) n,fun _ n _=>c.Rts.length - n.toNat,⟨_,ho, .start rfl⟩,?_⟩
 rintro d n s ⟨out,ho,hr⟩
 refine bcd (fun hlt=>?_) (fun hge=>?_)
 · obtain ⟨j,x,rfl,hx,hj,hF,nx⟩:=hr.step rfl (by omega) hlt
   have hw:w64 ((j:Int) +1) =((j+1:Nat) :Int):=a_m (by omega)
   rw[Int.toNat_natCast,a_0] at hF
   refine (a_g8 hc hk hfit hx).mono ?_
   rintro r1 s1 ⟨rfl,e1,rfl,q1⟩
   generalize hp:(if inL [0] (c_s k j) =true then [] else e_q c k j (a_9 x.Path c.Xs 0)) =p at hF q1
   have hl2:(out ++ p).length≤2000:=h_m ((List.append_assoc _ _ _).trans hF) (by simp only[List.length_append];omega)
   rw[List.length_append] at hl2
   refine ⟨e1,rfl,ho.append (q1 _) (by simp only[List.length_map];omega) (by simp only[List.length_map];omega) fun d2 s2 ho2 _ _=>?_⟩
   have:=nx (fun l=>(out ++ p) ++ a_0 c k l (w64 ((j:Int) +1)).toNat=a_2 k c.Rts 0 ++ b_0 k k.Own 0 ++ a_t c k c.Rts 0 ++ a_0 c k c.Rts 0) (by rw[hw,Int.toNat_natCast,List.append_assoc];exact hF)
   exact ⟨⟨_,by rw[List.map_append];exact ho2,this.1⟩,this.2⟩
 have hF:=hr.done rfl hge
 rw[a_0,List.append_nil] at hF
 clear hge hr
 refine ⟨fun d n s=>∃(j:Nat),n=j∧1≤j∧j≤4∧Own prog σ s a_q d ((out ++ b_g c k (j - 1)).map Br.enc),fun _ n _=>4 - n.toNat,⟨1,rfl,by omega,by omega,by simpa[b_g] using ho⟩,?_⟩
 have hol:out.length≤2000:=by rw[hF];simp only[List.length_append];omega
 rintro d _ s ⟨j,rfl,hj1,hj4,ho⟩
 refine bcd (fun hlt=>?_) (fun hge=>?_)
 · obtain ⟨j',rfl⟩ :∃j':Nat,j=j'+1:=⟨j - 1,by omega⟩
   rw[Nat.add_sub_cancel] at ho
   have hw:w64 (((j'+1:Nat) :Int) +1) =((j'+2:Nat) :Int):=by rw[a_w (by omega) (by omega)];omega
   have hll:=h_3 c k j'
   obtain ⟨x,hx⟩:=a_g (l:=k.Lines) (j:=j'+1) (by omega)
   have hlb:u_x c k (j'+1) =opt (decide (0≤c.lineSec ((j'+1:Nat) :Int)) && (decide (x.Done > x.Ask) || (decide (x.Told > x.Grant) || ((a_z k (c.lineSec ((j'+1:Nat) :Int)) == -2) && (x.Ask != x.Done))))) ⟨6,-1,c.lineSec ((j'+1:Nat) :Int)⟩:=by
     unfold u_x;simp only[hx,Option.getD_some]
   have hsb:=m_k c ((j'+1:Nat) :Int)
   rw[hw]
   refine (a_bh (hc s) _).use ⟨_,rfl,(hk s).lines.load (a_c hx) b_8 rfl ⟨x.Ask,x.Done,x.Grant,x.Told,x.PAsk,x.PDone,x.PGrant,x.Since,rfl,?_⟩⟩
   generalize c.lineSec ((j'+1:Nat) :Int) =sec at hlb hsb ⊢
   intro R hR
   have hmu:4 - ((j'+2:Nat) :Int).toNat < 4 - ((j'+1:Nat) :Int).toNat:=by omega
   have main:∀w,opt w ⟨6,-1,sec⟩ =u_x c k (j'+1)→R w s:=fun w hwb=>hR w s (by
     refine bc (fun e=>?_) (fun e=>⟨⟨j'+2,rfl,by omega,by omega,?_⟩,hmu⟩)
     · rw[e] at hwb
       refine a_d fun id1 s4 hid1 _ he4 hs4=>(ho.ext' he4).append (At.fresh hs4 (by simp) rfl) (by simp;omega) (by simp;omega) fun d4 s5 ho5 _ _=>⟨⟨j'+2,rfl,by omega,by omega,?_⟩,hmu⟩
       have e3:out ++ b_g c k (j'+2 - 1) =(out ++ b_g c k j') ++ [⟨6,-1,sec⟩]:=by
         rw[show j'+2 - 1=j'+1 by omega,b_g,←hwb,List.append_assoc];rfl
       rw[e3,List.map_append];exact ho5
     · rw[e] at hwb
       have e3:out ++ b_g c k (j'+2 - 1) =out ++ b_g c k j':=by
         rw[show j'+2 - 1=j'+1 by omega,b_g,←hwb];simp[opt]
       rw[e3];exact ho)
   refine bcd (fun e=>?_) (fun e=>main false (by rw[hlb,decide_eq_false (by omega),Bool.false_and]))
   rw[decide_eq_true (by omega),Bool.true_and] at hlb
   refine bcd (fun t1=>main true (by rw[hlb,decide_eq_true t1];rfl)) (fun t1=>bcd (fun t2=>main true (by rw[hlb,decide_eq_true t2,Bool.true_or,Bool.or_true])) (fun t2=>?_))
   rw[decide_eq_false t1,decide_eq_false t2,Bool.false_or,Bool.false_or] at hlb
   obtain ⟨o,hog⟩:=a_g (l:=k.Own) (j:=sec.toNat) (by omega)
   rw[d_1 (i:=sec) (j:=sec.toNat) (by omega) hog] at hlb
   exact (hk s).own.load (a_c hog) c_int (by omega) ⟨o,rfl,bce (fun t3=>main _ (by rw[hlb,show (o == -2) =true by simpa using t3,Bool.true_and])) (fun t3=>main _ (by rw[hlb,show (o == -2) =false by simpa using t3,Bool.false_and]))⟩
 · have hj:j=4:=by omega
   subst hj
   rw[hJ,←hF]
   exact c_n ho (r_x _)
end
end
section
variable {σ:Store}
def a_w3 (f:FuncId)(xs:List A) :Prop:=DCalls prog f xs noS fun r _=>r= .a (.one (.bool true))
end
end Go.Proofs.YtdmfnhbmhkgemaaGreat
namespace Go.Proofs.YtdmfnhbmhkgemaaGreat
open Go.Fw Go.Proofs Go.RowKit
section
variable {σ:Store}
def endK (o:Int)(x:Ls)(b:Bool) :Co:=⟨[o,0],[⟨0,0,0,0⟩],[⟨0,0⟩,⟨0,0⟩],[],[zLs,x,zLs,zLs],[0,0],b⟩
def l_4 (occ stamp now:Int)(o:Int)(x:Ls)(b:Bool) :Co:=
 let m:=decide (x.PAsk > (if x.PDone > x.Grant then x.PDone else x.Grant)) && decide (x.Ask=x.Done)
 let k' : Co := if o = -2 then
     if x.PDone < x.Grant then endK o { x with Since:=0 } b
     else if x.Since=0 then endK o { x with Since:=w64 (now+1) } b
     else if occ=0∧x.Since≤stamp then endK 0 { x with Since:=0 } true
     else endK o x b
   else if o=0∧m=true then endK (-2) { x with Grant:=x.PAsk,Since:=0 } true
   else endK o x b
 if b=true then k' else { k' with Lines:=k'.Lines.set 1 { (k'.Lines[1]?).getD zLs with Told:=x.Grant } }
end
section
variable {σ:Store}
def CoPostK (σ:Store)(p:Co × Int)(r:RV)(s:Store) :Prop:=CoPost σ p r s∨(s=σ∧∃d0 d1 d2 d3 d4 d5,r= .tup [coA d0 d1 d2 d3 d4 d5 p.1.Dirty,iA p.2]∧CoFz d0 d1 d2 d3 d4 d5 p.1)
theorem flat_co:(∀n:Int,∀d ∈ Go.Fw.encI n,Flat d)∧(∀r:Rs,∀d ∈ r.enc,Flat d)∧(∀r:Mv,∀d ∈ r.enc,Flat d)∧∀r:Ls,∀d ∈ r.enc,Flat d:=
 ⟨fun n d hd=>by simp[Go.Fw.encI] at hd;subst hd;exact .int _ _,fun r d hd=>by simp[Rs.enc] at hd;rcases hd with rfl | rfl | rfl | rfl <;> exact .int _ _,
   fun r d hd=>by simp[Mv.enc] at hd;rcases hd with rfl | rfl <;> exact .int _ _,
   fun r d hd=>by simp[Ls.enc] at hd;rcases hd with rfl | rfl | rfl | rfl | rfl | rfl | rfl | rfl <;> exact .int _ _⟩
section
variable {c0 c1 c2 c3 c4 k0 k1 k2 k3 k4 k5 v0 v1 v2 v3:D} {c:Cf} {k:Co} {v:Vw}
end
end
section
variable {σ:Store}
theorem CoOwn.ext' {σ0 s s':Store}{d0 d1 d2 d3 d4 d5:D}{k:Co}(h:CoOwn σ0 s d0 d1 d2 d3 d4 d5 k)(he:Ext s s') :CoOwn σ0 s' d0 d1 d2 d3 d4 d5 k:=
 ⟨h.own.ext' he,h.routes.ext' he,h.points.ext' he,h.xs.ext' he,h.lines.ext' he,h.resets.ext' he,h.apart⟩
end
end Go.Proofs.YtdmfnhbmhkgemaaGreat
namespace Go.Proofs.YtdmfnhbmhkgemaaGreat
open Go.Fw Go.Proofs Go.RowKit
open Go.Proofs.Tryz (prog)
section
variable {σ:Store}
def litC:Cf:=⟨[⟨0,0,0⟩,⟨0,0,0⟩],[⟨0,1,1,0⟩],[⟨0,1⟩],[],[⟨0,-1,[⟨1,0,1⟩],[],[],false⟩],2,1,4,1000⟩
theorem a_q8 (s:Store) :CfAt s (.sl 3 [[iD 0,iD 0,iD 0],[iD 0,iD 0,iD 0]]) (.sl 4 [[iD 0,iD 1,iD 1,iD 0]]) (.sl 2 [[iD 0,iD 1]]) .nils (.sl 6 [[iD 0,iD (-1), .sl 3 [[iD 1,iD 0,iD 1]], .nils, .nils, .bool false]]) litC:=
 ⟨a_bx b_n (by simp),a_bx s_6 (by simp),a_bx f_l (by simp), .nil,⟨_,a_bx c_p (by simp),rfl,fun i row r h1 h2=>by
   have hi:i=0:=by have:=(List.getElem?_eq_some_iff.1 h1).1;simp at this;exact this
   subst hi
   simp at h1;subst h1
   simp[litC] at h2;subst h2
   exact ⟨_,_,_,rfl,a_bx g_f (by simp), .nil, .nil⟩⟩⟩
theorem u_8 {c0 c1 c2 c3 c4:D}{c:Cf}{k0 k1 k2 k3 k4 k5:D}{k:Co}(hc:∀s,CfAt s c0 c1 c2 c3 c4 c)(hk:CoAt σ k0 k1 k2 k3 k4 k5 k) :
   DCalls prog f_b [cfA c0 c1 c2 c3 c4 c,coA k0 k1 k2 k3 k4 k5 k.Dirty] σ (b_r σ a_q ((k.judge c).map Br.enc)):=by
 refine (r_l hc hk rfl).ret ?_
 rintro r s ⟨d,rfl,ho⟩
 exact c_n ho (r_x _)
theorem a_ul:Co.judge litC (b_o litC 0) =[]:=by decide +kernel
theorem a_tx:Co.judge litC { b_o litC 0 with Own:= [-1,1] } =[⟨3,0,1⟩]:=by decide +kernel
theorem law22_lives_ok:Pure prog m_j [] σ (.a (bA true)):=by
 refine .of (a_h5 σ _ ((p_b a_q8 0 (by decide) (by decide) (by decide)).mono ?_)) (l_e _)
 rintro r s ⟨k0,k1,k2,k3,k4,k5,rfl,hk⟩
 refine ⟨_,_,_,_,_,_,_,rfl,hk.own.at_.lenK (bcn (fun e=>absurd rfl e) (fun _=>(u_8 a_q8 hk.at).mono ?_))⟩
 rintro r s1 ⟨rfl,d,rfl,hd⟩
 rw[a_ul] at hd
 refine ⟨_,rfl,(hd s1).lenK (bcn (fun e=>absurd rfl e) (fun _=>hk.own.at_.idxK (j:=1) c_int rfl (by decide) (hk.putO (j:=1) (x:= -1) (y:=1) rfl rfl (by simp) rfl fun s2 hk2 _=>?_)))⟩
 refine (u_8 (k:= { b_o litC 0 with Own:= [-1,1] }) a_q8 hk2.at).mono ?_
 rintro r s3 ⟨rfl,d2,rfl,hd2⟩
 rw[a_tx] at hd2
 refine ⟨_,rfl,(a_iw (lb:= [⟨3,0,1⟩]) (hd2 _) (a_bx a_e0 (by simp))).use ⟨_,rfl,?_,hk2.own.ext⟩⟩
 rw[decide_eq_true rfl]
end
end Go.Proofs.YtdmfnhbmhkgemaaGreat
namespace Go.Fw
open Go.Shelf Go.Sort Go.Proofs
section
variable {P:Program} {ρ:Ren} {σ:Store}
def i_w (z:Int) :List D:= [.int .i64 z]
def k_u (l:List Int) :List Int:=l.mergeSort fun x y=>decide (x≤y)
theorem a_j4 {k:Nat→Prop}{β:Bk}{W:World}(hS:SRel P k β W σ){id i0:Nat}{t:TypeId}{rows:List (List D)}{ys:List Int}{bi:BI}(ht:P.cellsOf t=1)(hl:σ id= .live t rows)(hb:β id=some bi)
   (hfit:i0+ys.length≤rows.length) (n:Nat) (os:Array Obj) :
   SRel P k β (grow (putRow (Value.int .i64) (Sort.ahead W n) bi.blk (i0 * bi.es) ys.toArray) os) (σ.set id (.live t (rows.take i0 ++ ys.map i_w ++ rows.drop (i0+ys.length))))∧
   Ghost k β σ W k β (σ.set id (.live t (rows.take i0 ++ ys.map i_w ++ rows.drop (i0+ys.length))))∧
   Frm β σ W (grow (putRow (Value.int .i64) (Sort.ahead W n) bi.blk (i0 * bi.es) ys.toArray) os):=by
 obtain ⟨arr,g1,g2,g3,g4,g5,g6,g7⟩:=hS.obj id bi t rows hb hl
 have hes:bi.es=1:=by rw[←g3,ht]
 have hsz2:i0+ys.length≤arr.size:=by rw[hes] at g4;omega
 have hov:=hS.over hb hl g1 (ns:=ys.map i_w) (vx:=ys.map (Value.int .i64)) i0 (by omega) (by omega) (by simp[hes])
   (by
     have e:∀l:List Int,((l.map i_w).flatten) =l.map (D.int .i64):=by
       intro l;induction l with
       | nil=>rfl
       | cons x r ih=>simp only[List.map_cons,List.flatten_cons,ih];rfl
     rw[e]
     refine ⟨by simp,fun i v d hv hd=>?_⟩
     rw[List.getElem?_map] at hv hd
     cases hx:ys[i]? with
     | none=>rw[hx] at hv;cases hv
     | some x=>rw[hx] at hv hd;cases hv;cases hd;exact .int _ _)
   (by
     intro i r hr
     rw[List.getElem?_map] at hr
     cases hx:ys[i]? with
     | none=>rw[hx] at hr;cases hr
     | some x=>rw[hx] at hr;cases hr;rw[hes];rfl)
   (by simp only[hes,List.length_map];omega)
 have hrl:(ys.map i_w).length=ys.length:=by rw[List.length_map]
 rw[hrl] at hov
 have hG : Grow (W.setRow bi.blk (arr.toList.take (i0 * bi.es) ++ ys.map (Value.int .i64) ++ arr.toList.drop (i0 * bi.es + (ys.map (Value.int .i64)).length)).toArray)
     (grow (putRow (Value.int .i64) (Sort.ahead W n) bi.blk (i0 * bi.es) ys.toArray) os):=by
   refine ⟨rfl,rfl,rfl,by rw[setRow_size];simp,fun b hb=>?_⟩
   rw[setRow_size] at hb
   rw[heap_grow_old _ _ (by simpa using hb)]
   by_cases he:b=bi.blk
   · subst he
     rw[setRow_heap _ _ _ _ _ _ g1]
     simp only[putRow,mapBlock,heap_ahead,Array.getElem?_modify,if_true,g1,Option.map_some,onCells]
     congr 2
     apply Array.ext_getElem?
     intro m
     simp only[putCells,Array.getElem?_mapIdx,List.getElem?_toArray,hes,Nat.mul_one,List.length_map,List.size_toArray]
     by_cases c1:m < i0
     · rw[List.getElem?_append_left (by simp;omega),List.getElem?_append_left (by simp;omega),List.getElem?_take,if_pos c1,Array.getElem?_toList,Array.getElem?_eq_getElem (by omega),Option.map_some,if_neg (by omega)]
     · by_cases c2:m < i0+ys.length
       · rw[List.getElem?_append_left (by simp;omega),List.getElem?_append_right (by simp;omega),Array.getElem?_eq_getElem (by omega),Option.map_some,if_pos ⟨by omega,by omega⟩]
         have hl1:(arr.toList.take i0).length=i0:=by simp;omega
         have hk:m - i0 < ys.length:=by omega
         rw[hl1,List.getElem?_map,List.getElem?_eq_getElem hk]
         simp[hk]
       · rw[List.getElem?_append_right (by simp;omega),List.getElem?_drop,Array.getElem?_toList]
         have hl1:i0+ys.length+ (m - (arr.toList.take i0 ++ ys.map (Value.int .i64)).length) =m:=by simp;omega
         rw[hl1]
         cases arr[m]? with
         | none=>rfl
         | some y=>rw[Option.map_some,if_neg (by omega)]
   · rw[b_f _ _ _ _ he]
     simp only[putRow,mapBlock,heap_ahead,Array.getElem?_modify]
     rw[if_neg (fun e=>he e.symm)]
 have hne:σ id≠ .dead:=by rw[hl];intro e;cases e
 refine ⟨hov.grow hG,⟨fun _ h=>h,fun _ h=> .inl h,fun _ _ h=>h,fun _ _ h=> .inl h,fun i hi=>?_⟩,?_⟩
 · rw[Store.set_ne _ _ (by intro e;subst e;exact hne hi)];exact hi
 · refine ⟨hG.os,hG.tape,hG.output,by have:=hG.size;rwa [setRow_size] at this,fun b hb' hn=>?_⟩
   rw[hG.block b (by rw[setRow_size];exact hb'),b_f _ _ _ _ (fun e=>hn id bi hb hne e.symm)]
theorem a_j5 {k:Nat→Prop}{β:Bk}{W:World}(hS:SRel P k β W σ){id i0:Nat}{t:TypeId}{rows:List (List D)}{zs:List Int}{bi:BI}(ht:P.cellsOf t=1)(hl:σ id= .live t rows)(hb:β id=some bi)
   (hrows:(rows.drop i0).take zs.length=zs.map i_w) :Holds (Value.int .i64) W bi.blk (i0 * bi.es) zs.toArray:=by
 obtain ⟨arr,g1,g2,g3,g4,g5,g6,g7⟩:=hS.obj id bi t rows hb hl
 have hes:bi.es=1:=by rw[←g3,ht]
 have hget:∀j,j < zs.length→arr[i0+j]? =some (Value.int .i64 (zs.getD j 0)):=by
   intro j hj
   have h1:((rows.drop i0).take zs.length)[j]? =some (i_w (zs.getD j 0)):=by rw[hrows];simp[hj]
   rw[List.getElem?_take_of_lt hj,List.getElem?_drop] at h1
   obtain ⟨u,hu,hVu⟩:=g7 _ _ 0 (.int .i64 (zs.getD j 0)) h1 rfl
   rw[hes,Nat.mul_one,Nat.add_zero] at hu
   rw[hu];cases hVu;rfl
 intro j hj
 have hj:j < zs.length:=by simpa using hj
 refine ⟨?_,by simp[World.frozen?,g1]⟩
 have:=hget j hj
 simp only[World.cell?,g1,hes,Nat.mul_one,Option.isSome_none,Bool.false_eq_true,if_false]
 rw[this]
 simp[hj]
theorem a_sz {k:Nat→Prop}{β:Bk}{W:World}{x:A}{vs:Array Value}(hvs:vs.size=[x].length)(hargs:∀(i:Nat) v y,vs[i]? =some v→[x][i]? =some y→VA k β W v y) :∃v,vs= #[v]∧VA k β W v x:=by
 have hvs:vs.size=1:=hvs
 obtain ⟨l⟩:=vs
 match l,hvs with
 | [v],_=>exact ⟨v,rfl,hargs 0 v x rfl rfl⟩
theorem a_o7 (Ly:Lays.n189 P ρ){id i0:Nat}{t:TypeId}{rows:List (List D)}{zs:List Int}(ht:P.cellsOf t=1)(hl:σ id= .live t rows)
   (hfit:i0+zs.length≤rows.length) (hrows:(rows.drop i0).take zs.length=zs.map i_w) (h0:0 < zs.length) (hsz:zs.length < 4611686018427387904) :
   DCalls P (ρ.f 189) [.one (.osl id i0 zs.length)] σ fun r σ'=>r= .tup []∧σ'=σ.set id (.live t (rows.take i0 ++ (k_u zs).map i_w ++ rows.drop (i0+zs.length))):=by
 refine ⟨by unfold v_l;rw[Ly.f189];rfl,fun k β W vs hS hvs hargs=>?_⟩
 obtain ⟨v,rfl,hV⟩:=a_sz hvs hargs
 have hV:V k β W v (.osl id i0 zs.length):=hV
 cases hV with
 | osl _ _ _ cap a bi hb ha hc hs=>
   have ha:=ha (by omega)
   subst ha
   refine (calls_of_every_depth fun D=>Go.Proofs.AnyS.slices_Sort_int_in Ly D bi.blk (i0 * bi.es) cap zs W (a_j5 hS ht hl hb hrows) (hS.blt id bi hb) hsz).mono ?_
   rintro e W' ⟨rfl,n,os,rfl⟩
   have hlen:(k_u zs).length=zs.length:=by simp[k_u]
   obtain ⟨h1,h2,h3⟩:=a_j4 hS (i0:=i0) (ys:=k_u zs) ht hl hb (by omega) n os
   rw[hlen] at h1 h2
   exact ⟨.tuple #[], .tup [],_,k,β,rfl,⟨rfl,rfl⟩,⟨#[],rfl,rfl,fun i u x hu=>by simp at hu⟩,h1,h2,h3⟩
theorem a_hh (Ly:Lays2.n20 P ρ){id i0:Nat}{t:TypeId}{rows:List (List D)}{zs:List Int}(ht:P.cellsOf t=1)(hl:σ id= .live t rows)
   (hfit:i0+zs.length≤rows.length) (hrows:(rows.drop i0).take zs.length=zs.map i_w) (h0:0 < zs.length) (hsz:zs.length < 4611686018427387904) :
   DCalls P (ρ.f 20) [.one (.osl id i0 zs.length)] σ fun r σ'=>r= .a (.one (.osl id i0 (Lib.compact zs).length))∧
     σ'=σ.set id (.live t (rows.take i0 ++ (Lib.compact zs ++ List.replicate (zs.length - (Lib.compact zs).length) 0).map i_w ++ rows.drop (i0+zs.length))):=by
 refine ⟨by unfold v_l;rw[Ly.f20];rfl,fun k β W vs hS hvs hargs=>?_⟩
 obtain ⟨v,rfl,hV⟩:=a_sz hvs hargs
 have hV:V k β W v (.osl id i0 zs.length):=hV
 cases hV with
 | osl _ _ _ cap a bi hb ha hc hs=>
   have ha:=ha (by omega)
   subst ha
   refine (Go.Proofs.Any.slices_Compact_int Ly bi.blk (i0 * bi.es) cap zs W (a_j5 hS ht hl hb hrows) (by omega) hc).mono ?_
   rintro e W' ⟨rfl,n,rfl⟩
   have hle:(Lib.compact zs).length≤zs.length:=by
     unfold Lib.compact Lib.compactUpTo
     rw[List.length_map]
     exact Nat.le_trans (List.length_filter_le _ _) (by simp)
   have hlen:(Lib.compact zs ++ List.replicate (zs.length - (Lib.compact zs).length) 0).length=zs.length:=by simp;omega
   obtain ⟨h1,h2,h3⟩:=a_j4 hS (i0:=i0) (ys:=Lib.compact zs ++ List.replicate (zs.length - (Lib.compact zs).length) 0) ht hl hb (by omega) n #[]
   rw[hlen] at h1 h2
   rw[grow_empty] at h1 h3
   exact ⟨_, .a (.one (.osl id i0 (Lib.compact zs).length)),_,k,β,rfl,⟨rfl,rfl⟩, .osl id i0 _ cap _ bi hb (fun _=>rfl) (by omega) hs,h1,h2,h3⟩
theorem a_p3 (l:List Int) :(k_u l).Perm l:=List.mergeSort_perm _ _
theorem a_p7 (l:List Int) :(k_u l).Pairwise (·≤·):=by
 have:=List.pairwise_mergeSort (le:=fun x y:Int=>decide (x≤y)) (by intro a b c;simp;omega) (by intro a b;simp;omega) l
 exact this.imp fun h=>by simpa using h
theorem a_ov {zs:List Int}{z:Int} :z ∈ Lib.compact zs↔z ∈ zs:=by
 unfold Lib.compact Lib.compactUpTo
 rw[List.mem_map]
 constructor
 · rintro ⟨j,hj,rfl⟩
   have hj:=List.mem_range.1 (List.mem_filter.1 hj).1
   simp[hj]
 · intro hz
   obtain ⟨j,hj,e⟩:=List.getElem_of_mem hz
   have key:∀j,(hj:j < zs.length)→zs[j]=z→∃a,a ∈ List.filter (Lib.keeps zs.toArray) (List.range zs.length)∧zs.toArray[a]! =z:=by
     intro j
     induction j with
     | zero=>exact fun hj e=>⟨0,List.mem_filter.2 ⟨List.mem_range.2 hj,by simp[Lib.keeps]⟩,by simp[hj,e]⟩
     | succ j ih=>
       intro hj e
       by_cases h:zs[j]'(by omega) =z
       · exact ih (by omega) h
       · refine ⟨j+1,List.mem_filter.2 ⟨List.mem_range.2 hj,Lib.keeps_pos ?_⟩,by simp[hj,e]⟩
         simp only[Nat.add_sub_cancel]
         have:j < zs.length:=by omega
         simp only[List.getElem!_toArray,hj,this,getElem!_pos,e]
         exact fun h'=>h h'.symm
   exact key j hj e
theorem a_fu {zs:List Int}(h:zs.Pairwise (·≤·)) :(Lib.compact zs).Pairwise (· < ·):=by
 unfold Lib.compact Lib.compactUpTo
 rw[List.pairwise_map]
 have hr:(List.filter (Lib.keeps zs.toArray) (List.range zs.length)).Pairwise (· < ·):=List.Pairwise.filter _ List.pairwise_lt_range
 refine hr.imp_of_mem ?_
 intro i j hi hj hij
 obtain ⟨h1,_⟩:=List.mem_filter.1 hi
 obtain ⟨h2,h3⟩:=List.mem_filter.1 hj
 have h1:=List.mem_range.1 h1
 have h2:=List.mem_range.1 h2
 have hm:j - 1 < zs.length:=by omega
 have hne:zs[j]'h2≠zs[j - 1]'hm:=by
   intro e
   have:Lib.keeps zs.toArray j=false:=Lib.keeps_neg (by omega) (by simp only[List.getElem!_toArray,h2,hm,getElem!_pos,e])
   rw[h3] at this;cases this
 have hle1:zs[j - 1]'hm≤zs[j]'h2:=List.pairwise_iff_getElem.1 h _ _ _ _ (by omega)
 have hle2:zs[i]'h1≤zs[j - 1]'hm:=by
   by_cases e:i=j - 1
   · subst e;exact Int.le_refl _
   · exact List.pairwise_iff_getElem.1 h _ _ _ _ (by omega)
 simp only[List.getElem!_toArray,h1,h2,getElem!_pos]
 omega
end
end Go.Fw
namespace Go.Fw
section
def cpt:List Int→List Int
 | []=> []
 | x::r=>match cpt r with
   | []=> [x]
   | y::q=>if x=y then y::q else x::y::q
theorem a_ed:∀(l:List Int) (z:Int),z ∈ cpt l↔z ∈ l
 | [],z=>by simp[cpt]
 | x::r,z=>by
   have ih:=a_ed r z
   rw[cpt]
   split
   · rename_i h;rw[h] at ih;simp at ih;simp[ih]
   · rename_i y q h
     rw[h] at ih
     split
     · rename_i e;rw[ih,List.mem_cons];exact ⟨.inr,fun hz=>hz.elim (fun e'=>by rw[←ih,e',e];simp) id⟩
     · rw[List.mem_cons,ih,List.mem_cons]
theorem a_pw:∀{l:List Int},l.Pairwise (·≤·)→(cpt l).Pairwise (· < ·)
 | [],_=>by simp[cpt]
 | x::r,h=>by
   rw[List.pairwise_cons] at h
   have ih:=a_pw h.2
   rw[cpt]
   split
   · simp
   · rename_i y q hq
     rw[hq] at ih
     split
     · exact ih
     · rename_i hne
       rw[List.pairwise_cons]
       refine ⟨fun z hz=>?_,ih⟩
       have h1:y ∈ r:=(a_ed r y).1 (by rw[hq];simp)
       have h2:=h.1 y h1
       rcases List.mem_cons.1 hz with rfl | hz
       · omega
       · have:=(List.pairwise_cons.1 ih).1 z hz;omega
theorem a_hi:∀{a b:List Int},a.Pairwise (· < ·)→b.Pairwise (· < ·)→(∀z,z ∈ a↔z ∈ b)→a=b
 | [],[],_,_,_=>rfl
 | [],y::b,_,_,h=>absurd ((h y).2 (by simp)) (by simp)
 | x::a,[],_,_,h=>absurd ((h x).1 (by simp)) (by simp)
 | x::a,y::b,ha,hb,h=>by
   rw[List.pairwise_cons] at ha hb
   have e:x=y:=by
     have h1:=(h x).1 (by simp)
     have h2:=(h y).2 (by simp)
     rcases List.mem_cons.1 h1 with h1 | h1
     · exact h1
     · rcases List.mem_cons.1 h2 with h2 | h2
       · exact h2.symm
       · have:=hb.1 x h1;have:=ha.1 y h2;omega
   subst e
   congr 1
   refine a_hi ha.2 hb.2 fun z=>⟨fun hz=>?_,fun hz=>?_⟩
   · rcases List.mem_cons.1 ((h z).1 (by simp[hz])) with e | hz'
     · subst e;have:=ha.1 z hz;omega
     · exact hz'
   · rcases List.mem_cons.1 ((h z).2 (by simp[hz])) with e | hz'
     · subst e;have:=hb.1 z hz;omega
     · exact hz'
theorem a_ow {l:List Int}(h:l.Pairwise (·≤·)) :Lib.compact l=cpt l:=a_hi (a_fu h) (a_pw h) fun z=>by rw[a_ov,a_ed]
def Cf.lockR (r:Rt) :List Int:=cpt (k_u (r.Overlap ++ r.Path.map St.Sec ++ r.Flank.map Nd.Sec))
def Cf.lockL (c:Cf)(i:Int) :List Int:=match a_k c.Rts i with
 | some r=>Cf.lockR r
 | none=> []
theorem mem_lockR {r:Rt}{z:Int} :z ∈ Cf.lockR r↔z ∈ r.Overlap∨z ∈ r.Path.map St.Sec∨z ∈ r.Flank.map Nd.Sec:=by
 rw[Cf.lockR,a_ed,(a_p3 _).mem_iff];simp[or_assoc]
theorem a_a4 {c:Cf}{r:Rt}(h:RtOk c r){z:Int}(hz:z ∈ Cf.lockR r) :∃y,a_k c.Secs z=some y:=by
 rcases mem_lockR.1 hz with hz | hz | hz
 · obtain ⟨y,hy,_⟩:=(h.ov hz).1;exact ⟨y,hy⟩
 · obtain ⟨s,hs,rfl⟩:=List.mem_map.1 hz
   obtain ⟨y,hy,_⟩:=(h.step s hs).1.sec;exact ⟨y,hy⟩
 · obtain ⟨n,hn,rfl⟩:=List.mem_map.1 hz
   obtain ⟨y,hy,_⟩:=(h.fl.1 n hn).sec;exact ⟨y,hy⟩
theorem a_sl:∀l:List Int,(cpt l).length≤l.length
 | []=>Nat.le_refl _
 | x::r=>by
   have ih:=a_sl r
   rw[cpt]
   split
   · simp
   · rename_i y q h
     rw[h] at ih
     split
     · simp at ih ⊢;omega
     · simp at ih ⊢;omega
def g_o (m:Mv)(now cmd:Int) :Mv:=if m.Cmd≠cmd then ⟨cmd,now⟩ else m
def Co.inh (c:Cf)(k:Co)(r s:Int) :Bool:=
 let o:=(a_k k.Own s).getD 0 - 1
 decide (0≤o∧o≠r) && (decide ((c.rt o).Exit=(c.rt r).Entry) && inL (c.rt o).Overlap s)
def Co.blocked (c:Cf)(k:Co)(r:Int)(l:List Int) :Bool:=l.any fun s=>decide ((a_k k.Own s).getD 0≠0) && !k.inh c r s
def Co.may (c:Cf)(k:Co)(r:Int)(l:List Int) :Int:=
 if u_z c l k.Routes 0=true then 23 else if k.blocked c r l=true then 22 else 0
def b_b (c:Cf) :List St→Int
 | []=>0
 | s::r=>let n:=((a_k c.Secs s.Sec).getD ⟨0,0,0⟩).Line;if n > 0 then n else b_b c r
def j_3 (now:Int)(l:List Nd)(w:List Mv) :List Mv:=l.foldl (fun w n=>w.set n.Sec.toNat (g_o ((a_k w n.Sec).getD ⟨0,0⟩) now n.Pos)) w
def xsC (now:Int)(l:List Int)(w:List Mv) :List Mv:=l.foldl (fun w i=>w.set i.toNat (g_o ((a_k w i).getD ⟨0,0⟩) now 1)) w
def k_p (n:Int)(w:List Ls) :List Ls:=if n > 0 then w.set n.toNat { (a_k w n).getD zLs with Ask:=((a_k w n).getD zLs).Ask+1 } else w
def Co.lockC (c:Cf)(k:Co)(now r:Int) :Co:=
 { k with Own := (c.lockL r).foldl (fun w s => w.set s.toNat ((r + 1))) k.Own, Routes := k.Routes.set r.toNat ⟨1, 0, 0, 0⟩, Points := j_3 now (c.Needs r) k.Points, Xs := xsC now (c.Cross r) k.Xs,
          Lines:=k_p (b_b c (c.rt r).Path) k.Lines,Dirty:=true }
def Co.reqE (c:Cf)(k:Co)(r:Int) :Int:=
 match a_k k.Routes r with
 | none=>20
 | some x=>if x.State≠0 then 28 else if k.may c r (c.lockL r)≠0 then k.may c r (c.lockL r)
   else if b_b c (c.rt r).Path > 0∧((a_k k.Lines (b_b c (c.rt r).Path)).getD zLs).Ask≥4294967295 then 5 else 0
def Co.gate (c:Cf)(k:Co)(now:Int)(e:Int) :Int:=if k.fits c=false then 21 else if tm 0 now=false then 32 else e
def Co.done (k:Co)(e:Int)(y:Co) :Co × Int:=(if e=0 then y else k,e)
def Co.requestC (c:Cf)(k:Co)(now r:Int) :Co × Int:=k.done (k.gate c now (k.reqE c r)) (k.lockC c now r)
def Co.leadE (k:Co)(r:Int)(fr:List Int) :Int:=
 match a_k k.Routes r with
 | none=>20
 | some x=>if inL fr x.State=false then 28 else 0
def Co.leadY (k:Co)(r to now:Int) :Co:=
 let x:=(a_k k.Routes r).getD ⟨0,0,0,0⟩
 if to=4 then { k with Routes:=k.Routes.set r.toNat { x with State:=to,Since:=now,Mark:=0 },Dirty:=true } else { k with Routes:=k.Routes.set r.toNat { x with State:=to } }
def Co.leadC (c:Cf)(k:Co)(r to now:Int)(fr:List Int) :Co × Int:=k.done (k.gate c now (k.leadE r fr)) (k.leadY r to now)
def Co.cancelC (c:Cf)(k:Co)(now r:Int) :Co × Int:=k.leadC c r 4 now [1,2,3]
def Co.restoreC (c:Cf)(k:Co)(r:Int) :Co × Int:=k.leadC c r 1 0 [3]
def Co.releaseC (c:Cf)(k:Co)(now r:Int) :Co × Int:=k.leadC c r 4 now [5]
def Co.resetE (k:Co)(s:Int) :Int:=
 match a_k k.Own s with
 | none=>20
 | some o=>if o≠-1 then 28 else 0
def Co.resetC (c:Cf)(k:Co)(now s:Int) :Co × Int:=k.done (k.gate c now (k.resetE s)) { k with Resets:=k.Resets.set s.toNat ((now+1)) }
def Co.throwE (c:Cf)(k:Co)(s pos:Int) :Int:=
 match a_k k.Own s with
 | none=>20
 | some o=>if z_e c s≠1 then 20 else if pos≠1∧pos≠2 then 32 else if o≠0 then 22 else 0
def Co.throwC (c:Cf)(k:Co)(now s pos:Int) :Co × Int:=
 k.done (k.gate c now (k.throwE c s pos)) { k with Points:=k.Points.set s.toNat (g_o ((a_k k.Points s).getD ⟨0,0⟩) now pos) }
end
section
theorem zip_all {α β:Type}{f:α × β→Bool} :∀{a:List α} {b:List β},(a.zip b).all f=true↔∀(i:Nat) x y,a[i]? =some x→b[i]? =some y→f (x,y) =true
 | [],b=>by simp
 | x::a,[]=>by simp
 | x::a,y::b=>by
   rw[List.zip_cons_cons,List.all_cons,Bool.and_eq_true,zip_all (a:=a) (b:=b)]
   constructor
   · rintro ⟨h1,h2⟩ i p q hp hq
     cases i with
     | zero=>cases hp;cases hq;exact h1
     | succ i=>exact h2 i p q (by simpa using hp) (by simpa using hq)
   · intro h
     exact ⟨h 0 x y rfl rfl,fun i p q hp hq=>h (i+1) p q (by simpa using hp) (by simpa using hq)⟩
structure FitIs (c:Cf) (k:Co) :Prop where
 chk:c.check=0
 lOwn:k.Own.length=c.Secs.length
 lPts:k.Points.length=c.Secs.length
 lRes:k.Resets.length=c.Secs.length
 lRts:k.Routes.length=c.Rts.length
 lXs:k.Xs.length=c.Xs.length
 lLn:k.Lines.length=4
 own:∀o ∈ k.Own,-2≤o∧o≤c.Rts.length
 rts:∀(i:Nat) x r,k.Routes[i]? =some x→c.Rts[i]? =some r→Rs.fits (x,r) =true
 pts:∀m ∈ k.Points,Mv.fits m=true
 xs:∀m ∈ k.Xs,Mv.fits m=true
 lns:∀l ∈ k.Lines,Ls.fits l=true
 res:∀z ∈ k.Resets,tm 1 z=true
theorem fits_iff {c:Cf}{k:Co} :k.fits c=true↔FitIs c k:=by
 simp only[Co.fits,Co.lens,Co.parts,Bool.and_eq_true,decide_eq_true_eq,zip_all,List.all_eq_true,List.mem_append]
 constructor
 · rintro ⟨h1,⟨a1,a2,a3,a4,a5,a6⟩,b1,b2,b3,b4,b5⟩
   exact ⟨h1,a1,a2,a3,a4,a5,a6,b1,zip_all.1 (List.all_eq_true.2 b2),fun m h=>b3 m (.inl h),fun m h=>b3 m (.inr h),b4,b5⟩
 · intro h
   exact ⟨h.chk,⟨h.lOwn,h.lPts,h.lRes,h.lRts,h.lXs,h.lLn⟩,h.own,List.all_eq_true.1 (zip_all.2 h.rts),fun m hm=>hm.elim (h.pts m) (h.xs m),h.lns,h.res⟩
theorem d_3 {α:Type}{l:List α}{i:Int}{x:α}(h:a_k l i=some x) :x ∈ l:=List.mem_of_getElem? (a_l h).2.2
theorem v_u {α:Type}{l:List α}{i:Int}{p:α→Prop}{z:α}(hz:p z)(h:∀x ∈ l,p x) :p ((a_k l i).getD z):=by
 cases hg:a_k l i with
 | none=>exact hz
 | some x=>exact h x (d_3 hg)
theorem z_a {m:Mv}{now p:Int}(hm:Mv.fits m=true)(hn:tm 0 now=true)(hp:1≤p∧p≤2) :Mv.fits (g_o m now p) =true:=by
 unfold g_o
 split
 · simp only[tm,decide_eq_true_eq] at hn
   simp only[Mv.fits,Bool.and_eq_true,decide_eq_true_eq];omega
 · exact hm
theorem a_eu (now:Int) :∀(l:List Nd) (w:List Mv),(j_3 now l w).length=w.length
 | [],w=>rfl
 | n::l,w=>by unfold j_3;rw[List.foldl_cons];exact (a_eu now l _).trans (by simp)
theorem a_k0 {now:Int}(hn:tm 0 now=true) :∀(l:List Nd) (w:List Mv),(∀n ∈ l,1≤n.Pos∧n.Pos≤2)→(∀m ∈ w,Mv.fits m=true)→∀m ∈ j_3 now l w,Mv.fits m=true
 | [],w,_,h=>h
 | n::l,w,hl,h=>by
   unfold j_3;rw[List.foldl_cons]
   refine a_k0 hn l _ (fun x hx=>hl x (by simp[hx])) fun m hm=>?_
   rcases List.mem_or_eq_of_mem_set hm with hm | rfl
   · exact h m hm
   · exact z_a (v_u (p:=fun m=>Mv.fits m=true) rfl h) hn (hl n (by simp))
theorem a_l8 (now:Int) :∀(l:List Int) (w:List Mv),(xsC now l w).length=w.length
 | [],w=>rfl
 | n::l,w=>by unfold xsC;rw[List.foldl_cons];exact (a_l8 now l _).trans (by simp)
theorem a_om {now:Int}(hn:tm 0 now=true) :∀(l:List Int) (w:List Mv),(∀m ∈ w,Mv.fits m=true)→∀m ∈ xsC now l w,Mv.fits m=true
 | [],w,h=>h
 | n::l,w,h=>by
   unfold xsC;rw[List.foldl_cons]
   refine a_om hn l _ fun m hm=>?_
   rcases List.mem_or_eq_of_mem_set hm with hm | rfl
   · exact h m hm
   · exact z_a (v_u (p:=fun m=>Mv.fits m=true) rfl h) hn (by omega)
theorem z_k (o:Int) :∀(l w:List Int),(l.foldl (fun w s=>w.set s.toNat o) w).length=w.length
 | [],w=>rfl
 | s::l,w=>by rw[List.foldl_cons,z_k o l];simp
theorem a_qc {o:Int} :∀(l w:List Int) {z:Int},z ∈ l.foldl (fun w s=>w.set s.toNat o) w→z ∈ w∨z=o
 | [],w,z,h=> .inl h
 | s::l,w,z,h=>by
   rw[List.foldl_cons] at h
   rcases a_qc l _ h with h | h
   · rcases List.mem_or_eq_of_mem_set h with h | h
     · exact .inl h
     · exact .inr h
   · exact .inr h
theorem a_ey {o:Int} :∀(l w:List Int) {s:Nat},(∀x ∈ l,0≤x)→s < w.length→(l.foldl (fun w s=>w.set s.toNat o) w)[s]? =if (s:Int) ∈ l then some o else w[s]?
 | [],w,s,_,_=>by simp
 | x::l,w,s,hl,hs=>by
   rw[List.foldl_cons,a_ey l _ (fun y hy=>hl y (by simp[hy])) (by simpa using hs),List.getElem?_set]
   have hx:=hl x (by simp)
   by_cases h1:(s:Int) ∈ l
   · rw[if_pos h1,if_pos (by simp[h1])]
   · rw[if_neg h1]
     by_cases h2:(s:Int) =x
     · rw[if_pos (show x.toNat=s by omega),if_pos (show x.toNat < w.length by omega),if_pos (show (s:Int) ∈ x::l by simp[h2])]
     · rw[if_neg (show ¬x.toNat=s by omega),if_neg (show ¬(s:Int) ∈ x::l by simp[h1,h2])]
theorem x_9 {c:Cf}(h:c.check=0)(l:List St) :0≤b_b c l∧b_b c l≤3:=by
 induction l with
 | nil=>exact ⟨Int.le_refl _,by unfold b_b;omega⟩
 | cons s r ih=>
   rw[b_b]
   have hs:0≤((a_k c.Secs s.Sec).getD ⟨0,0,0⟩).Line∧((a_k c.Secs s.Sec).getD ⟨0,0,0⟩).Line≤3:=by
     refine v_u (p:=fun y:Sec=>0≤y.Line∧y.Line≤3) (by decide) fun y hy=>?_
     obtain ⟨i,hi,e⟩:=List.getElem_of_mem hy
     exact k_f (h_j h).1 (i:=i) (by rw[List.getElem?_eq_getElem hi,e])
   split
   · exact hs
   · exact ih
theorem a_oj {c:Cf}{k:Co}{r:Int}(h:k.reqE c r=0) :(∃x,a_k k.Routes r=some x∧x.State=0)∧u_z c (c.lockL r) k.Routes 0=false∧k.blocked c r (c.lockL r) =false∧
   (b_b c (c.rt r).Path > 0→((a_k k.Lines (b_b c (c.rt r).Path)).getD zLs).Ask < 4294967295):=by
 unfold Co.reqE at h
 split at h
 · cases h
 · rename_i x hx
   split at h
   · cases h
   split at h
   · rename_i h2;exact absurd h h2
   rename_i h1 h2
   have h2:k.may c r (c.lockL r) =0:=Decidable.not_not.1 h2
   split at h
   · cases h
   rename_i h3
   unfold Co.may at h2
   split at h2
   · cases h2
   split at h2
   · cases h2
   rename_i h4 h5
   exact ⟨⟨x,hx,Decidable.not_not.1 h1⟩,by simpa using h4,by simpa using h5,fun hl=>by have:=fun ha=>h3 ⟨hl,ha⟩;omega⟩
theorem a_uz {c:Cf}{k:Co}(hf:FitIs c k){r:Int}{x:Rs}(hx:a_k k.Routes r=some x) :∃y,a_k c.Rts r=some y∧y ∈ c.Rts:=by
 obtain ⟨h1,h2,h3⟩:=a_l hx
 have:=(List.getElem?_eq_some_iff.1 h3).1
 obtain ⟨y,hy⟩:=c_8 (l:=c.Rts) (i:=r) (by omega) (by have:=hf.lRts;omega)
 exact ⟨y,hy,d_3 hy⟩
theorem a_to {c:Cf}{k:Co}{now r:Int}(h:k.fits c=true)(hn:tm 0 now=true)(he:k.reqE c r=0) :(k.lockC c now r).fits c=true:=by
 rw[fits_iff] at h ⊢
 obtain ⟨⟨x,hx,hs⟩,h2,h3,h4⟩:=a_oj he
 obtain ⟨y,hy,hm⟩:=a_uz h hx
 have hok:=a_7 h.chk hm
 have hr:=(a_l hy)
 have hrl:=(List.getElem?_eq_some_iff.1 hr.2.2).1
 refine ⟨h.chk,by simp only[Co.lockC,z_k];exact h.lOwn,by simp only[Co.lockC,a_eu];exact h.lPts,h.lRes,by simp only[Co.lockC,List.length_set];exact h.lRts,by simp only[Co.lockC,a_l8];exact h.lXs,?_,?_,?_,?_,?_,?_,h.res⟩
 · simp only[Co.lockC,k_p];split <;> simp[h.lLn]
 · intro o ho
   simp only[Co.lockC] at ho
   rcases a_qc _ _ ho with ho | rfl
   · exact h.own o ho
   · omega
 · intro i z q hz hq
   simp only[Co.lockC,List.getElem?_set] at hz
   split at hz
   · split at hz
     · cases hz
       have:(0:Int)≤q.Path.length:=by omega
       simp only[Rs.fits,tm,Bool.and_eq_true,decide_eq_true_eq];omega
     · cases hz
   · exact h.rts i z q hz hq
 · refine a_k0 hn _ _ (fun n hn'=>?_) h.pts
   rw[Cf.Needs,b_j hy] at hn'
   exact (k_h hok hn').2
 · exact a_om hn _ _ h.xs
 · intro l hl
   simp only[Co.lockC,k_p] at hl
   split at hl
   · rename_i hg
     rcases List.mem_or_eq_of_mem_set hl with hl | rfl
     · exact h.lns l hl
     · have h5:=h4 hg
       have h6:=v_u (i:=b_b c (c.rt r).Path) (p:=fun l=>Ls.fits l=true) (z:=zLs) rfl h.lns
       simp only[Ls.fits,tm,Bool.and_eq_true,decide_eq_true_eq] at h6 ⊢
       omega
   · exact h.lns l hl
theorem a_t6 {c:Cf}{k:Co}{r to now:Int}{fr:List Int}(h:k.fits c=true)(hn:tm 0 now=true)(ht:0≤to∧to≤5)(he:k.leadE r fr=0) :(k.leadY r to now).fits c=true:=by
 rw[fits_iff] at h ⊢
 unfold Co.leadE at he
 split at he
 · cases he
 rename_i x hx
 have hfx:∀(q:Rt),c.Rts[r.toNat]? =some q→Rs.fits (x,q) =true:=fun q hq=>h.rts _ _ _ (a_l hx).2.2 hq
 have key:∀x',(∀q,Rs.fits (x,q) =true→Rs.fits (x',q) =true)→∀d,FitIs c { k with Routes:=k.Routes.set r.toNat x',Dirty:=d } :=by
   intro x' hx' d
   refine ⟨h.chk,h.lOwn,h.lPts,h.lRes,by simp only[List.length_set];exact h.lRts,h.lXs,h.lLn,h.own,fun i z q hz hq=>?_,h.pts,h.xs,h.lns,h.res⟩
   simp only[List.getElem?_set] at hz
   split at hz
   · rename_i e
     split at hz
     · cases hz;exact hx' q (hfx q (by rw[e];exact hq))
     · cases hz
   · exact h.rts i z q hz hq
 unfold Co.leadY
 simp only[hx,Option.getD_some]
 split
 · refine key _ (fun q hq=>?_) true
   simp only[Rs.fits,tm,Bool.and_eq_true,decide_eq_true_eq] at hq hn ⊢;omega
 · refine key _ (fun q hq=>?_) k.Dirty
   simp only[Rs.fits,tm,Bool.and_eq_true,decide_eq_true_eq] at hq ⊢;omega
theorem a_rn {c:Cf}{k:Co}{now s:Int}(h:k.fits c=true)(hn:tm 0 now=true) :Co.fits c { k with Resets:=k.Resets.set s.toNat (now+1) } =true:=by
 rw[fits_iff] at h ⊢
 refine ⟨h.chk,h.lOwn,h.lPts,by simp only[List.length_set];exact h.lRes,h.lRts,h.lXs,h.lLn,h.own,h.rts,h.pts,h.xs,h.lns,fun z hz=>?_⟩
 rcases List.mem_or_eq_of_mem_set hz with hz | rfl
 · exact h.res z hz
 · simp only[tm,decide_eq_true_eq] at hn ⊢;omega
theorem a_fj {c:Cf}{k:Co}{s pos:Int}(h:k.throwE c s pos=0) :a_k k.Own s=some 0∧z_e c s=1∧(pos=1∨pos=2):=by
 unfold Co.throwE at h
 split at h
 · cases h
 split at h
 · cases h
 split at h
 · cases h
 split at h
 · cases h
 rename_i o ho h1 h2 h3
 exact ⟨by rw[ho,Decidable.not_not.1 h3],Decidable.not_not.1 h1,by omega⟩
theorem a_q6 {c:Cf}{k:Co}{now s pos:Int}(h:k.fits c=true)(hn:tm 0 now=true)(he:k.throwE c s pos=0) :
   Co.fits c { k with Points:=k.Points.set s.toNat (g_o ((a_k k.Points s).getD ⟨0,0⟩) now pos) } =true:=by
 rw[fits_iff] at h ⊢
 refine ⟨h.chk,h.lOwn,by simp only[List.length_set];exact h.lPts,h.lRes,h.lRts,h.lXs,h.lLn,h.own,h.rts,fun m hm=>?_,h.xs,h.lns,h.res⟩
 rcases List.mem_or_eq_of_mem_set hm with hm | rfl
 · exact h.pts m hm
 · exact z_a (v_u (p:=fun m=>Mv.fits m=true) rfl h.pts) hn (by have:=(a_fj he).2.2;omega)
theorem s_3 {c:Cf}{k:Co}{now e:Int}(h:k.gate c now e=0) :k.fits c=true∧tm 0 now=true∧e=0:=by
 unfold Co.gate at h
 split at h
 · cases h
 split at h
 · cases h
 rename_i h1 h2
 exact ⟨by simpa using h1,by simpa using h2,h⟩
theorem a_fm {c:Cf}{now:Int}(h:c.check=0)(hn:tm 0 now=true) :(b_o c now).fits c=true:=by
 rw[fits_iff]
 simp only[tm,decide_eq_true_eq] at hn
 refine ⟨h,by simp[b_o],by simp[b_o],by simp[b_o],by simp[b_o],by simp[b_o],by simp[b_o],fun o ho=>?_,fun i x r hx hr=>?_,fun m hm=>?_,fun m hm=>?_,fun l hl=>?_,fun z hz=>?_⟩
 · obtain ⟨_,rfl⟩:=List.mem_replicate.1 ho;omega
 · obtain ⟨_,rfl⟩:=List.mem_replicate.1 (List.mem_of_getElem? hx)
   have:(0:Int)≤r.Path.length:=by omega
   simp only[Rs.fits,tm,Bool.and_eq_true,decide_eq_true_eq];omega
 · obtain ⟨s,hs,rfl⟩:=List.mem_map.1 hm
   simp only[Mv.fits,Bool.and_eq_true,decide_eq_true_eq];split <;> omega
 · obtain ⟨_,rfl⟩:=List.mem_replicate.1 hm
   simp only[Mv.fits,Bool.and_eq_true,decide_eq_true_eq];omega
 · obtain ⟨_,rfl⟩:=List.mem_replicate.1 hl;rfl
 · obtain ⟨_,rfl⟩:=List.mem_replicate.1 hz;rfl
end
end Go.Fw
namespace Go.Proofs.YtdmfnhbmhkgemaaGreat
open Go.Shelf Go.Proofs
open Go.Proofs.Tryz (prog)
section
def a_lw:Go.Shelf.Ren:=⟨fun | 189=>136 | 125=>164 | 257=>163 | 128=>182 | 129=>183 | 294=>173 | 295=>174 | 296=>175 | 297=>176 | 298=>177 | 299=>178 | 216=>179 | 300=>180 | 301=>181 | 328=>187 | 329=>188 | 330=>189 | 331=>190 | 332=>191 | 215=>192 | 343=>193 | n=>n,fun | 28=>25 | 3=>3 | 46=>116 | 0=>0 | 51=>167 | 53=>170 | 4=>4 | 183=>246 | 182=>245 | 131=>111 | 5=>5 | 9=>9 | 218=>255 | 222=>259 | 228=>261 | 229=>262 | n=>n,fun | n=>n⟩
theorem a_wg:Go.Proofs.Lays.n189 prog a_lw:= {
 mixed:=by kernel_rfl
 f125:=Tryz.func164.trans (congrArg some (by kernel_rfl))
 f128:=Tryz.func182.trans (congrArg some (by kernel_rfl))
 f129:=Tryz.func183.trans (congrArg some (by kernel_rfl))
 f189:=Tryz.func136.trans (congrArg some (by kernel_rfl))
 f215:=Tryz.func192.trans (congrArg some (by kernel_rfl))
 f216:=Tryz.func179.trans (congrArg some (by kernel_rfl))
 f257:=Tryz.func163.trans (congrArg some (by kernel_rfl))
 f294:=Tryz.func173.trans (congrArg some (by kernel_rfl))
 f295:=Tryz.func174.trans (congrArg some (by kernel_rfl))
 f296:=Tryz.func175.trans (congrArg some (by kernel_rfl))
 f297:=Tryz.func176.trans (congrArg some (by kernel_rfl))
 f298:=Tryz.func177.trans (congrArg some (by kernel_rfl))
 f299:=Tryz.func178.trans (congrArg some (by kernel_rfl))
 f300:=Tryz.func180.trans (congrArg some (by kernel_rfl))
 f301:=Tryz.func181.trans (congrArg some (by kernel_rfl))
 f328:=Tryz.func187.trans (congrArg some (by kernel_rfl))
 f329:=Tryz.func188.trans (congrArg some (by kernel_rfl))
 f330:=Tryz.func189.trans (congrArg some (by kernel_rfl))
 f331:=Tryz.func190.trans (congrArg some (by kernel_rfl))
 f332:=Tryz.func191.trans (congrArg some (by kernel_rfl))
 f343:=Tryz.func193.trans (congrArg some (by kernel_rfl))
 t0:=Tryz.underlying0
 a0:=Tryz.isAgg0
 z0:=Tryz.sizeOf0
 v0:=Tryz.zeroValue0
 t3:=Tryz.underlying3
 a3:=Tryz.isAgg3
 z3:=Tryz.sizeOf3
 v3:=Tryz.zeroValue3
 t4:=Tryz.underlying4
 a4:=Tryz.isAgg4
 z4:=Tryz.sizeOf4
 v4:=Tryz.zeroValue4
 t5:=Tryz.underlying5
 a5:=Tryz.isAgg5
 z5:=Tryz.sizeOf5
 v5:=Tryz.zeroValue5
 t9:=Tryz.underlying9
 a9:=Tryz.isAgg9
 z9:=Tryz.sizeOf9
 v9:=Tryz.zeroValue9
 t28:=Tryz.underlying25
 a28:=Tryz.isAgg25
 z28:=Tryz.sizeOf25
 v28:=Tryz.zeroValue25
 t46:=Tryz.underlying116
 a46:=Tryz.isAgg116
 z46:=Tryz.sizeOf116
 v46:=Tryz.zeroValue116
 t51:=Tryz.underlying167
 a51:=Tryz.isAgg167
 z51:=Tryz.sizeOf167
 v51:=Tryz.zeroValue167
 t53:=Tryz.underlying170
 a53:=Tryz.isAgg170
 z53:=Tryz.sizeOf170
 v53:=Tryz.zeroValue170
 t131:=Tryz.underlying111
 a131:=Tryz.isAgg111
 z131:=Tryz.sizeOf111
 v131:=Tryz.zeroValue111
 t182:=Tryz.underlying245
 a182:=Tryz.isAgg245
 z182:=Tryz.sizeOf245
 v182:=Tryz.zeroValue245
 t183:=Tryz.underlying246
 a183:=Tryz.isAgg246
 z183:=Tryz.sizeOf246
 v183:=Tryz.zeroValue246
 t218:=Tryz.underlying255
 a218:=Tryz.isAgg255
 z218:=Tryz.sizeOf255
 v218:=Tryz.zeroValue255
 t222:=Tryz.underlying259
 a222:=Tryz.isAgg259
 z222:=Tryz.sizeOf259
 v222:=Tryz.zeroValue259
 t228:=Tryz.underlying261
 a228:=Tryz.isAgg261
 z228:=Tryz.sizeOf261
 v228:=Tryz.zeroValue261
 t229:=Tryz.underlying262
 a229:=Tryz.isAgg262
 z229:=Tryz.sizeOf262
 v229:=Tryz.zeroValue262 }
end
section
def a_c8:Go.Shelf.Ren:=⟨fun | 20=>137 | n=>n,fun | 22=>25 | 3=>3 | 4=>4 | 0=>0 | n=>n,fun | n=>n⟩
theorem a_od:Go.Proofs.Lays2.n20 prog a_c8:= {
 mixed:=by kernel_rfl
 f20:=Tryz.func137.trans (congrArg some (by kernel_rfl))
 t0:=Tryz.underlying0
 a0:=Tryz.isAgg0
 z0:=Tryz.sizeOf0
 v0:=Tryz.zeroValue0
 t3:=Tryz.underlying3
 a3:=Tryz.isAgg3
 z3:=Tryz.sizeOf3
 v3:=Tryz.zeroValue3
 t4:=Tryz.underlying4
 a4:=Tryz.isAgg4
 z4:=Tryz.sizeOf4
 v4:=Tryz.zeroValue4
 t22:=Tryz.underlying25
 a22:=Tryz.isAgg25
 z22:=Tryz.sizeOf25
 v22:=Tryz.zeroValue25
 i3:=by kernel_rfl }
end
end Go.Proofs.YtdmfnhbmhkgemaaGreat
namespace Go.Proofs.YtdmfnhbmhkgemaaGreat
open Go.Fw Go.Proofs Go.RowKit
open Go.Proofs.Tryz (prog)
section
variable {σ σ0:Store}
theorem a_n8 {s:Store}{d:D}{l ys:List Int}(h:Own prog σ0 s a_i d (l.map Go.Fw.encI))(h0:l≠[])(hl:ys.length=l.length) :
   ∃id i0 t rows,d= .osl id i0 l.length∧s id= .live t rows∧prog.cellsOf t=1∧i0+l.length≤rows.length∧(rows.drop i0).take l.length=l.map i_w∧σ0 id= .free∧
     Own prog σ0 (s.set id (.live t (rows.take i0 ++ ys.map i_w ++ rows.drop (i0+l.length)))) a_i d (ys.map Go.Fw.encI):=by
 have hr:=h.at_.rows
 have hsz:=h.at_.size
 rw[List.length_map] at hsz
 have hnz:=h.nz
 have hns:=h.nsl
 have hnew:=h.new
 have hlen:=h.at_.lenI
 rw[List.length_map] at hlen
 cases d <;> simp only[Go.Fw.Rows] at hr <;> try exact hr.elim
 · exact absurd (List.map_eq_nil_iff.1 hr) h0
 · exact absurd rfl hnz
 · exact absurd trivial hns
 · rename_i id i0 len
   obtain ⟨t,rows,a1,a2,a3,a4⟩:=hr
   have e:l.length=len:=hlen
   subst e
   have ht:prog.cellsOf t=1:=by rw[a2];exact c_int
   have hn:=hnew _ _ _ rfl
   refine ⟨id,i0,t,rows,rfl,a1,ht,a3,a4.symm,hn,⟨⟨⟨t,_,Store.set_same _ _ _,a2,?_,?_⟩,?_,fun es rows e=>by cases e⟩,?_,hnew,fun h=>h,by intro e;cases e⟩⟩
   · simp;omega
   · have hi0:(rows.take i0).length=i0:=by simp;omega
     rw[List.append_assoc,List.drop_append_of_le_length (by omega),List.drop_of_length_le (by omega),List.nil_append,List.take_append_of_le_length (by simp;omega),List.take_of_length_le (by simp;omega)]
     rfl
   · rw[List.length_map];omega
   · intro i hi
     rw[Store.set_ne _ _ (by intro e;subst e;exact hi hn)]
     exact h.ext i hi
theorem a_pa {s:Store}{d:D}{l:List Int}(h:Own prog σ0 s a_i d (l.map Go.Fw.encI))(h0:l≠[]) :
   DCalls prog l_x [.one d] s fun r s'=>r= .tup []∧Own prog σ0 s' a_i d ((k_u l).map Go.Fw.encI):=by
 have hsz:=h.at_.size
 rw[List.length_map] at hsz
 obtain ⟨id,i0,t,rows,rfl,a1,ht,a3,a4,hn,ho⟩:=a_n8 (ys:=k_u l) h h0 (by simp[k_u])
 refine (a_o7 a_wg ht a1 a3 a4 (List.length_pos_iff.2 h0) (by omega)).mono ?_
 rintro r s' ⟨rfl,rfl⟩
 exact ⟨rfl,ho⟩
theorem a_f1 {s:Store}{d:D}{l:List Int}(h:Own prog σ0 s a_i d (l.map Go.Fw.encI))(h0:l≠[])(hp:l.Pairwise (·≤·)) :
   DCalls prog j_d [.one d] s fun r s'=>∃d',r= .a (.one d')∧Own prog σ0 s' a_i d' ((cpt l).map Go.Fw.encI):=by
 have hsz:=h.at_.size
 rw[List.length_map] at hsz
 have hc:=a_ow hp
 have hle:=a_sl l
 obtain ⟨id,i0,t,rows,rfl,a1,ht,a3,a4,hn,ho⟩:=a_n8 (ys:=Lib.compact l ++ List.replicate (l.length - (Lib.compact l).length) 0) h h0 (by rw[hc];simp;omega)
 refine (a_hh a_od ht a1 a3 a4 (List.length_pos_iff.2 h0) (by omega)).mono ?_
 rintro r s' ⟨rfl,rfl⟩
 have:=ho.sub (lo:=0) (hi:=(cpt l).length) (by omega) (by rw[hc];simp)
 rw[hc] at this ⊢
 refine ⟨_,rfl,?_⟩
 have e:((((cpt l ++ List.replicate (l.length - (cpt l).length) 0).map Go.Fw.encI).drop 0).take ((cpt l).length - 0)) =(cpt l).map Go.Fw.encI:=by
   rw[List.drop_zero,Nat.sub_zero,List.map_append,List.take_append_of_le_length (by simp),List.take_of_length_le (by simp)]
 rw[e] at this
 exact this
def u_4:D→Prop
 | .sl _ rows=>∀row ∈ rows,row[4]?≠some .zsl
 | _=>True
theorem a_sw {c4:D}{rows:List (List D)}(hz:u_4 c4)(hat:∀s,At prog s m_f c4 rows){i:Nat}{row:List D}(hr:rows[i]? =some row) :row[4]?≠some .zsl:=by
 have hx:=(hat (fun _=> .free)).rows
 cases c4 <;> simp only[Go.Fw.Rows] at hx <;> try exact hx.elim
 · subst hx;simp at hr
 · subst hx;simp at hr
 · obtain ⟨rfl,_⟩:=hx;exact hz _ (List.mem_of_getElem? hr)
 · obtain ⟨t,rows',h1,_⟩:=hx;cases h1
section
variable {c0 c1 c2 c3 c4:D} {c:Cf} (h:∀s,CfAt s c0 c1 c2 c3 c4 c) (hok:c.check=0) (hz:u_4 c4)
include h hok hz
theorem a_ix (i:Int) :DCalls prog o_f [cfA c0 c1 c2 c3 c4 c,iA i] σ (b_r σ a_i ((c.lockL i).map Go.Fw.encI)):=by
 refine (a_k8 _ _ _ _ _ _ _ _ _ i σ _ ?_).ret (Q:=fun r s=>∃r' σ',Ret prog σ s r σ' r'∧b_r σ a_i ((c.lockL i).map Go.Fw.encI) r' σ') (fun r s h=>h)
 intro R hR
 have nil:a_k c.Rts i=none→∃r' σ',Ret prog σ σ (.a (.one .nils)) σ' r'∧b_r σ a_i ((c.lockL i).map Go.Fw.encI) r' σ':=fun e=>by
   have:c.lockL i=[]:=by unfold Cf.lockL;rw[e]
   rw[this];exact c_n (.nil _ (.refl _)) (v_e _)
 obtain ⟨rows,hat,hlen⟩:=i_1 (h σ)
 refine bcd (fun e=>nil (b_z e)) (fun e0=>hat.lenK (bcd (fun e=>nil (c_z (by omega))) (fun e1=>hR σ ?_)))
 obtain ⟨x,hx⟩:=c_8 (l:=c.Rts) (i:=i) e0 (by omega)
 clear hR nil hat
 have hr:=a_7 hok (d_3 hx)
 have hll:c.lockL i=Cf.lockR x:=by unfold Cf.lockL;rw[hx]
 rw[hll]
 obtain ⟨rows,d1,d2,d3,hat,hlen,hrow,q1,q2,q3⟩:=p_h h (a_l hx).2.2
 have w1:=hr.len
 have w2:=hr.flen
 have w3:=hr.olen
 refine (hat σ).load hrow c_p (by omega) ⟨_,_,_,_,_,_,rfl,(d_6 (q3 σ) ?_ (by rw[List.length_map];omega)).mono ?_⟩
 · exact fun e=>a_sw hz hat hrow (by rw[e];rfl)
 rintro r s ⟨d,rfl,ho⟩
 refine ⟨d,rfl,(q1 σ).lenK ⟨fun d n s'=>∃j:Nat,n=j∧j≤x.Path.length∧Own prog σ s' a_i d ((x.Overlap ++ (x.Path.take j).map St.Sec).map Go.Fw.encI),fun _ n _=>x.Path.length - n.toNat,⟨0,rfl,by omega,by simpa using ho⟩,?_⟩⟩
 rintro d n s' ⟨j,rfl,hj,ho⟩
 rw[List.length_map]
 refine bcd (fun hlt=>?_) (fun hge=>?_)
 · obtain ⟨y,hy⟩:=a_g (l:=x.Path) (j:=j) (by omega)
   refine (q1 s').load (a_c hy) g_f rfl ⟨y.Sec,y.In,y.Out,rfl,a_d fun id s2 hid _ he hs2=>?_⟩
   refine (ho.ext' he).append (At.fresh hs2 (by simp) rfl) (by simp;omega) (by simp;omega) fun d4 s5 ho5 _ _=>?_
   rw[a_m (by omega)]
   refine ⟨rfl,⟨j+1,rfl,by omega,?_⟩,c_9 (by omega)⟩
   have e:x.Overlap ++ (x.Path.take (j+1)).map St.Sec=(x.Overlap ++ (x.Path.take j).map St.Sec) ++ [y.Sec]:=by rw[List.take_add_one,hy];simp
   rw[e,List.map_append];exact ho5
 have e:j=x.Path.length:=by omega
 rw[e,List.take_length] at ho
 refine (q2 s').lenK ⟨fun d n s'=>∃j:Nat,n=j∧j≤x.Flank.length∧Own prog σ s' a_i d ((x.Overlap ++ x.Path.map St.Sec ++ (x.Flank.take j).map Nd.Sec).map Go.Fw.encI),fun _ n _=>x.Flank.length - n.toNat,⟨0,rfl,by omega,by simpa using ho⟩,?_⟩
 rintro d n s' ⟨j,rfl,hj,ho⟩
 rw[List.length_map]
 refine bcd (fun hlt=>?_) (fun hge=>?_)
 · obtain ⟨y,hy⟩:=a_g (l:=x.Flank) (j:=j) (by omega)
   refine (q2 s').load (a_c hy) m_m rfl ⟨y.Sec,y.Pos,rfl,a_d fun id s2 hid _ he hs2=>?_⟩
   refine (ho.ext' he).append (At.fresh hs2 (by simp) rfl) (by simp;omega) (by simp;omega) fun d4 s5 ho5 _ _=>?_
   rw[a_m (by omega)]
   refine ⟨⟨j+1,rfl,by omega,?_⟩,c_9 (by omega)⟩
   have e:x.Overlap ++ x.Path.map St.Sec ++ (x.Flank.take (j+1)).map Nd.Sec=(x.Overlap ++ x.Path.map St.Sec ++ (x.Flank.take j).map Nd.Sec) ++ [y.Sec]:=by rw[List.take_add_one,hy];simp
   rw[e,List.map_append];exact ho5
 have e:j=x.Flank.length:=by omega
 rw[e,List.take_length] at ho
 have hne:x.Overlap ++ x.Path.map St.Sec ++ x.Flank.map Nd.Sec≠[]:=by
   intro e
   have:=congrArg List.length e
   simp only[List.length_append,List.length_map,List.length_nil] at this;omega
 refine (a_pa ho hne).mono ?_
 rintro r s2 ⟨rfl,ho⟩
 refine ⟨rfl,(a_f1 ho (fun e=>hne (by
   have:=congrArg List.length e
   simp only[k_u,List.length_mergeSort] at this
   exact List.length_eq_zero_iff.1 this)) (a_p7 _)).mono ?_⟩
 rintro r s3 ⟨d',rfl,ho⟩
 exact ⟨d',rfl,c_n ho (v_e _)⟩
end
end
section
variable {σ σ0:Store}
def cfC (c0 c1 c2 c3 c4:D)(c:Cf) :List D:= [c0,c1,c2,c3,c4,iD c.Age,iD c.Brake,iD c.Hold,iD c.Budget]
theorem CoOwn.from {σ1 s:Store}{d0 d1 d2 d3 d4 d5:D}{k:Co}(he:Ext σ σ1)(h:CoOwn σ1 s d0 d1 d2 d3 d4 d5 k) :CoOwn σ s d0 d1 d2 d3 d4 d5 k:=
 ⟨h.own.from he,h.routes.from he,h.points.from he,h.xs.from he,h.lines.from he,h.resets.from he,h.apart⟩
theorem CoAt.ext' {s:Store}{d0 d1 d2 d3 d4 d5:D}{k:Co}(h:CoAt σ d0 d1 d2 d3 d4 d5 k)(he:Ext σ s) :CoAt s d0 d1 d2 d3 d4 d5 k:=
 ⟨h.own.ext he,h.routes.ext he,h.points.ext he,h.xs.ext he,h.lines.ext he,h.resets.ext he⟩
theorem u_w {c0 c1 c2 c3 c4:D}{c:Cf}(hc:∀s,CfAt s c0 c1 c2 c3 c4 c){k0 k1 k2 k3 k4 k5:D}{k:Co}(h:CoAt σ k0 k1 k2 k3 k4 k5 k)(hf:CoFit k0 k1 k2 k3 k4 k5 k) :
   DCalls prog j_4 [cfA c0 c1 c2 c3 c4 c,coA k0 k1 k2 k3 k4 k5 k.Dirty] σ fun r s=>
     ∃id d0 d1 d2 d3 d4 d5,r= .tup [.one (.el (.osl id 0 1) 0 0),bA (k.fits c)]∧CoIn σ s id d_k (cfC c0 c1 c2 c3 c4 c) [] d0 d1 d2 d3 d4 d5 k:=by
 refine a_m6 _ _ _ _ _ _ _ _ _ k0 k1 k2 k3 k4 k5 k.Dirty σ _ (a_d fun id a0 hid _ e0 q0=>?_)
 have nid:∀{s0 s:Store} {el:TypeId} {d:D} {rs:List (List D)},Own prog s0 s el d rs→s0 id≠ .free→a_5 d≠some id:=by
   intro s0 s el d rs ho hne he
   cases d with
   | osl i a n=>
     have:i=id:=by simpa[a_5] using he
     subst this
     exact hne (ho.new _ _ _ rfl)
   | _=>simp[a_5] at he
 have n0:a0 id≠ .free:=by rw[q0];intro e;cases e
 refine (d_6 (h.own.ext e0) hf.n0 (by rw[List.length_map];exact hf.b0)).mono ?_
 rintro r b0 ⟨d0,rfl,o0⟩
 refine ⟨d0,rfl,b_i ((o0.ext id n0).trans q0) (by simp[patch]) fun a1 q1 f0=>?_⟩
 have i0:=nid o0 n0
 have p0:=a_h (o0.from e0) hid i0 f0
 have e1:=p0.ext
 have n1:a1 id≠ .free:=by rw[q1];intro e;cases e
 refine (g_g (h.routes.ext e1) hf.n1 (by rw[List.length_map];exact hf.b1)).mono ?_
 rintro r b1 ⟨d1,rfl,o1⟩
 refine ⟨d1,rfl,b_i ((o1.ext id n1).trans q1) (by simp[patch]) fun a2 q2 f1=>?_⟩
 have i1:=nid o1 n1
 have ap01:=o1.apart p0.at_
 have p0:=a_h (p0.ext' o1.ext) hid i0 f1
 have p1:=a_h (o1.from e1) hid i1 f1
 have e2:=p1.ext
 have n2:a2 id≠ .free:=by rw[q2];intro e;cases e
 refine (e_n (h.points.ext e2) hf.n2 (by rw[List.length_map];exact hf.b2)).mono ?_
 rintro r b2 ⟨d2,rfl,o2⟩
 refine ⟨d2,rfl,b_i ((o2.ext id n2).trans q2) (by simp[patch]) fun a3 q3 f2=>?_⟩
 have i2:=nid o2 n2
 have ap02:=o2.apart p0.at_
 have ap12:=o2.apart p1.at_
 have p0:=a_h (p0.ext' o2.ext) hid i0 f2
 have p1:=a_h (p1.ext' o2.ext) hid i1 f2
 have p2:=a_h (o2.from e2) hid i2 f2
 have e3:=p2.ext
 have n3:a3 id≠ .free:=by rw[q3];intro e;cases e
 refine (e_n (h.xs.ext e3) hf.n3 (by rw[List.length_map];exact hf.b3)).mono ?_
 rintro r b3 ⟨d3,rfl,o3⟩
 refine ⟨d3,rfl,b_i ((o3.ext id n3).trans q3) (by simp[patch]) fun a4 q4 f3=>?_⟩
 have i3:=nid o3 n3
 have ap03:=o3.apart p0.at_
 have ap13:=o3.apart p1.at_
 have ap23:=o3.apart p2.at_
 have p0:=a_h (p0.ext' o3.ext) hid i0 f3
 have p1:=a_h (p1.ext' o3.ext) hid i1 f3
 have p2:=a_h (p2.ext' o3.ext) hid i2 f3
 have p3:=a_h (o3.from e3) hid i3 f3
 have e4:=p3.ext
 have n4:a4 id≠ .free:=by rw[q4];intro e;cases e
 refine (g_1 (h.lines.ext e4) hf.n4 (by rw[List.length_map];exact hf.b4)).mono ?_
 rintro r b4 ⟨d4,rfl,o4⟩
 refine ⟨d4,rfl,b_i ((o4.ext id n4).trans q4) (by simp[patch]) fun a5 q5 f4=>?_⟩
 have i4:=nid o4 n4
 have ap04:=o4.apart p0.at_
 have ap14:=o4.apart p1.at_
 have ap24:=o4.apart p2.at_
 have ap34:=o4.apart p3.at_
 have p0:=a_h (p0.ext' o4.ext) hid i0 f4
 have p1:=a_h (p1.ext' o4.ext) hid i1 f4
 have p2:=a_h (p2.ext' o4.ext) hid i2 f4
 have p3:=a_h (p3.ext' o4.ext) hid i3 f4
 have p4:=a_h (o4.from e4) hid i4 f4
 have e5:=p4.ext
 have n5:a5 id≠ .free:=by rw[q5];intro e;cases e
 refine (d_6 (h.resets.ext e5) hf.n5 (by rw[List.length_map];exact hf.b5)).mono ?_
 rintro r b5 ⟨d5,rfl,o5⟩
 refine ⟨d5,rfl,b_i ((o5.ext id n5).trans q5) (by simp[patch]) fun a6 q6 f5=>?_⟩
 have i5:=nid o5 n5
 have ap05:=o5.apart p0.at_
 have ap15:=o5.apart p1.at_
 have ap25:=o5.apart p2.at_
 have ap35:=o5.apart p3.at_
 have ap45:=o5.apart p4.at_
 have p0:=a_h (p0.ext' o5.ext) hid i0 f5
 have p1:=a_h (p1.ext' o5.ext) hid i1 f5
 have p2:=a_h (p2.ext' o5.ext) hid i2 f5
 have p3:=a_h (p3.ext' o5.ext) hid i3 f5
 have p4:=a_h (p4.ext' o5.ext) hid i4 f5
 have p5:=a_h (o5.from e5) hid i5 f5
 have e6:=p5.ext
 have n6:a6 id≠ .free:=by rw[q6];intro e;cases e
 refine (f_a hc (h.ext' e6)).use ⟨_,rfl,id,d0,d1,d2,d3,d4,d5,rfl,hid,q6,⟨p0,p1,p2,p3,p4,p5,?_⟩,?_⟩
 · simp only[List.pairwise_cons,List.mem_cons,List.not_mem_nil,or_false,forall_eq_or_imp,forall_eq,List.Pairwise.nil,and_true,false_imp_iff,implies_true]
   exact ⟨⟨ap01,ap02,ap03,ap04,ap05⟩,⟨ap12,ap13,ap14,ap15⟩,⟨ap23,ap24,ap25⟩,⟨ap34,ap35⟩,ap45⟩
 · intro d hd
   simp only[List.mem_cons,List.not_mem_nil,or_false] at hd
   rcases hd with rfl | rfl | rfl | rfl | rfl | rfl <;> assumption
end
end Go.Proofs.YtdmfnhbmhkgemaaGreat
