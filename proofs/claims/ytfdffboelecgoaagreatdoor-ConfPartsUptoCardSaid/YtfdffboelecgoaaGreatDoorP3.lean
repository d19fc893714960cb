/-
  Proofs that the statement of this claim leans on: part 3.
-/
import Derived.Test.YtfdffboelecgoaaGreatDoorP2
set_option linter.unusedVariables false
set_option linter.unusedSimpArgs false
namespace Go.Fw
section
abbrev w64 (n:Int) :Int:=IntKind.i64.wrap n
inductive Fz (P:Program) (σ:Store) (S:Nat→Prop) :D→D→Prop
 | int (q n) :Fz P σ S (.int q n) (.int q n)
 | bool (b) :Fz P σ S (.bool b) (.bool b)
 | str (s) :Fz P σ S (.str s) (.str s)
 | nils:Fz P σ S .nils .nils
 | zsl:Fz P σ S .zsl .zsl
 | sl (es : Nat) (rows rows' : List (List D)) (hl : rows'.length = rows.length) (hr : ∀ (i : Nat) row row', rows[i]? = some row → rows'[i]? = some row' → row'.length = row.length)
     (hc:∀(i:Nat) row row' (j:Nat) d d',rows[i]? =some row→rows'[i]? =some row'→row[j]? =some d→row'[j]? =some d'→Fz P σ S d d') :Fz P σ S (.sl es rows) (.sl es rows')
 | keep (id i len) (h:S id) :Fz P σ S (.osl id i len) (.osl id i len)
 | osl (id i len : Nat) (t : TypeId) (rows rows' : List (List D)) (hn : ¬ S id) (hs : σ id = .live t rows) (hi : i + len ≤ rows.length) (hl : rows'.length = len)
     (hr:∀(j:Nat) row row',rows[i+j]? =some row→rows'[j]? =some row'→row'.length=row.length)
     (hc:∀(j:Nat) row row' (m:Nat) d d',rows[i+j]? =some row→rows'[j]? =some row'→row[m]? =some d→row'[m]? =some d'→Fz P σ S d d') :Fz P σ S (.osl id i len) (.sl (P.cellsOf t) rows')
 | nilp:Fz P σ S .nilp .nilp
 | el (s i off) (h:Fz P σ S s s) :Fz P σ S (.el s i off) (.el s i off)
 | nilf:Fz P σ S .nilf .nilf
 | fn0 (f) :Fz P σ S (.fn f [] []) (.fn f [] [])
 | nilm:Fz P σ S .nilm .nilm
 | omap (id) (h:S id) :Fz P σ S (.omap id) (.omap id)
 | ifc (b) :Fz P σ S (.ifc b) (.ifc b)
def FzL (P:Program)(σ:Store)(S:Nat→Prop)(ds ds':List D) :Prop:=
 ds'.length=ds.length∧∀(i:Nat) d d',ds[i]? =some d→ds'[i]? =some d'→Fz P σ S d d'
def FzA (P:Program)(σ:Store)(S:Nat→Prop) :A→A→Prop
 | .one d, .one d'=>Fz P σ S d d'
 | .agg cs, .agg cs'=>FzL P σ S cs cs'
 | _,_=>False
def FzR (P:Program)(σ:Store)(S:Nat→Prop) :RV→RV→Prop
 | .a x, .a y=>FzA P σ S x y
 | .tup xs, .tup ys=>ys.length=xs.length∧∀(i:Nat) x y,xs[i]? =some x→ys[i]? =some y→FzA P σ S x y
 | _,_=>False
def FzO (P:Program)(σ0 σ:Store)(S:Nat→Prop)(i:Nat)(so':SO) :Prop:=
 (so'=σ i∧σ i=σ0 i)∨
 match σ i,so' with
 | .free, .free=>True
 | .dead, .dead=>True
 | .live t rows, .live t' rows'=>t'=t∧rows'.length=rows.length∧∀(j:Nat) row row',rows[j]? =some row→rows'[j]? =some row'→FzL P σ S row row'
 | .mp c es, .mp c' es'=>c'=c∧es'.length=es.length∧∀(j:Nat) e e',es[j]? =some e→es'[j]? =some e'→e'.1=e.1∧FzA P σ S e.2.1 e'.2.1∧FzA P σ S e.2.2 e'.2.2
 | _,_=>False
def Ret (P:Program)(σ0 σ:Store)(r:RV)(σ':Store)(r':RV) :Prop:=
 ∃S:Nat→Prop,(∀i,σ0 i≠ .free→S i)∧(∀i,¬S i→σ' i= .free)∧(∀i,S i→FzO P σ0 σ S i (σ' i))∧FzR P σ S r r'
section
variable {P:Program} {k k0:Nat→Prop} {β β0:Bk} {σ σ0 σ':Store} {W W0:World} {S:Nat→Prop} {β2:Bk}
def k_d (β:Bk)(S:Nat→Prop)(β2:Bk) :Prop:=(∀i,S i→β2 i=β i)∧∀i,¬S i→β2 i=none
theorem a_di (β:Bk)(S:Nat→Prop) :∃β2,k_d β S β2:=by
 have h:∀i,∃b:Option BI,(S i→b=β i)∧(¬S i→b=none):=fun i=>by
   by_cases hs:S i
   · exact ⟨β i,fun _=>rfl,fun h=>absurd hs h⟩
   · exact ⟨none,fun h=>absurd h hs,fun _=>rfl⟩
 obtain ⟨f,hf⟩:=Classical.axiomOfChoice h
 exact ⟨f,fun i hi=>(hf i).1 hi,fun i hi=>(hf i).2 hi⟩
def u_i (k:Nat→Prop)(β:Bk)(σ:Store)(S:Nat→Prop) :Nat→Prop:=fun b=>k b∨∃i bi t rows,β i=some bi∧¬S i∧σ i= .live t rows∧bi.blk=b
theorem d_2 {β2:Bk}(hB:k_d β S β2){i:Nat}{bi:BI}(h:β2 i=some bi) :S i∧β i=some bi:=by
 by_cases hs:S i
 · rw[hB.1 i hs] at h;exact ⟨hs,h⟩
 · rw[hB.2 i hs] at h;cases h
theorem n_v {β2:Bk}(hB:k_d β S β2){i:Nat}{bi:BI}(hs:S i)(h:β i=some bi) :β2 i=some bi:=by rw[hB.1 i hs];exact h
theorem Fz.ok (hB:k_d β S β2)(h:SRel P k β W σ){v:Value}{d d':D}(hf:Fz P σ S d d') :V k β W v d→V (u_i k β σ S) β2 W v d':=by
 induction hf generalizing v with
 | int q n=>intro hv;cases hv;exact .int q n
 | bool b=>intro hv;cases hv;exact .bool b
 | str s=>intro hv;cases hv;exact .str s
 | nils=>intro hv;cases hv;exact .nils
 | zsl=>intro hv;cases hv;exact .zsl _
 | sl es rows rows' hl hr hc ih=>
   intro hv
   cases hv with
   | sl a len cap _ _ f hk hlen hcap hes hcell hval=>
     have back:∀(i:Nat) row',rows'[i]? =some row'→∃row,rows[i]? =some row∧row'.length=row.length:=fun i row' hi=>by
       have hlt:=(List.getElem?_eq_some_iff.1 hi).1
       have:=List.getElem?_eq_getElem (l:=rows) (i:=i) (by omega)
       exact ⟨_,this,hr i _ _ this hi⟩
     refine .sl a len cap es rows' f (fun hne=>?_) (by omega) hcap (fun i row' hi=>?_) (fun i row' j d hi hj=>?_) (fun i row' j d hi hj=>?_)
     · have:=hk (fun e=>by subst e;simp at hl;exact hne hl)
       exact ⟨.inl this.1,this.2⟩
     · obtain ⟨row,h1,h2⟩:=back i row' hi
       rw[h2];exact hes i row h1
     · obtain ⟨row,h1,h2⟩:=back i row' hi
       have hlt:=(List.getElem?_eq_some_iff.1 hj).1
       exact hcell i row j _ h1 (List.getElem?_eq_getElem (by omega))
     · obtain ⟨row,h1,h2⟩:=back i row' hi
       have hlt:=(List.getElem?_eq_some_iff.1 hj).1
       have hd:=List.getElem?_eq_getElem (l:=row) (i:=j) (by omega)
       exact ih i row row' j _ d h1 hi hd hj (hval i row j _ h1 hd)
 | keep id i len hs=>
   intro hv
   cases hv with
   | osl _ _ _ cap a bi hb ha hc hsz hcm=>exact .osl id i len cap a bi (n_v hB hs hb) ha hc hsz hcm
 | osl id i len t rows rows' hn hs hi hl hr hc ih=>
   intro hv
   cases hv with
   | osl _ _ _ cap a bi hb ha hcap hsz hcm=>
     obtain ⟨arr,g1,g2,g3,g4,g5,g6,g7⟩:=h.obj id bi t rows hb hs
     have back:∀(j:Nat) row',rows'[j]? =some row'→j < len∧∃row,rows[i+j]? =some row∧row'.length=row.length:=fun j row' hj=>by
       have hlt:=(List.getElem?_eq_some_iff.1 hj).1
       have:=List.getElem?_eq_getElem (l:=rows) (i:=i+j) (by omega)
       exact ⟨by omega,_,this,hr j _ _ this hj⟩
     refine .sl a len cap (P.cellsOf t) rows' (fun j m=>arr.getD ((i+j) * bi.es+m) undef) (fun hne=>?_) hl hcap (fun j row' hj=>?_) (fun j row' m d hj hm=>?_) (fun j row' m d hj hm=>?_)
     · have hpos : 0 < len := by
         rw[←hl]
         cases rows' with
         | nil=>exact absurd rfl hne
         | cons=>simp
       have:=ha (by omega)
       subst this
       exact ⟨.inr ⟨id,bi,t,rows,hb,hn,hs,rfl⟩,rfl⟩
     · obtain ⟨_,row,h1,h2⟩:=back j row' hj
       rw[h2,g3];exact g6 _ row h1
     · obtain ⟨hlt,row,h1,h2⟩:=back j row' hj
       have hmlt:=(List.getElem?_eq_some_iff.1 hm).1
       obtain ⟨v,q1,_⟩:=g7 (i+j) row m _ h1 (List.getElem?_eq_getElem (by omega))
       have:=ha (by omega)
       subst this
       have e1:i * bi.es+j * P.cellsOf t+m=(i+j) * bi.es+m:=by rw[g3,Nat.add_mul]
       show W.cell? ⟨bi.blk,i * bi.es+j * P.cellsOf t+m,none⟩ =_
       rw[cell_of_heap g1,e1,q1,Array.getD_eq_getD_getElem?,q1];rfl
     · obtain ⟨hlt,row,h1,h2⟩:=back j row' hj
       have hmlt:=(List.getElem?_eq_some_iff.1 hm).1
       have hd:=List.getElem?_eq_getElem (l:=row) (i:=m) (by omega)
       obtain ⟨v,q1,q2⟩:=g7 (i+j) row m _ h1 hd
       have:=ih j row row' m _ d h1 hj hd hm q2
       rw[Array.getD_eq_getD_getElem?,q1];exact this
 | nilp=>intro hv;cases hv;exact .nilp
 | el s i off hs ih=>
   intro hv
   cases hv with
   | elsl a len cap es rows _ _ hs' hi=>exact .elsl a len cap es rows i off (ih hs') hi
   | elosl id i0 len _ _ bi hb hi=>
     cases hs with
     | keep _ _ _ hs=>exact .elosl id i0 len i off bi (n_v hB hs hb) hi
 | nilf=>intro hv;cases hv;exact .nilf
 | fn0 f=>
   intro hv
   cases hv with
   | fn _ first caps _ _ g g' h1 h2 h3 h4 h5 h6=>exact .fn f first caps [] [] g g' h1 h2 (fun i b cs j d hi=>by simp at hi) h4 h5 (fun i b cs j d hi=>by simp at hi)
 | nilm=>intro hv;cases hv;exact .nilm
 | omap id hs=>
   intro hv
   cases hv with
   | omap _ bi hb=>exact .omap id bi (n_v hB hs hb)
 | ifc b=>
   intro hv
   cases hv with
   | nili=>exact .nili
   | ifv t v=>exact .ifv t v
theorem FzL.ok (hB:k_d β S β2)(h:SRel P k β W σ){vs:List Value}{ds ds':List D}(hf:FzL P σ S ds ds')(hv:VL k β W vs ds) :VL (u_i k β σ S) β2 W vs ds':=by
 refine ⟨by rw[hv.1,hf.1],fun i v d' h1 h2=>?_⟩
 have hlt:=(List.getElem?_eq_some_iff.1 h2).1
 have hd:=List.getElem?_eq_getElem (l:=ds) (i:=i) (by rw[←hf.1];exact hlt)
 exact (hf.2 i _ d' hd h2).ok hB h (hv.2 i v _ h1 hd)
theorem FzA.ok (hB:k_d β S β2)(h:SRel P k β W σ){v:Value}{x y:A}(hf:FzA P σ S x y)(hv:VA k β W v x) :VA (u_i k β σ S) β2 W v y:=by
 cases x with
 | one d=>cases y with
   | one d'=>exact Fz.ok hB h hf hv
   | agg=>exact hf.elim
 | agg cs=>cases y with
   | one=>exact hf.elim
   | agg cs'=>obtain ⟨vs,e,hv⟩:=hv;exact ⟨vs,e,FzL.ok hB h hf hv⟩
theorem FzR.ok (hB:k_d β S β2)(h:SRel P k β W σ){v:Value}{x y:RV}(hf:FzR P σ S x y)(hv:VR k β W v x) :VR (u_i k β σ S) β2 W v y:=by
 cases x with
 | a x=>cases y with
   | a y=>exact FzA.ok hB h hf hv
   | tup=>exact hf.elim
 | tup xs=>cases y with
   | a=>exact hf.elim
   | tup ys=>
     obtain ⟨vs,e,hs,hv⟩:=hv
     refine ⟨vs,e,by rw[hs,hf.1],fun i u y h1 h2=>?_⟩
     have hlt:=(List.getElem?_eq_some_iff.1 h2).1
     have hd:=List.getElem?_eq_getElem (l:=xs) (i:=i) (by rw[←hf.1];exact hlt)
     exact (hf.2 i _ y hd h2).ok hB h (hv i u _ h1 hd)
theorem V.rest (hB:k_d β S β2){v:Value}{d:D}(hd:Dom β0 d)(hbb:∀i bi,β0 i=some bi→S i∧β i=some bi)(hv:V k β W v d) :V (u_i k β σ S) β2 W v d:=by
 have h1:=V.restrict (β:=β0) (fun i bi h=>(hbb i bi h).2) hv hd
 exact h1.mono (fun b h=> .inl h) (fun i bi h=>n_v hB (hbb i bi h).1 (hbb i bi h).2) (fun b _=>rfl)
def DomA (β:Bk) :A→Prop
 | .one d=>Dom β d
 | .agg cs=>∀d ∈ cs,Dom β d
theorem VA.dom {v:Value}{x:A}(h:VA k β W v x) :DomA β x:=by
 cases x with
 | one d=>exact V.dom h
 | agg cs=>
   obtain ⟨vs,_,hl,hv⟩:=h
   intro d hd
   obtain ⟨i,hi⟩:=List.mem_iff_getElem?.1 hd
   have hlt:=(List.getElem?_eq_some_iff.1 hi).1
   exact (hv i _ d (List.getElem?_eq_getElem (by omega)) hi).dom
theorem VA.rest (hB:k_d β S β2){v:Value}{x:A}(hd:DomA β0 x)(hbb:∀i bi,β0 i=some bi→S i∧β i=some bi)(hv:VA k β W v x) :VA (u_i k β σ S) β2 W v x:=by
 cases x with
 | one d=>exact V.rest hB hd hbb hv
 | agg cs=>
   obtain ⟨vs,e,hl,hv⟩:=hv
   exact ⟨vs,e,hl,fun i v d h1 h2=>V.rest hB (hd d (List.mem_of_getElem? h2)) hbb (hv i v d h1 h2)⟩
theorem SRel.rest (hB:k_d β S β2)(h:SRel P k β W σ)(h0:SRel P k0 β0 W0 σ0)(hbb:∀i bi,β0 i=some bi→β i=some bi)(hS0:∀i,σ0 i≠ .free→S i)(hfree:∀i,¬S i→σ' i= .free)(ho:∀i,S i→FzO P σ0 σ S i (σ' i)) :
   SRel P (u_i k β σ S) β2 W σ':=by
 have hSb:∀i bi,β0 i=some bi→S i∧β i=some bi:=fun i bi hi=>⟨hS0 i ((h0.dom i).1 (by rw[hi];rfl)),hbb i bi hi⟩
 have hfr:∀i,S i→(σ' i= .free↔σ i= .free):=fun i hi=>by
   rcases ho i hi with ⟨h1,_⟩ | hm
   · rw[h1]
   · cases hs:σ i <;> cases hs':σ' i <;> rw[hs,hs'] at hm <;> first | exact hm.elim | simp
 have hdd:∀i,S i→(σ' i= .dead↔σ i= .dead):=fun i hi=>by
   rcases ho i hi with ⟨h1,_⟩ | hm
   · rw[h1]
   · cases hs:σ i <;> cases hs':σ' i <;> rw[hs,hs'] at hm <;> first | exact hm.elim | simp
 exact {
   gl:=h.gl.mono (fun _ h=> .inl h) fun _ _=>rfl
   fin:=by
     obtain ⟨N,hN⟩:=h.fin
     refine ⟨N,fun i hi=>?_⟩
     by_cases hs:S i
     · exact (hfr i hs).2 (hN i hi)
     · exact hfree i hs
   dom:=fun i=>by
     by_cases hs:S i
     · rw[Ne,hfr i hs,←Ne,←h.dom i,hB.1 i hs]
     · rw[hB.2 i hs,hfree i hs];simp
   klt:=fun b hb=>by
     rcases hb with hb | ⟨i,bi,t,rows,hi,_,_,he⟩
     · exact h.klt b hb
     · rw[←he];exact h.blt i bi hi
   blt:=fun i bi hi=>h.blt i bi (d_2 hB hi).2
   inj:=fun i j bi bj hi hj h1 h2 he=>h.inj i j bi bj (d_2 hB hi).2 (d_2 hB hj).2 (fun hd=>h1 ((hdd i (d_2 hB hi).1).2 hd)) (fun hd=>h2 ((hdd j (d_2 hB hj).1).2 hd)) he
   notk:=fun i bi hi h1 hk=>by
     obtain ⟨hs,hi⟩:=d_2 hB hi
     have h1:σ i≠ .dead:=fun hd=>h1 ((hdd i hs).2 hd)
     rcases hk with hk | ⟨j,bj,t,rows,hj,hn,hl,he⟩
     · exact h.notk i bi hi h1 hk
     · have:=h.inj j i bj bi hj hi (by rw[hl];intro e;cases e) h1 he
       exact hn (this ▸ hs)
   obj:=fun i bi t rows' hi hs'=>by
     obtain ⟨hs,hi⟩:=d_2 hB hi
     rcases ho i hs with ⟨h1,h2⟩ | hm
     · rw[h1] at hs'
       obtain ⟨arr,g1,g2,g3,g4,g5,g6,g7⟩:=h.obj i bi t rows' hi hs'
       refine ⟨arr,g1,g2,g3,g4,g5,g6,fun r row j d hr hj=>?_⟩
       obtain ⟨v,hv,hV⟩:=g7 r row j d hr hj
       have hb0:∃b0,β0 i=some b0:=Option.isSome_iff_exists.1 ((h0.dom i).2 (by rw[←h2,hs'];intro e;cases e))
       obtain ⟨b0,hb0⟩:=hb0
       obtain ⟨_,_,_,_,_,_,_,k7⟩:=h0.obj i b0 t rows' hb0 (by rw[←h2,hs'])
       obtain ⟨v0,_,hV0⟩:=k7 r row j d hr hj
       exact ⟨v,hv,hV.rest hB hV0.dom hSb⟩
     · rw[hs'] at hm
       cases hsi:σ i with
       | live t0 rows=>
         rw[hsi] at hm
         obtain ⟨rfl,hl,hc⟩:=hm
         obtain ⟨arr,g1,g2,g3,g4,g5,g6,g7⟩:=h.obj i bi t rows hi hsi
         have back:∀(r:Nat) row',rows'[r]? =some row'→∃row,rows[r]? =some row∧FzL P σ S row row':=fun r row' hr=>by
           have hlt:=(List.getElem?_eq_some_iff.1 hr).1
           have:=List.getElem?_eq_getElem (l:=rows) (i:=r) (by omega)
           exact ⟨_,this,hc r _ _ this hr⟩
         refine ⟨arr,g1,g2,g3,by rw[hl];exact g4,g5,fun r row' hr=>?_,fun r row' j d hr hj=>?_⟩
         · obtain ⟨row,q1,q2⟩:=back r row' hr
           rw[q2.1];exact g6 r row q1
         · obtain ⟨row,q1,q2⟩:=back r row' hr
           have hlt:=(List.getElem?_eq_some_iff.1 hj).1
           have hd:=List.getElem?_eq_getElem (l:=row) (i:=j) (by rw[←q2.1];exact hlt)
           obtain ⟨v,hv,hV⟩:=g7 r row j _ q1 hd
           exact ⟨v,hv,(q2.2 j _ d hd hj).ok hB h hV⟩
       | _=>rw[hsi] at hm;exact hm.elim
   omap:=fun i bi clock es' hi hs'=>by
     obtain ⟨hs,hi⟩:=d_2 hB hi
     rcases ho i hs with ⟨h1,h2⟩ | hm
     · rw[h1] at hs'
       obtain ⟨ents,g1,g2,g3,g4,g5⟩:=h.omap i bi clock es' hi hs'
       refine ⟨ents,g1,g2,g3,g4,fun r e b ks vs hr he=>?_⟩
       obtain ⟨q0,q1,q2⟩:=g5 r e b ks vs hr he
       have hb0:∃b0,β0 i=some b0:=Option.isSome_iff_exists.1 ((h0.dom i).2 (by rw[←h2,hs'];intro e;cases e))
       obtain ⟨b0,hb0⟩:=hb0
       obtain ⟨ents0,_,k2,_,_,k5⟩:=h0.omap i b0 clock es' hb0 (by rw[←h2,hs'])
       have hlt:=(List.getElem?_eq_some_iff.1 he).1
       obtain ⟨_,p1,p2⟩:=k5 r ents0[r] b ks vs (Array.getElem?_eq_getElem (by omega)) he
       exact ⟨q0,q1.rest hB p1.dom hSb,q2.rest hB p2.dom hSb⟩
     · rw[hs'] at hm
       cases hsi:σ i with
       | mp c es=>
         rw[hsi] at hm
         obtain ⟨rfl,hl,hc⟩:=hm
         obtain ⟨ents,g1,g2,g3,g4,g5⟩:=h.omap i bi clock es hi hsi
         have hborn:es'.map (·.1) =es.map (·.1):=by
           apply List.ext_getElem?
           intro j
           simp only[List.getElem?_map]
           cases he':es'[j]? with
           | none=>
             have:es[j]? =none:=by rw[List.getElem?_eq_none_iff] at he' ⊢;omega
             rw[this]
           | some e'=>
             have hlt:=(List.getElem?_eq_some_iff.1 he').1
             have hj:=List.getElem?_eq_getElem (l:=es) (i:=j) (by omega)
             rw[hj]
             simp[(hc j _ e' hj he').1]
         refine ⟨ents,g1,by rw[hl];exact g2,fun e he=>?_,by rw[hborn];exact g4,fun r e b ks vs hr he=>?_⟩
         · have:e.1 ∈ es'.map (·.1):=List.mem_map.2 ⟨e,he,rfl⟩
           rw[hborn] at this
           obtain ⟨w,hw,e1⟩:=List.mem_map.1 this
           rw[←e1];exact g3 w hw
         · have hlt:=(List.getElem?_eq_some_iff.1 he).1
           have hj:=List.getElem?_eq_getElem (l:=es) (i:=r) (by omega)
           obtain ⟨c1,c2,c3⟩:=hc r _ _ hj he
           obtain ⟨q0,q1,q2⟩:=g5 r e es[r].1 es[r].2.1 es[r].2.2 hr hj
           exact ⟨q0.trans c1.symm,c2.ok hB h q1,c3.ok hB h q2⟩
       | _=>rw[hsi] at hm;exact hm.elim }
theorem DCalls.ret {f:FuncId}{args:List A}{Q Q':RV→Store→Prop}(h:DCalls P f args σ0 Q)(hq:∀r σ,Q r σ→∃r' σ',Ret P σ0 σ r σ' r'∧Q' r' σ') :DCalls P f args σ0 Q':=by
 refine ⟨h.1,fun k β W vs h1 h2 h3=>(h.2 k β W vs h1 h2 h3).mono fun e W' ⟨v,r,σ,k',β',q1,q2,q3,q4,q5,q6⟩=>?_⟩
 obtain ⟨r',σ',⟨S,s1,s2,s3,s4⟩,hQ⟩:=hq r σ q2
 obtain ⟨β2,hB⟩:=a_di β' S
 refine ⟨v,r',σ',u_i k' β' σ S,β2,q1,hQ,s4.ok hB q4 q3,q4.rest hB h1 q5.bb s1 s2 s3,?_,q6⟩
 have hS0:∀i bi,β i=some bi→S i:=fun i bi hi=>s1 i ((h1.dom i).1 (by rw[hi];rfl))
 exact {
   kk:=fun b hb=> .inl (q5.kk b hb)
   kn:=fun b hb=>by
     rcases hb with hb | ⟨i,bi,t,rows,hi,hn,hl,he⟩
     · exact q5.kn b hb
     · rcases q5.bn i bi hi with g | g | ⟨j,bj,g1,g2,g3⟩
       · exact absurd (hS0 i bi g) hn
       · exact .inr (.inl (he ▸ g))
       · exact .inr (.inr ⟨j,bj,g1,g2,g3.trans he⟩)
   bb:=fun i bi hi=>n_v hB (hS0 i bi hi) (q5.bb i bi hi)
   bn:=fun i bi hi=>q5.bn i bi (d_2 hB hi).2
   dd:=fun i hi=>by
     have hs:S i:=s1 i (by rw[hi];intro e;cases e)
     have hd:=q5.dd i hi
     rcases s3 i hs with ⟨h1,_⟩ | hm
     · rw[h1,hd]
     · rw[hd] at hm
       cases hs':σ' i <;> rw[hs'] at hm <;> first | rfl | exact hm.elim }
end
end
end Go.Fw
namespace Go.Fw
open Go.ChangeShapes Go.WideShapes Go.RowKit
section
def tyF (P:Program)(ty:TypeId→List D→Prop) :List Field→List D→Prop
 | [],ds=>ds=[]
 | f::fs,ds=>∃a b,ds=a ++ b∧a.length=P.cellsOf f.type∧ty f.type a∧tyF P ty fs b
def tyR (P:Program)(ty:TypeId→List D→Prop)(e:TypeId) :Nat→List D→Prop
 | 0,ds=>ds=[]
 | n+1,ds=>∃a b,ds=a ++ b∧a.length=P.cellsOf e∧ty e a∧tyR P ty e n b
def tyD (P:Program) :Nat→TypeId→List D→Prop
 | 0,_,_=>False
 | n+1,t,ds=>match P.underlying t with
   | some .bool=>∃b,ds=[.bool b]
   | some (.int k)=>∃m,ds=[.int k m]∧(Lit.int k m).wf=true
   | some .string=>∃s,ds=[.str s]∧s.size≤140737488351232
   | some (.slice e)=>ds=[.nils]∨∃rows,ds=[.sl (P.cellsOf e) rows]∧rows.length * P.bytesOf e≤140737488351232∧∀row ∈ rows,tyD P n e row
   | some (.struct fs)=>tyF P (tyD P n) fs.toList ds
   | some (.array m e)=>tyR P (tyD P n) e m ds
   | _=>False
def t_e (P:Program) :Nat→List Field→Nat→Bool
 | o,[],n=>Nat.beq o n
 | o,f::fs,n=>Nat.beq f.offset o && t_e P (o+P.cellsOf f.type) fs n
def plainT (P:Program) :Nat→TypeId→Bool
 | 0,_=>false
 | n+1,t=>match P.underlying t with
   | some .bool=>true
   | some (.int _)=>true
   | some .string=>true
   | some (.slice e)=>plainT P n e && decide (0 < P.cellsOf e)
   | some (.struct fs)=>t_e P 0 fs.toList (P.cellsOf t) && fs.toList.all fun f=>plainT P n f.type
   | some (.array m e)=>plainT P n e && Nat.beq (m * P.cellsOf e) (P.cellsOf t)
   | _=>false
def TyA (P:Program)(t:TypeId) :A→Prop
 | .one d=>b_k P t=some false∧tyD P 30 t [d]
 | .agg cs=>b_k P t=some true∧tyD P 30 t cs
def TyAs (P:Program) :List TypeId→List A→Prop
 | [],as0=>as0=[]
 | t::ts,as0=>∃a r,as0=a::r∧TyA P t a∧TyAs P ts r
section
variable {H:Type} {enc:TypeId × Value→H} {P:Program} {w:World}
abbrev j_e (w:World) :Nat→Prop:=fun b=>b < w.heap.size
abbrev noB:Bk:=fun _=>none
abbrev noS:Store:=fun _=> .free
theorem a_om (hgl:Gl P (j_e w) w) :SRel P (j_e w) noB w noS where
 gl:=hgl
 fin:=⟨0,fun _ _=>rfl⟩
 dom i:=by simp
 klt b hb:=hb
 blt i bi h:=by cases h
 inj i j bi bj h:=by cases h
 notk i bi h:=by cases h
 obj i bi t rows h:=by cases h
 omap i bi c es h:=by cases h
theorem h_i {base:Nat}{a:Addr}{n:Nat}{cs:List Value}(h:w.cells? base a n=some cs) :cs.length=n∧∀(j:Nat) v,cs[j]? =some v→w.cell? (a.add j) =some v:=by
 unfold World.cells? at h
 split at h
 · have hl:=mapM_some_length h
   refine ⟨by simpa using hl,fun j v hv=>?_⟩
   have hlt:=(List.getElem?_eq_some_iff.1 hv).1
   have hn:cs.length=n:=by simpa using hl
   have:=mapM_some_get h j j (by simp[show j < n by omega])
   rw[this,hv]
 · cases h
theorem a_my {a:Addr}{v:Value}(h:w.cell? a=some v) :a.block < w.heap.size∧a.spot=none:=by
 unfold World.cell? at h
 split at h
 · rename_i c t fr hb
   refine ⟨(Array.getElem?_eq_some_iff.1 hb).1,?_⟩
   split at h
   · cases h
   · rename_i hs;simpa using hs
 · cases h
theorem n_g {e:TypeId} :∀{ds:List (DataW H)} {d:DataW H} {m:Nat},d ∈ ds→m ∈ d.weights P e→m ∈ DataW.weightsAll P e ds
 | x::r,d,m,hd,hm=>by
   simp only[DataW.weightsAll,List.mem_append]
   rcases List.mem_cons.1 hd with rfl | hd
   · exact .inl hm
   · exact .inr (n_g hd hm)
theorem a_pe {n:Nat}{t:TypeId}{v:Value}{W:World}{base:Nat}(hp:plainT P (n+1) t=true)(hok:Value.okWide P W .any base t v) :
   (b_k P t=some false∧v.cells= #[v])∨(b_k P t=some true∧∃cs,v= .agg cs):=by
 unfold plainT at hp
 unfold b_k
 split at hp
 · rename_i hu;obtain ⟨b,rfl⟩:=okWide_bool hu hok;rw[hu];exact .inl ⟨rfl,rfl⟩
 · rename_i hu;obtain ⟨b,rfl⟩:=okWide_int hu hok;rw[hu];exact .inl ⟨rfl,rfl⟩
 · rename_i hu
   rw[hu]
   simp only[Value.okWide,hu,Cell.okWide] at hok
   cases v <;> simp[Cell.ok,hu] at hok <;> exact .inl ⟨rfl,rfl⟩
 · rename_i e hu
   rw[hu]
   simp only[Value.okWide,hu,Cell.okWide] at hok
   cases v <;> simp[Cell.ok,hu] at hok <;> exact .inl ⟨rfl,rfl⟩
 · rename_i fs hu;obtain ⟨cs,rfl,_⟩:=okWide_struct hu hok;rw[hu];exact .inr ⟨rfl,cs,rfl⟩
 · rename_i m e hu
   rw[hu]
   simp only[Value.okWide,hu] at hok
   obtain ⟨cs,rfl,_⟩:=hok
   exact .inr ⟨rfl,cs,rfl⟩
 · cases hp
theorem p_m (hl:laidOutB P=true){W W':World}(hb:Below W.heap.size W W')(sp:Nat→Bool) :∀{ts:List TypeId} {vs:List Value} {ds:List (DataW H)} {ps:List MemPlace},
   (∀t ∈ ts,P.readableRec t=true∧t < P.types.size)→DataW.TrodAll enc P W 0 (fun _=>true) true ts vs ds ps→(∀p ∈ ps,p.block < W.heap.size)→(∀p ∈ ps,sp p.block=true)→DataW.TrodAll enc P W' 0 sp true ts vs ds ps
 | [],vs,ds,ps,_,h,_,_=>by
   obtain ⟨rfl,rfl,rfl⟩:=trodAll_nil h
   rfl
 | t::ts,vs,ds,ps,hr,h,hlt,hs=>by
   obtain ⟨v,vs1,d,ds1,a,b,rfl,rfl,rfl,h1,h2⟩:=trodAll_cons h
   exact ⟨a,b,WideElems.Trod_stays hl (hr t (by simp)).1 (hr t (by simp)).2 h1 (fun x hx=>hb.same (hlt x (by simp[hx]))) (fun x hx=>hs x (by simp[hx])),
     p_m hl hb sp (fun t ht=>hr t (by simp[ht])) h2 (fun x hx=>hlt x (by simp[hx])) (fun x hx=>hs x (by simp[hx])),rfl⟩
theorem a_kx {f:Func}{s:ChangeSpec}{W W':World}{args:Array Value}{ds gs:List (DataW H)}{before:List MemPlace}{tb:TypeId}(hl:laidOutB P=true)
   (hr:∀t ∈ f.params.toList,P.readableRec t=true∧t < P.types.size) (hvars:s.vars=[]) (hres:f.resultTypes= #[tb]) (htb:P.underlying tb=some .bool)
   (hfn:(s.fn H ds) = { results:= [.lit (.bool true)],args:=ds }) (hW:DataW.Whole enc P f.params.toList s.vars false W args.toList ds gs before) (hb:Below W.heap.size W W') :
   s.post enc P f false true false false W args (.bool true) W':=by
 have hlt:∀p ∈ before,p.block < W.heap.size:=fun p hp=>hW.lt p hp
 have hW':=hW
 obtain ⟨p,q,hA,hV,rfl,hz,_⟩:=hW'
 rw[hvars] at hV
 obtain ⟨rfl,rfl⟩:=trodVars_none hV
 have hres':(s.fn H (ds ++ [])).results=[.lit (.bool true)]:=by rw[List.append_nil,hfn]
 have hargs':(s.fn H (ds ++ [])).args=ds:=by rw[List.append_nil,hfn]
 have hvars':(s.fn H (ds ++ [])).vars=[]:=by rw[List.append_nil,hfn]
 have hst:∀sp:Nat→Bool,(∀x ∈ p,sp x.block=true)→DataW.TrodAll enc P W' 0 sp true f.params.toList args.toList ds p:=fun sp hs=>
   p_m hl hb sp hr hA (fun x hx=>hlt x (by simp[hx])) hs
 refine ⟨ds,[],p ++ [],[],p,[],hW,?_,?_,?_,?_,fun h=>by cases h⟩
 · rw[hres',hres]
   exact trodAll_mk1 (shut_bool htb true)
 · rw[hargs'];exact hst _ (fun x hx=>by simpa using hlt x (by simp[hx]))
 · rw[hvars',hvars];rfl
 · refine World.keptBut_mono (fun x hx=>⟨hx, .inr (.inl (by simpa using hx))⟩) (hb.frame (· ∈ p ++ []))
end
end
section
theorem joined_of {P:Program}{f:FuncId}{fn:Func}{s:ChangeSpec}{c:OpenClaim}(a0:laidOutB P=true)
   (a1:(c.wf (OpenSpec.ofChange s) && mapsRowed P && fn.params.all (P.readableRec ·) && namedTie P c.named s.vars && (c.stops == []) && (P.stops == []) && (c.knobs == []) && (P.stopKnobs == []) && (c.inPlace == P.inPlace f)) =true)
   (a2:(c.unfollowed == P.unfollowed f) =true) (a3:(c.recurses == P.recurses f) =true) (a4:(c.named == P.varsNamed f) =true)
   (a5:((c.maps ==(fn.params.toList ++ s.plain.varTypes P).any (P.mapsRec ·)) && (c.ifaces ==(fn.params.toList ++ s.plain.varTypes P).any (P.ifacesRec ·)) && (c.mapsOut == P.mapsAmong fn.resultTypes.toList) && (c.loops ==(fn.params.toList ++ s.plain.varTypes P).any (P.loopsFrom ·)) && (c.wideKeys ==(fn.params.toList ++ s.plain.varTypes P ++ fn.resultTypes.toList).any (P.wideKeysFrom ·))) =true)
   (a6:(s.vars.all (P.varReadable ·) && fn.resultTypes.all (fun t=>P.readableRec t && decide (t < P.types.size)) && (c.ifacesOut == fn.resultTypes.toList.any (P.ifacesRec ·)) && (c.loopsOut == fn.resultTypes.toList.any (P.loopsFrom ·))) =true)
   (a7:((c.plainKeys == P.plainKeys) && c.shortTexts.isNone && P.stopsHeard && P.mayEnter && (c.lifted == P.liftsFinal) && (P.make == some c.make) && (c.kinds ==(if c.domain.isEmpty then [] else fn.params.toList.map fun t=>match P.underlying t with | some (.int k)=>some k | _=>none)) && (c.pinned == c.pinnedBy)) =true)
   (a8:((c.veiled ==(fn.params.toList ++ s.plain.varTypes P ++ fn.resultTypes.toList).any (P.veiledRec ·)) && c.veiledFits P fn.params.toList (fn.params.toList ++ s.plain.varTypes P ++ fn.resultTypes.toList)) =true) :
   joinedFacts P f fn s c=true:=by
 rw[Bool.and_eq_true] at a8
 repeat rw[Bool.and_eq_true] at a7
 repeat rw[Bool.and_eq_true] at a6
 repeat rw[Bool.and_eq_true] at a5
 repeat rw[Bool.and_eq_true] at a1
 obtain ⟨⟨⟨⟨⟨⟨⟨⟨b1,b2⟩,b3⟩,b4⟩,b5⟩,b6⟩,b7⟩,b8⟩,b9⟩:=a1
 obtain ⟨⟨⟨⟨c1,c2⟩,c3⟩,c4⟩,c5⟩:=a5
 obtain ⟨⟨⟨d1,d2⟩,d3⟩,d4⟩:=a6
 obtain ⟨⟨⟨⟨⟨⟨⟨e1,e2⟩,e3⟩,e4⟩,e5⟩,e6⟩,e7⟩,e8⟩:=a7
 obtain ⟨f1,f2⟩:=a8
 unfold joinedFacts
 rw[b1,a0,b2,b3,b4,b5,b6,b7,b8,b9,a2,a3,a4,c1,c2,c3,c4,c5,d1,d2,d3,d4,e1,e2,e3,e4,e5,e6]
 exact Bool.and_eq_true_iff.2 ⟨Bool.and_eq_true_iff.2 ⟨Bool.and_eq_true_iff.2 ⟨Bool.and_eq_true_iff.2 ⟨rfl,e7⟩,e8⟩,f1⟩,f2⟩
end
section
mutual
def wtD:D→Nat
 | .sl _ rows=>1+p_5 rows
 | .str s=>s.size+1
 | _=>1
def wtL:List D→Nat
 | []=>0
 | d::r=>wtD d+wtL r
def p_5:List (List D)→Nat
 | []=>0
 | row::r=>wtL row+p_5 r
end
def wtA:A→Nat
 | .one d=>wtD d
 | .agg cs=>wtL cs
theorem a_bi:∀a b:List D,wtL (a ++ b) =wtL a+wtL b
 | [],b=>by simp[wtL]
 | d::a,b=>by rw[List.cons_append,wtL,wtL,a_bi a b];omega
theorem a_k0:∀(rows:List (List D)) (ns:List Nat),rows.length=ns.length→(∀(i:Nat) row n,rows[i]? =some row→ns[i]? =some n→wtL row≤n)→p_5 rows≤ns.sum
 | [],_,_,_=>by simp[p_5]
 | row::rows,[],hl,_=>by cases hl
 | row::rows,n::ns,hl,h=>by
   have h1:=h 0 row n rfl rfl
   have h2:=a_k0 rows ns (by simpa using hl) fun i a b ha hb=>h (i+1) a b (by simpa using ha) (by simpa using hb)
   rw[p_5,List.sum_cons];omega
section
variable {H:Type} {enc:TypeId × Value→H} {P:Program} {w:World}
structure Bulk (bulk:DataW H→Nat) :Prop where
 one:∀d,1≤bulk d
 str:∀l,l.length+1≤bulk (.lit (.string l))
 sl:∀elems rest,(elems.map bulk).sum+1≤bulk (.slice elems rest)
 agg:∀parts,(parts.map bulk).sum≤bulk (.agg parts)
theorem a_aj {bulk : DataW H → Nat} {β : Bk} (n : Nat) (ih : ∀ (t : TypeId) (cs : List Value), plainT P n t = true → ∀ (fuel : Nat) (x : DataW H × List MemPlace), DataW.trod enc P w 0 (fun _ => true) true fuel t cs = some x →
     (∀m ∈ x.1.weights P t,m≤140737488351232)→∃ds,VL (j_e w) β w cs ds∧tyD P n t ds∧wtL ds≤bulk x.1) (cs:List Value) (m:Nat) :
   ∀(fs:List Field) (o:Nat) (xs:List (DataW H × List MemPlace)),t_e P o fs cs.length=true→(∀f ∈ fs,plainT P n f.type=true)→xs.length=fs.length→
     (∀(i:Nat) (f:Field),fs[i]? =some f→DataW.trod enc P w 0 (fun _=>true) true m f.type ((cs.drop f.offset).take (P.cellsOf f.type)) =xs[i]?)→
     (∀q ∈ DataW.weightsEach P (fs.map (·.type)) (xs.map (·.1)),q≤140737488351232)→o≤cs.length→∃ds,VL (j_e w) β w (cs.drop o) ds∧tyF P (tyD P n) fs ds∧wtL ds≤(xs.map fun x=>bulk x.1).sum
 | [],o,xs,ht,_,_,_,_,ho=>by
   have:o=cs.length:=Nat.eq_of_beq_eq_true ht
   subst this
   exact ⟨[],by simp[VL],rfl,by simp[wtL]⟩
 | f::fs,o,xs,ht,hp,hl,he,hw,ho=>by
   simp only[t_e,Bool.and_eq_true] at ht
   have hfo:=Nat.eq_of_beq_eq_true ht.1
   cases xs with
   | nil=>simp at hl
   | cons x xs=>
     have h0:=he 0 f rfl
     rw[hfo] at h0
     simp only[List.map_cons,DataW.weightsEach,List.mem_append] at hw
     have tl:∀(fs:List Field) (o:Nat),t_e P o fs cs.length=true→o≤cs.length:=by
       intro fs
       induction fs with
       | nil=>intro o h;exact Nat.le_of_eq (Nat.eq_of_beq_eq_true h)
       | cons g gs ihg=>intro o h;simp only[t_e,Bool.and_eq_true] at h;have:=ihg _ h.2;omega
     have hle:=tl _ _ ht.2
     obtain ⟨a,hva,hta,hwa⟩:=ih f.type _ (hp f (by simp)) m x (by simpa using h0) (fun q hq=>hw q (.inl hq))
     obtain ⟨b,hvb,htb,hwb⟩:=a_aj n ih cs m fs (o+P.cellsOf f.type) xs ht.2 (fun g hg=>hp g (by simp[hg])) (by simpa using hl) (fun i g hg=>by have:=he (i+1) g (by simpa using hg);simpa using this)
       (fun q hq=>hw q (.inr hq)) hle
     refine ⟨a ++ b,?_,⟨a,b,rfl,?_,hta,htb⟩,by rw[a_bi];simp only[List.map_cons,List.sum_cons];omega⟩
     · have:=hva.append hvb
       have e1:List.take (P.cellsOf f.type) (cs.drop o) ++ cs.drop (o+P.cellsOf f.type) =cs.drop o:=by
         rw[←List.drop_drop];exact List.take_append_drop _ _
       rw[e1] at this;exact this
     · rw[←hva.1,List.length_take,List.length_drop];omega
theorem a_la {bulk : DataW H → Nat} {β : Bk} (n : Nat) (ih : ∀ (t : TypeId) (cs : List Value), plainT P n t = true → ∀ (fuel : Nat) (x : DataW H × List MemPlace), DataW.trod enc P w 0 (fun _ => true) true fuel t cs = some x →
     (∀m ∈ x.1.weights P t,m≤140737488351232)→∃ds,VL (j_e w) β w cs ds∧tyD P n t ds∧wtL ds≤bulk x.1) (e:TypeId) (hp:plainT P n e=true) (fuel:Nat) :
   ∀(m:Nat) (cs:List Value) (xs:List (DataW H × List MemPlace)),cs.length=m * P.cellsOf e→xs.length=m→
     (∀i,i < m→DataW.trod enc P w 0 (fun _=>true) true fuel e ((cs.drop (i * P.cellsOf e)).take (P.cellsOf e)) =xs[i]?)→(∀q ∈ DataW.weightsAll P e (xs.map (·.1)),q≤140737488351232)→
     ∃ds,VL (j_e w) β w cs ds∧tyR P (tyD P n) e m ds∧wtL ds≤(xs.map fun x=>bulk x.1).sum
 | 0,cs,xs,hl,hx,_,_=>by
   have:cs=[]:=List.eq_nil_of_length_eq_zero (by simpa using hl)
   subst this
   exact ⟨[],by simp[VL],rfl,by simp[wtL]⟩
 | m+1,cs,xs,hl,hx,he,hw=>by
   cases xs with
   | nil=>simp at hx
   | cons x xs=>
     have h0:=he 0 (by omega)
     simp only[List.map_cons,DataW.weightsAll,List.mem_append] at hw
     rw[Nat.add_mul] at hl
     obtain ⟨a,hva,hta,hwa⟩:=ih e _ hp fuel x (by simpa using h0) (fun q hq=>hw q (.inl hq))
     obtain ⟨b,hvb,htb,hwb⟩:=a_la n ih e hp fuel m (cs.drop (P.cellsOf e)) xs (by rw[List.length_drop];omega) (by simpa using hx) (fun i hi=>by
       have:=he (i+1) (by omega)
       rw[List.drop_drop,show P.cellsOf e+i * P.cellsOf e=(i+1) * P.cellsOf e by rw[Nat.add_mul];omega,this];rfl) (fun q hq=>hw q (.inr hq))
     refine ⟨a ++ b,?_,⟨a,b,rfl,?_,hta,htb⟩,by rw[a_bi];simp only[List.map_cons,List.sum_cons];omega⟩
     · have:=hva.append hvb
       rw[List.take_append_drop] at this;exact this
     · rw[←hva.1,List.length_take];omega
theorem v_y {bulk : DataW H → Nat} (B : Bulk bulk) {β : Bk} : ∀ (n : Nat) (t : TypeId) (cs : List Value), plainT P n t = true → ∀ (fuel : Nat) (x : DataW H × List MemPlace), DataW.trod enc P w 0 (fun _ => true) true fuel t cs = some x →
     (∀m ∈ x.1.weights P t,m≤140737488351232)→∃ds,VL (j_e w) β w cs ds∧tyD P n t ds∧wtL ds≤bulk x.1
 | 0,t,cs,hp=>by simp[plainT] at hp
 | n+1,t,cs,hp=>by
   intro fuel x h hw
   have one:∀{v:Value} {d:D},V (j_e w) β w v d→VL (j_e w) β w [v] [d]:=fun hv=>⟨rfl,fun i u y h1 h2=>by
     cases i with
     | zero=>simp at h1 h2;subst h1 h2;exact hv
     | succ i=>simp at h1⟩
   unfold plainT at hp
   unfold tyD
   split at hp
   · rename_i hu
     obtain ⟨b,rfl,rfl⟩:=DataW.trod_bool hu h
     exact ⟨[.bool b],one (.bool b),⟨b,rfl⟩,by simpa[wtL,wtD] using B.one _⟩
   · rename_i q hu
     obtain ⟨m,rfl,rfl,hm⟩:=DataW.trod_int hu h
     exact ⟨[.int q m],one (.int q m),⟨m,rfl,hm⟩,by simpa[wtL,wtD] using B.one _⟩
   · rename_i hu
     obtain ⟨s,rfl,rfl,hm⟩:=DataW.trod_string hu h
     exact ⟨[.str s],one (.str s),⟨s,rfl,by have:=hw s.data.toList.length (by simp[DataW.weights]);simpa using this⟩,by have:=B.str s.data.toList;simpa[wtL,wtD] using this⟩
   · rename_i e hu
     simp only[Bool.and_eq_true,decide_eq_true_eq] at hp
     obtain ⟨hpe,hpos⟩:=hp
     rcases DataW.trod_slice hu h with ⟨rfl,rfl⟩ | ⟨a,len,cap,elems,rest,m,_,rfl,rfl,_,hlc,hcm,hel,hr,_,_⟩
     · exact ⟨[.nils],one .nils, .inl rfl,by simpa[wtL,wtD] using B.one _⟩
     · simp only[DataW.weights,hu,List.mem_cons,List.mem_append] at hw
       have each:∀i,i < len→∃cs row,w.cells? 0 (a.add (i * P.cellsOf e)) (P.cellsOf e) =some cs∧VL (j_e w) β w cs row∧tyD P n e row∧∀x,elems[i]? =some x→wtL row≤bulk x.1:=by
         intro i hi
         have h1:=hr i hi
         have h2:=List.getElem?_eq_getElem (l:=elems) (i:=i) (by omega)
         rw[h2] at h1
         cases hc:w.cells? 0 (a.add (i * P.cellsOf e)) (P.cellsOf e) with
         | none=>rw[hc] at h1;cases h1
         | some cs=>
           rw[hc] at h1
           obtain ⟨row,r1,r2,r3⟩:=v_y B n e cs hpe m _ h1 (fun q hq=>hw q (.inr (.inl (n_g (List.mem_map.2 ⟨_,List.getElem_mem (h:=by omega),rfl⟩) hq))))
           exact ⟨cs,row,rfl,r1,r2,fun x hx=>by rw[h2] at hx;injection hx with hx;rw[←hx];exact r3⟩
       have each':∀i,∃row,i < len→∃cs,w.cells? 0 (a.add (i * P.cellsOf e)) (P.cellsOf e) =some cs∧VL (j_e w) β w cs row∧tyD P n e row∧∀x,elems[i]? =some x→wtL row≤bulk x.1:=fun i=>by
         by_cases hi:i < len
         · obtain ⟨cs,row,h⟩:=each i hi
           exact ⟨row,fun _=>⟨cs,h⟩⟩
         · exact ⟨[],fun h=>absurd h hi⟩
       obtain ⟨F,hF⟩:=Classical.axiomOfChoice each'
       have hget:∀(i:Nat) row,((List.range len).map F)[i]? =some row→i < len∧row=F i:=fun i row hi=>by
         have hlt:=(List.getElem?_eq_some_iff.1 hi).1
         simp at hlt
         simp[List.getElem?_map,List.getElem?_range hlt] at hi
         exact ⟨hlt,hi.symm⟩
       have hsp:0 < len→a.block < w.heap.size∧a.spot=none:=fun h0=>by
         obtain ⟨cs,c1,_,_⟩:=hF 0 h0
         obtain ⟨c2,c3⟩:=h_i c1
         have:=c3 0 cs[0] (List.getElem?_eq_getElem (by omega))
         simp[Addr.add] at this
         exact a_my this
       have hcell:∀i j,i < len→j < P.cellsOf e→∃v,w.cell? ⟨a.block,a.off+i * P.cellsOf e+j,none⟩ =some v∧∀d,(F i)[j]? =some d→V (j_e w) β w v d:=by
         intro i j hi hj
         obtain ⟨cs,c1,c2,_⟩:=hF i hi
         obtain ⟨c3,c4⟩:=h_i c1
         have hg:=List.getElem?_eq_getElem (l:=cs) (i:=j) (by omega)
         have:=c4 j _ hg
         have hsp:=(hsp (by omega)).2
         have e1:(a.add (i * P.cellsOf e)).add j=⟨a.block,a.off+i * P.cellsOf e+j,none⟩:=by
           obtain ⟨b,o',sp⟩:=a
           simp at hsp;subst hsp
           rw[add_mk,add_mk]
         rw[e1] at this
         exact ⟨_,this,fun d hd=>c2.2 j _ d hg hd⟩
       refine ⟨[.sl (P.cellsOf e) ((List.range len).map F)],one (.sl a len cap (P.cellsOf e) _ (fun i j=>(w.cell? ⟨a.block,a.off+i * P.cellsOf e+j,none⟩).getD undef) (fun hne=>hsp (by
         cases len with
         | zero=>simp at hne
         | succ=>omega)) (by simp) hlc (fun i row hi=>?_) (fun i row j d hi hj=>?_) (fun i row j d hi hj=>?_)), .inr ⟨_,rfl,?_,fun row hrow=>?_⟩,?_⟩
       · obtain ⟨hi',rfl⟩:=hget i row hi
         obtain ⟨cs,c1,c2,_⟩:=hF i hi'
         rw[←c2.1,(h_i c1).1]
       · obtain ⟨hi',rfl⟩:=hget i row hi
         obtain ⟨cs,c1,c2,_⟩:=hF i hi'
         have hlt:=(List.getElem?_eq_some_iff.1 hj).1
         rw[←c2.1,(h_i c1).1] at hlt
         obtain ⟨v,v1,_⟩:=hcell i j hi' hlt
         rw[v1];rfl
       · obtain ⟨hi',rfl⟩:=hget i row hi
         obtain ⟨cs,c1,c2,_⟩:=hF i hi'
         have hlt:=(List.getElem?_eq_some_iff.1 hj).1
         rw[←c2.1,(h_i c1).1] at hlt
         obtain ⟨v,v1,v2⟩:=hcell i j hi' hlt
         rw[v1];exact v2 d hj
       · have:=hw _ (.inl rfl)
         simp only[List.length_map,List.length_range] at this ⊢
         have h2:len * P.bytesOf e≤(elems.length+rest.length) * P.bytesOf e:=Nat.mul_le_mul_right _ (by omega)
         omega
       · obtain ⟨i,hi,rfl⟩:=List.mem_map.1 hrow
         obtain ⟨cs,_,_,c3,_⟩:=hF i (by simpa using hi)
         exact c3
       · have h1 : p_5 ((List.range len).map F) ≤ (elems.map fun x => bulk x.1).sum := a_k0 _ _ (by simp; omega) fun i row k hi hk => by
           obtain ⟨hi',rfl⟩:=hget i row hi
           obtain ⟨cs,_,_,_,c4⟩:=hF i hi'
           rw[List.getElem?_map,Option.map_eq_some_iff] at hk
           obtain ⟨x,hx,rfl⟩:=hk
           exact c4 x hx
         have h2:=B.sl (elems.map (·.1)) (rest.map (·.1))
         rw[List.map_map] at h2
         have h3:(elems.map (bulk ∘ fun x=>x.1)).sum=(elems.map fun x=>bulk x.1).sum:=rfl
         show wtD _+wtL []≤bulk (.slice (elems.map (·.1)) (rest.map (·.1)))
         show (1+p_5 ((List.range len).map F)) +0≤_
         omega
   · rename_i fs hu
     simp only[Bool.and_eq_true,List.all_eq_true] at hp
     obtain ⟨xs,m,_,rfl,hl,hlen,hf⟩:=DataW.trod_struct hu h
     simp only[DataW.weights,hu] at hw
     have:=a_aj (β:=β) (bulk:=bulk) n (fun t cs hp fuel x=>v_y B n t cs hp fuel x) cs m fs.toList 0 xs (by rw[hl];exact hp.1) (fun f hf=>hp.2 f hf) (by simpa using hlen) (fun i f hi=>hf i f (by simpa using hi)) hw (by omega)
     obtain ⟨ds,g1,g2,g3⟩:=this
     rw[List.drop_zero] at g1
     have h2:=B.agg (xs.map (·.1))
     rw[List.map_map] at h2
     exact ⟨ds,g1,g2,Nat.le_trans g3 h2⟩
   · rename_i m e hu
     simp only[Bool.and_eq_true] at hp
     cases fuel with
     | zero=>simp[DataW.trod] at h
     | succ fuel=>
       unfold DataW.trod at h
       rw[hu] at h
       have h:(if cs.length=P.cellsOf t then ((List.range m).mapM fun i=>DataW.trod enc P w 0 (fun _=>true) true fuel e ((cs.drop (i * P.cellsOf e)).take (P.cellsOf e))).map fun xs=>((.agg (xs.map (·.1)) :DataW H),xs.flatMap (·.2)) else none) =some x:=by
         cases cs <;> simpa using h
       split at h
       · rename_i hl
         rw[Option.map_eq_some_iff] at h
         obtain ⟨xs,hx,rfl⟩:=h
         simp only[DataW.weights,hu] at hw
         have hxl:=mapM_some_length hx
         have h2:=B.agg (xs.map (·.1))
         rw[List.map_map] at h2
         obtain ⟨ds,g1,g2,g3⟩:=a_la (β:=β) (bulk:=bulk) n (fun t cs hp fuel x=>v_y B n t cs hp fuel x) e hp.1 fuel m cs xs (by rw[hl];exact (Nat.eq_of_beq_eq_true hp.2).symm) (by simpa using hxl) (fun i hi=>mapM_some_get hx i i (by simp[hi])) hw
         exact ⟨ds,g1,g2,Nat.le_trans g3 h2⟩
       · cases h
   · cases hp
theorem a_pa {bulk:DataW H→Nat}(B:Bulk bulk){t:TypeId}{v:Value}{d:DataW H}{ps:List MemPlace}{base:Nat}(hp:plainT P 30 t=true)(hok:Value.okWide P w .any base t v)(h:DataW.Trod enc P w 0 (fun _=>true) true t v d ps)
   (hw:∀m ∈ d.weights P t,m≤140737488351232) :∃x,TyA P t x∧VA (j_e w) noB w v x∧wtA x≤bulk d:=by
 obtain ⟨fuel,h⟩:=h
 obtain ⟨ds,h1,h2,h3⟩:=v_y B (β:=noB) 30 t _ hp fuel _ h hw
 rcases a_pe hp hok with ⟨q1,q2⟩ | ⟨q1,cs,rfl⟩
 · rw[q2] at h1
   have hl:=h1.1
   match ds,hl with
   | [d'],_=>exact ⟨.one d',⟨q1,h2⟩,h1.2 0 v d' rfl rfl,by simpa[wtL,wtA] using h3⟩
 · exact ⟨.agg ds,⟨q1,h2⟩,⟨cs,rfl,h1⟩,h3⟩
theorem a_ip {bulk:DataW H→Nat}(B:Bulk bulk){base:Nat} :∀{ts:List TypeId} {vs:List Value} {ds:List (DataW H)} {ps:List MemPlace},(∀t ∈ ts,plainT P 30 t=true)→(∀(j:Nat) t v,ts[j]? =some t→vs[j]? =some v→Value.okWide P w .any base t v)→
   DataW.TrodAll enc P w 0 (fun _=>true) true ts vs ds ps→(∀m ∈ DataW.weightsEach P ts ds,m≤140737488351232)→
   ∃as0,TyAs P ts as0∧vs.length=as0.length∧(∀(i:Nat) v x,vs[i]? =some v→as0[i]? =some x→VA (j_e w) noB w v x)∧(as0.map wtA).sum≤(ds.map bulk).sum
 | [],vs,ds,ps,_,_,h,_=>by
   obtain ⟨rfl,rfl,rfl⟩:=trodAll_nil h
   exact ⟨[],rfl,rfl,fun i v x hv=>by simp at hv,by simp⟩
 | t::ts,vs,ds,ps,hp,hok,h,hw=>by
   obtain ⟨v,vs1,d,ds1,a,b,rfl,rfl,rfl,h1,h2⟩:=trodAll_cons h
   simp only[DataW.weightsEach,List.mem_append] at hw
   obtain ⟨x,x1,x2,x3⟩:=a_pa B (hp t (by simp)) (hok 0 t v rfl rfl) h1 (fun m hm=>hw m (.inl hm))
   obtain ⟨as0,a1,a2,a3,a4⟩:=a_ip B (fun t ht=>hp t (by simp[ht])) (fun j t v h1 h2=>hok (j+1) t v (by simpa using h1) (by simpa using h2)) h2 (fun m hm=>hw m (.inr hm))
   refine ⟨x::as0,⟨x,as0,rfl,x1,a1⟩,by simp[a2],fun i u y hu hy=>?_,by simp only[List.map_cons,List.sum_cons];omega⟩
   cases i with
   | zero=>simp at hu hy;subst hu hy;exact x2
   | succ i=>exact a3 i u y (by simpa using hu) (by simpa using hy)
theorem law_calls_bulk {bulk:DataW H→Nat}{N:Nat}(B:Bulk bulk)
   {f:FuncId} {fn:Func} {s:ChangeSpec} {W:World} {base:Nat} {args:Array Value} {ds gs:List (DataW H)} {before:List MemPlace} {tb:TypeId} (hl:laidOutB P=true)
   (hp:(fn.params.toList.all fun t=>plainT P 30 t && P.readableRec t && decide (t < P.types.size)) =true) (hvars:s.vars=[]) (hres:fn.resultTypes= #[tb]) (htb:P.underlying tb=some .bool)
   (hfn:ds.length=fn.params.size→(s.fn H ds) = { results:= [.lit (.bool true)],args:=ds })
   (law:∀as0,TyAs P fn.params.toList as0→(as0.map wtA).sum≤N→DCalls P f as0 noS fun r _=>r= .a (.one (.bool true)))
   (hgl:Gl P (j_e W) W)
   (hval:∀(j:Nat) t v,fn.params[j]? =some t→args[j]? =some v→Value.okWide P W .any base t v)
   (hW:DataW.Whole enc P fn.params.toList s.vars false W args.toList ds gs before) (hbk:((ds ++ gs).map bulk).sum≤N)
   (hw:((DataW.weightsEach P (fn.params.toList ++ s.plain.varTypes P) (ds ++ gs)).all (·≤reachBytes)) =true) :
   Calls P f args W fun e W'=>∃v,e= .returned v∧s.post enc P fn false true false false W args v W':=by
 simp only[List.all_eq_true,Bool.and_eq_true,decide_eq_true_eq] at hp
 have hW':=hW
 obtain ⟨p,q,hA,hV,rfl,hz,_⟩:=hW'
 have hg:gs=[]:=by rw[hvars] at hV;exact (trodVars_none hV).1
 subst hg
 have hvt:s.plain.varTypes P=[]:=by
   have:s.plain.vars=[]:=hvars
   simp[DataSpec.varTypes,this]
 rw[hvt,List.append_nil,List.append_nil] at hw
 rw[List.append_nil] at hbk
 obtain ⟨as0,a1,a2,a3,a4⟩:=a_ip B (base:=base) (fun t ht=>(hp t ht).1.1) (fun j t v h1 h2=>hval j t v (by simpa using h1) (by simpa using h2)) hA (fun m hm=>by
   have:=of_decide_eq_true (List.all_eq_true.1 hw m hm)
   simpa[reachBytes] using this)
 have hlen:ds.length=fn.params.size:=by
   have key:∀{ts:List TypeId} {vs:List Value} {ds:List (DataW H)} {ps:List MemPlace},DataW.TrodAll enc P W 0 (fun _=>true) true ts vs ds ps→ds.length=ts.length:=by
     intro ts
     induction ts with
     | nil=>intro vs ds ps h;obtain ⟨_,rfl,_⟩:=trodAll_nil h;rfl
     | cons t ts ih=>intro vs ds ps h;obtain ⟨v,vs1,d,ds1,a,b,_,rfl,_,_,h2⟩:=trodAll_cons h;simp[ih h2]
   simpa using key hA
 have hd:=(law as0 a1 (Nat.le_trans a4 hbk)).2 (j_e W) noB W args (a_om hgl) (by simpa using a2) (fun i v x h1 h2=>a3 i v x (by simpa using h1) h2)
 refine hd.mono fun e W' ⟨v,r,σ',k',β',q1,q2,q3,q4,q5,q6⟩=>⟨v,q1,?_⟩
 subst q2
 have hv:v= .bool true:=V.inv_bool q3
 subst hv
 exact a_kx hl (fun t ht=>⟨(hp t ht).1.2,(hp t ht).2⟩) hvars hres htb (hfn hlen) hW ⟨q6.os,q6.tape,q6.output,q6.size,fun b hb=>q6.block b hb (fun i bi hi=>by cases hi)⟩
end
end
end Go.Fw
namespace Go.Fw
section
variable {P:Program} {σ σ':Store} {el:TypeId} {d:D} {rs:List (List D)}
theorem d_9 {n:Int}(h1: -9223372036854775808≤n)(h2:n≤9223372036854775807) :w64 n=n:=by
 simp only[w64,IntKind.wrap,IntKind.signed,IntKind.bits];simp;omega
theorem a_g {j:Nat}(h:j < 2 ^ 62) :w64 ((j:Int) +1) =((j+1:Nat) :Int):=by
 rw[d_9 (by omega) (by omega)];omega
structure At (P:Program) (σ:Store) (el:TypeId) (d:D) (rs:List (List D)) :Prop where
 rows:Rows P σ el d rs
 size:rs.length < 2 ^ 60
 es:∀es rows,d= .sl es rows→es=P.cellsOf el
theorem At.lenI (h:At P σ el d rs) :Len d rs.length:=by
 have hr:=h.rows
 cases d <;> simp only[Rows] at hr <;> try exact hr.elim
 · subst hr;rfl
 · subst hr;rfl
 · rw[hr.1];rfl
 · obtain ⟨t,rows,h1,h2,h3,rfl⟩:=hr
   show _=_
   simp;omega
theorem At.len {n:Nat}(h:At P σ el d rs)(hl:Len d n) :n=rs.length:=by
 have hr:=h.rows
 cases d <;> simp only[Rows] at hr <;> try exact hr.elim
 · subst hr;exact hl
 · subst hr;exact hl
 · rw[hr.1];exact hl
 · obtain ⟨t,rows,h1,h2,h3,rfl⟩:=hr
   have:n=_:=hl
   simp;omega
theorem At.lenK {K:Nat→Prop}(h:At P σ el d rs)(hk:K rs.length) :∃len:Nat,Len d len∧K len:=⟨_,h.lenI,hk⟩
theorem At.row {i:Nat}{row:List D}(h:At P σ el d rs)(hi:rs[i]? =some row) :Row σ d i row:=by
 have hr:=h.rows
 have hlt:=(List.getElem?_eq_some_iff.1 hi).1
 cases d <;> simp only[Rows] at hr <;> try exact hr.elim
 · subst hr;simp at hi
 · subst hr;simp at hi
 · rw[hr.1] at hi;exact hi
 · obtain ⟨t,rows,h1,h2,h3,rfl⟩:=hr
   refine ⟨?_,t,rows,h1,?_⟩
   · simp at hlt;omega
   · rw[List.getElem?_take] at hi
     split at hi
     · rw[List.getElem?_drop] at hi;exact hi
     · cases hi
theorem At.idx {es:Nat}(h:At P σ el d rs)(hes:P.cellsOf el=es)(hne:0 < rs.length) :Idx P σ d es rs.length:=by
 have hr:=h.rows
 subst hes
 cases d <;> simp only[Rows] at hr <;> try exact hr.elim
 · subst hr;simp at hne
 · subst hr;simp at hne
 · obtain ⟨rfl,h2⟩:=hr
   refine ⟨h2.resolve_left (fun e=>by subst e;simp at hne),rfl⟩
 · obtain ⟨t,rows,h1,h2,h3,rfl⟩:=hr
   exact ⟨by simp;omega,t,rows,h1,h2⟩
theorem At.idxN {es:Nat}(h:At P σ el d rs)(hes:P.cellsOf el=es) :IdxN P σ d es rs.length:=by
 by_cases hne:0 < rs.length
 · exact .inl (h.idx hes hne)
 · have hr:=h.rows
   have h0:rs=[]:=List.eq_nil_of_length_eq_zero (by omega)
   subst hes
   cases d <;> simp only[Rows] at hr <;> try exact hr.elim
   · exact .inr ⟨by omega, .inl rfl⟩
   · exact .inr ⟨by omega, .inr rfl⟩
   · exact .inl ⟨h.es _ _ rfl,by rw[hr.1]⟩
   · obtain ⟨t,rows,h1,h2,h3,rfl⟩:=hr
     exact .inl ⟨by simp;omega,t,rows,h1,h2⟩
theorem At.idxK {es:Nat}{n:Int}{j:Nat}{K:Prop}(h:At P σ el d rs)(hes:P.cellsOf el=es)(hn:n=j)(hj:j < rs.length)(hk:K) :
   ∃len:Nat,Idx P σ d es len∧0≤n∧n < (len:Int)∧K:=⟨_,h.idx hes (by omega),by omega,by omega,hk⟩
theorem At.rowK {i:Nat}{j:Nat}{row:List D}{K:List D→Prop}(h:At P σ el d rs)(hi:rs[j]? =some row)(hij:i=j)(hk:K row) :∃row,Row σ d i row∧K row:=⟨row,h.row (hij ▸ hi),hk⟩
theorem At.load {es:Nat}{n:Int}{j:Nat}{row:List D}{K:List D→Prop}(h:At P σ el d rs)(hi:rs[j]? =some row)(hes:P.cellsOf el=es)(hn:n=j)(hk:K row) :
   ∃len:Nat,Idx P σ d es len∧0≤n∧n < (len:Int)∧∃row,Row σ d n.toNat row∧K row:=
 h.idxK hes hn (List.getElem?_eq_some_iff.1 hi).1 (h.rowK hi (by omega) hk)
theorem At.sub {lo hi:Nat}(h:At P σ el d rs)(h1:lo≤hi)(h2:hi≤rs.length) :At P σ el (e_g d lo hi) ((rs.drop lo).take (hi - lo)):=by
 have hr:=h.rows
 have hs:=h.size
 have hl:((rs.drop lo).take (hi - lo)).length < 2 ^ 60:=by simp;omega
 cases d <;> simp only[Rows] at hr <;> try exact hr.elim
 · subst hr;exact ⟨by simp[e_g,Rows],hl,fun es rows e=>by cases e⟩
 · subst hr;exact ⟨by simp[e_g,Rows],hl,fun es rows e=>by cases e⟩
 · rename_i es rows
   obtain ⟨rfl,h3⟩:=hr
   refine ⟨⟨rfl, .inr (h.es _ _ rfl)⟩,hl,fun es' rows' e=>?_⟩
   have e:D.sl es _=D.sl es' rows':=e
   injection e with e1 e2
   rw[←e1];exact h.es _ _ rfl
 · obtain ⟨t,rows,q1,q2,q3,rfl⟩:=hr
   refine ⟨⟨t,rows,q1,q2,?_,?_⟩,hl,fun es rows e=>by cases e⟩
   · simp at h2;omega
   · rw[List.drop_take,List.take_take,List.drop_drop]
     simp at h2
     congr 1;omega
theorem At.sliceK {es lo hi:Nat}{l m:Int}{K:Prop}(h:At P σ el d rs)(hes:P.cellsOf el=es)(hl:l=lo)(hm:m=hi)(h1:lo≤hi)(h2:hi≤rs.length)(hk:K) :
   ∃len:Nat,IdxN P σ d es len∧0≤l∧l≤m∧m≤(len:Int)∧K:=⟨_,h.idxN hes,by omega,by omega,by omega,hk⟩
theorem At.sliceFromK {es lo:Nat}{l:Int}{K:Nat→Prop}(h:At P σ el d rs)(hes:P.cellsOf el=es)(hl:l=lo)(h1:lo≤rs.length)(hk:K rs.length) :
   ∃len:Nat,IdxN P σ d es len∧0≤l∧l≤(len:Int)∧K len:=⟨_,h.idxN hes,by omega,by omega,hk⟩
def Ext (σ σ':Store) :Prop:=∀i,σ i≠ .free→σ' i=σ i
theorem Ext.refl (σ:Store) :Ext σ σ:=fun _ _=>rfl
theorem Ext.trans {σ1 σ2 σ3:Store}(h:Ext σ1 σ2)(h':Ext σ2 σ3) :Ext σ1 σ3:=fun i hi=>by
 have:=h i hi
 rw[h' i (by rw[this];exact hi),this]
theorem Ext.new {id:Nat}(h:σ id= .free)(so:SO) :Ext σ (σ.set id so):=fun i hi=>Store.set_ne _ _ (fun e=>hi (e ▸ h))
theorem Ext.set {σ0:Store}{id:Nat}(h:Ext σ0 σ)(hid:σ0 id= .free)(so:SO) :Ext σ0 (σ.set id so):=fun i hi=>by
 have hne:i≠id:=fun e=>hi (by rw[e];exact hid)
 rw[Store.set_ne _ _ hne];exact h i hi
theorem Rows.same (h:Rows P σ el d rs)(hs:∀id i len,d= .osl id i len→σ' id=σ id) :Rows P σ' el d rs:=by
 cases d <;> first | exact h | skip
 obtain ⟨t,rows,h1,h2⟩:=h
 exact ⟨t,rows,by rw[hs _ _ _ rfl];exact h1,h2⟩
theorem At.same (h:At P σ el d rs)(hs:∀id i len,d= .osl id i len→σ' id=σ id) :At P σ' el d rs:=⟨h.rows.same hs,h.size,h.es⟩
theorem At.ext (h:At P σ el d rs)(he:Ext σ σ') :At P σ' el d rs:=h.same fun id i len e=>he id (by
 have:=h.rows;subst e
 obtain ⟨t,rows,h1,_⟩:=this
 rw[h1];intro e;cases e)
theorem At.lt_live {id i len:Nat}(h:At P σ el (.osl id i len) rs) :∃t rows,σ id= .live t rows∧P.cellsOf t=P.cellsOf el∧i+len≤rows.length∧rs=(rows.drop i).take len:=h.rows
theorem At.nil:At P σ el .nils []:=⟨rfl,by simp,fun es rows e=>by cases e⟩
theorem At.new {t:TypeId}{id:Nat}(rs:List (List D))(h:σ id= .live t rs)(hes:P.cellsOf t=P.cellsOf el)(hsz:rs.length < 2 ^ 60){n:Nat}(hn:n=rs.length) :At P σ el (.osl id 0 n) rs:=
 ⟨⟨t,rs,h,hes,by omega,by subst hn;simp⟩,hsz,fun es rows e=>by cases e⟩
theorem At.fresh {id:Nat}{rs:List (List D)}(h:σ id= .live el rs)(hsz:rs.length < 2 ^ 60){n:Nat}(hn:n=rs.length) :At P σ el (.osl id 0 n) rs:= .new rs h rfl hsz hn
theorem a_f {so:SO}{K:Nat→Store→Prop}(h:∀id σ',σ id= .free→σ'=σ.set id so→Ext σ σ'→σ' id=so→K id σ') :Fw.newObj σ so K:=
 fun id hid=>h id _ hid rfl (Ext.new hid so) (Store.set_same _ _ _)
/-! ### cases -/
theorem bc {b:Bool}{x y:Prop}(h1:b=true→x)(h2:b=false→y) :a_c b x y:=by cases b;exact h2 rfl;exact h1 rfl
theorem bcd {p:Prop}[Decidable p]{x y:Prop}(h1:p→x)(h2:¬p→y) :a_c (decide p) x y:=bc (fun h=>h1 (of_decide_eq_true h)) (fun h=>h2 (of_decide_eq_false h))
theorem bce {a b:Int}{x y:Prop}(h1:a=b→x)(h2:a≠b→y) :a_c (a == b) x y:=bc (fun h=>h1 (by simpa using h)) (fun h=>h2 (by simpa using h))
theorem bcn {a b:Int}{x y:Prop}(h1:a≠b→x)(h2:a=b→y) :a_c (a != b) x y:=bc (fun h=>h1 (by simpa using h)) (fun h=>h2 (by simpa using h))
theorem b_g {b:Bool}{x y:Prop}(h1:b=false→x)(h2:b=true→y) :a_c (!b) x y:=by cases b;exact h1 rfl;exact h2 rfl
/-! ### calls -/
def Pure (P:Program)(f:FuncId)(as0:List A)(σ:Store)(r:RV) :Prop:=DCalls P f as0 σ fun r' σ'=>r'=r∧σ'=σ
theorem Pure.use {f:FuncId}{as0:List A}{r:RV}{Q:RV→Store→Prop}(h:Pure P f as0 σ r)(hq:Q r σ) :DCalls P f as0 σ Q:=h.mono fun r' s ⟨h1,h2⟩=>by subst h1 h2;exact hq
/-! ### what a call hands back -/
theorem Fz.refl {S:Nat→Prop}{es:Nat}{rows:List (List D)}(h:∀row ∈ rows,∀d ∈ row,Fz P σ S d d) :Fz P σ S (.sl es rows) (.sl es rows):=
 .sl es rows rows rfl (fun i row row' h1 h2=>by rw[h1] at h2;injection h2 with h2;rw[h2]) (fun i row row' j d d' h1 h2 h3 h4=>by
   rw[h1] at h2;injection h2 with h2;subst h2
   rw[h3] at h4;injection h4 with h4;subst h4
   exact h row (List.mem_of_getElem? h1) d (List.mem_of_getElem? h3))
inductive Flat:D→Prop
 | int (q n) :Flat (.int q n)
 | bool (b) :Flat (.bool b)
 | str (s) :Flat (.str s)
 | ifc (b) :Flat (.ifc b)
theorem Flat.fz {S:Nat→Prop}{d:D}(h:Flat d) :Fz P σ S d d:=by cases h <;> constructor
theorem Fz.osl_flat {S:Nat→Prop}{id i len:Nat}{rows':List (List D)}{t:TypeId}{rows:List (List D)}(hn:¬S id)(hs:σ id= .live t rows)(hi:i+len≤rows.length)(hr:rows'=(rows.drop i).take len)
   (hf:∀row ∈ rows',∀d ∈ row,Flat d) :Fz P σ S (.osl id i len) (.sl (P.cellsOf t) rows'):=by
 have hl:rows'.length=len:=by rw[hr];simp;omega
 have key:∀(j:Nat) row row',rows[i+j]? =some row→rows'[j]? =some row'→row'=row:=fun j row row' h1 h2=>by
   have hlt:=(List.getElem?_eq_some_iff.1 h2).1
   rw[hr,List.getElem?_take,if_pos (by omega),List.getElem?_drop,h1] at h2
   injection h2 with h2;exact h2.symm
 exact .osl id i len t rows rows' hn hs hi hl (fun j row row' h1 h2=>by rw[key j row row' h1 h2]) (fun j row row' m d d' h1 h2 h3 h4=>by
   have e:=key j row row' h1 h2
   subst e
   rw[h3] at h4;injection h4 with h4;subst h4
   exact (hf row' (List.mem_of_getElem? h2) d (List.mem_of_getElem? h3)).fz)
theorem Ret.pure {σ0:Store}{r r':RV}(he:Ext σ0 σ)(hr:FzR P σ (fun i=>σ0 i≠ .free) r r') :Ret P σ0 σ r σ0 r':=
 ⟨fun i=>σ0 i≠ .free,fun i h=>h,fun i h=>Classical.not_not.1 h,fun i h=> .inl ⟨(he i h).symm,he i h⟩,hr⟩
theorem FzL.cons {S:Nat→Prop}{d d':D}{ds ds':List D}(h:Fz P σ S d d')(ht:FzL P σ S ds ds') :FzL P σ S (d::ds) (d'::ds'):=
 ⟨by simp[ht.1],fun i x y h1 h2=>by
   cases i with
   | zero=>simp at h1 h2;subst h1 h2;exact h
   | succ i=>exact ht.2 i x y (by simpa using h1) (by simpa using h2)⟩
theorem FzL.nil {S:Nat→Prop} :FzL P σ S [] []:=⟨rfl,fun i x y h=>by simp at h⟩
theorem FzL.flat {S:Nat→Prop}{ds:List D}(h:∀d ∈ ds,Flat d) :FzL P σ S ds ds:=
 ⟨rfl,fun i x y h1 h2=>by rw[h1] at h2;injection h2 with h2;subst h2;exact (h x (List.mem_of_getElem? h1)).fz⟩
theorem a_ap {σ0:Store}{rs:List (List D)}(h:At P σ el d rs)(he:Ext σ0 σ)(hid:∀id i len,d= .osl id i len→σ0 id= .free)(hf:∀row ∈ rs,∀x ∈ row,Flat x) :
   ∃d',Fz P σ (fun i=>σ0 i≠ .free) d d'∧(∀σ'',At P σ'' el d' rs):=by
 have hr:=h.rows
 cases d <;> simp only[Rows] at hr <;> try exact hr.elim
 · subst hr;exact ⟨.nils, .nils,fun _=> .nil⟩
 · subst hr;exact ⟨.zsl, .zsl,fun _=>⟨rfl,by simp,fun es rows e=>by cases e⟩⟩
 · rename_i es rows
   obtain ⟨rfl,h3⟩:=hr
   exact ⟨_, .refl fun row hrow x hx=>(hf row hrow x hx).fz,fun σ''=>⟨⟨rfl,h3⟩,h.size,h.es⟩⟩
 · obtain ⟨t,rows,q1,q2,q3,rfl⟩:=hr
   rename_i id i len
   refine ⟨.sl (P.cellsOf t) ((rows.drop i).take len), .osl_flat (fun hn=>hn (hid _ _ _ rfl)) q1 q3 rfl hf,fun σ''=>⟨⟨rfl, .inr q2⟩,h.size,fun es rows e=>?_⟩⟩
   injection e with e1 e2
   rw[←e1];exact q2
/-! ### slices that grow -/
structure Own (P:Program) (σ0 σ:Store) (el:TypeId) (d:D) (rs:List (List D)) :Prop where
 at_:At P σ el d rs
 ext:Ext σ0 σ
 new:∀id i len,d= .osl id i len→σ0 id= .free
 nsl:¬isSl d
 nz:d≠ .zsl
theorem Own.nil (σ0:Store)(h:Ext σ0 σ) :Own P σ0 σ el .nils []:=⟨.nil,h,fun id i len e=>(by cases e),fun h=>h,by intro e;cases e⟩
theorem Own.ext' {σ0:Store}(h:Own P σ0 σ el d rs)(he:Ext σ σ') :Own P σ0 σ' el d rs:=⟨h.at_.ext he,h.ext.trans he,h.new,h.nsl,h.nz⟩
theorem Own.append {σ0:Store}{x:D}{ns:List (List D)}{bytes:Nat}{K:D→Store→Prop}(h:Own P σ0 σ el d rs)(hx:At P σ el x ns)(hb:bytes * (rs.length+ns.length)≤140737488355328)
   (hsz:rs.length+ns.length < 2 ^ 60) (hk:∀d' σ',Own P σ0 σ' el d' (rs ++ ns)→(∀i,σ i≠ .free→(∀a b,d≠ .osl i a b)→σ' i=σ i)→(∀i a b,d'= .osl i a b→σ i= .free∨∃a b,d= .osl i a b)→K d' σ') :a_e P σ el bytes d x K:=by
 refine ⟨rs,ns,h.at_.rows,hx.rows,hb,fun hs=>absurd hs h.nsl,fun d' σ' ha=>?_⟩
 have hl:(rs ++ ns).length < 2 ^ 60:=by simp;omega
 rcases ha with ⟨rfl,rfl,rfl⟩ | ⟨hne,id,hid,rfl,rfl⟩ | ⟨hne,id,i0,len,t,rows,rfl,hlive,rfl,rfl⟩
 · refine hk _ _ ?_ (fun i _ _=>rfl) (fun i a b e=> .inr ⟨a,b,e⟩)
   rw[List.append_nil];exact h
 · refine hk _ _ ⟨.new (t:=el) _ (Store.set_same _ _ _) rfl hl (by simp),fun i hi=>?_,fun id' i len e=>?_,fun h=>h,by intro e;cases e⟩ (fun i hi _=>?_) (fun i a b e=> .inl ?_)
   · rw[Store.set_ne _ _ (fun e=>?_)]
     · exact h.ext i hi
     · subst e
       have:=h.ext i hi
       rw[hid] at this;exact hi this.symm
   · injection e with e1;subst e1
     by_cases hf:σ0 id= .free
     · exact hf
     · have:=h.ext id hf
       rw[hid] at this;exact this.symm
   · exact Store.set_ne _ _ (fun e=>hi (e ▸ hid))
   · injection e with e1;subst e1;exact hid
 · have hrow:=h.at_.rows
   obtain ⟨t',rows',q1,q2,q3,hrs⟩:=hrow
   rw[hlive] at q1;injection q1 with q1 q1';subst q1 q1'
   have hnew:=h.new id i0 len rfl
   have hlen:rs.length=len:=by rw[hrs];simp;omega
   refine hk _ _ ⟨⟨⟨t,_,Store.set_same _ _ _,q2,?_,?_⟩,hl,fun es rows e=>by cases e⟩,h.ext.set hnew _,fun id' i l e=>?_,fun h=>h,by intro e;cases e⟩ (fun i hi hd=>Store.set_ne _ _ (fun e=>hd i0 len (by rw[e]))) (fun i a b e=> .inr ?_)
   · simp;omega
   · have e1 : rows.take (i0 + len) = rows.take i0 ++ rs := by
       rw[List.take_add,hrs]
     rw[e1,List.append_assoc,List.append_assoc,List.drop_append_of_le_length (by simp;omega)]
     have e2:(rows.take i0).drop i0=[]:=by rw[List.drop_eq_nil_iff];simp;omega
     rw[e2,List.nil_append,←List.append_assoc,List.take_append_of_le_length (by simp;omega),List.take_of_length_le (by simp;omega)]
   · injection e with e1;subst e1;exact hnew
   · injection e with e1;subst e1;exact ⟨_,_,rfl⟩
/-! ### ranges -/
theorem r_t {α:Type}{l:List α}{j:Nat}{x:α}(h:l[j]? =some x) :l.drop j=x::l.drop (j+1):=by
 obtain ⟨h1,h2⟩:=List.getElem?_eq_some_iff.1 h
 rw[List.drop_eq_getElem_cons h1,h2]
theorem e_u {α:Type}{l:List α}{j:Nat}(h:l.length≤j) :l.drop j=[]:=List.drop_eq_nil_iff.2 h
theorem a_h {α:Type}{l:List α}{j:Nat}(h:j < l.length) :∃x,l[j]? =some x:=⟨l[j],List.getElem?_eq_getElem h⟩
theorem a_m {α β:Type}{f:α→β}{l:List α}{j:Nat}{x:α}(h:l[j]? =some x) :(l.map f)[j]? =some (f x):=by simp[h]
def Rng {α:Type}(l:List α)(F:List α→Prop)(n:Int) :Prop:=∃j:Nat,n=j∧j≤l.length∧F (l.drop j)
theorem Rng.start {α:Type}{l:List α}{F:List α→Prop}(h:F l) :Rng l F 0:=⟨0,rfl,by omega,h⟩
theorem Rng.step {α:Type}{l:List α}{F:List α→Prop}{n:Int}{m:Nat}(h:Rng l F n)(hm:m=l.length)(hl:l.length < 2 ^ 60)(hlt:n < (m:Int)) :
   ∃(j:Nat) (x:α),n=j∧l[j]? =some x∧j < l.length∧F (x::l.drop (j+1))∧
     ∀F':List α→Prop,F' (l.drop (j+1))→Rng l F' (w64 (n+1))∧l.length - (w64 (n+1)).toNat < l.length - n.toNat:=by
 obtain ⟨j,rfl,hj,hF⟩:=h
 have hj':j < l.length:=by omega
 obtain ⟨x,hx⟩:=a_h hj'
 refine ⟨j,x,rfl,hx,hj',by rw[←r_t hx];exact hF,fun F' h'=>?_⟩
 rw[a_g (by omega)]
 exact ⟨⟨j+1,rfl,by omega,h'⟩,by omega⟩
theorem Rng.done {α:Type}{l:List α}{F:List α→Prop}{n:Int}{m:Nat}(h:Rng l F n)(hm:m=l.length)(hge:¬n < (m:Int)) :F []:=by
 obtain ⟨j,rfl,hj,hF⟩:=h
 rw[e_u (by omega)] at hF;exact hF
theorem m_t {p a b:Prop}(hp:p)(h:a∧b) :(p∧a)∧b:=⟨⟨hp,h.1⟩,h.2⟩
/-! ### maps -/
def MapAt {κ:Type}(P:Program)(kt:TypeId)(enc:κ→A)(σ:Store)(id:Nat)(f:κ→Option A) :Prop:=
 ∃clock es,σ id= .mp clock es∧h_l P kt es∧∀x,b_x (enc x) es=f x
def Keys {κ:Type}(P:Program)(kt:TypeId)(enc:κ→A) :Prop:=(∀x,f_c P kt (enc x) =true)∧∀x y,eqA (enc x) (enc y) =true↔x=y
variable {κ:Type} {kt:TypeId} {enc:κ→A} {id:Nat} {f:κ→Option A}
theorem MapAt.new (h:σ id= .mp 0 []) :MapAt P kt enc σ id fun _=>none:=⟨0,[],h,fun e he=>(by cases he),fun x=>rfl⟩
theorem MapAt.same (h:MapAt P kt enc σ id f)(hs:σ' id=σ id) :MapAt P kt enc σ' id f:=by
 obtain ⟨c,es,h1,h2⟩:=h
 exact ⟨c,es,hs.trans h1,h2⟩
theorem MapAt.look (hk:Keys P kt enc)(h:MapAt P kt enc σ id f)(x:κ) :h_e P kt σ (.omap id) (enc x) (f x):=by
 obtain ⟨c,es,h1,h2,h3⟩:=h
 exact ⟨hk.1 x, .inr ⟨id,c,es,rfl,h1,h2,(h3 x).symm⟩⟩
theorem MapAt.lookI (hk:Keys P kt enc)(h:MapAt P kt enc σ id f)(x:κ){n:Int}{K:Int→Prop}(hn:(f x).getD (iA 0) =iA n)(hK:K n) :
   ∃r:Option A,h_e P kt σ (.omap id) (enc x) r∧∃n:Int,Option.getD r (iA 0) =iA n∧K n:=⟨_,h.look hk x,n,hn,hK⟩
theorem MapAt.put (hk:Keys P kt enc)(h:MapAt P kt enc σ id f)(x:κ){v:A}{K:Store→Prop}
   (hK:∀σ' f',MapAt P kt enc σ' id f'→(∀z,z≠x→f' z=f z)→f' x=some v→(∀i,i≠id→σ' i=σ i)→σ' id≠ .free→K σ') :MPut P kt σ (.omap id) (enc x) v K:=by
 obtain ⟨c,es,h1,h2,h3⟩:=h
 refine ⟨id,c,es,⟨hk.1 x,rfl,h1,h2⟩,fun c' es' e2 e3=>?_⟩
 exact hK _ (fun z=>b_x (enc z) es') ⟨c',es',Store.set_same _ _ _,e2,fun z=>rfl⟩ (fun z hz=>by rw[e3,if_neg (fun h=>hz ((hk.2 z x).1 h)),h3]) (by rw[e3,if_pos ((hk.2 x x).2 rfl)])
   (fun i hi=>Store.set_ne _ _ hi) (by rw[Store.set_same];intro e;cases e)
theorem MapAt.bump (hk:Keys P kt enc)(h:MapAt P kt enc σ id f)(x:κ){z v:A}{K:Store→Prop}
   (hK:∀σ' f',MapAt P kt enc σ' id f'→(∀z,z≠x→f' z=f z)→f' x=some v→(∀i,i≠id→σ' i=σ i)→σ' id≠ .free→K σ') :
   a_b4 P kt σ (.omap id) (enc x) z fun _ n σ'=>w_4 σ' (.omap id) n v K:=by
 obtain ⟨c,es,h1,h2,h3⟩:=h
 refine ⟨id,c,es,⟨hk.1 x,rfl,h1,h2⟩,fun hb=>?_⟩
 have fin : ∀ (c' : Nat) (es1 : List Ent), h_l P kt es1 → (∀ y, b_x y (n_c (h_n c es (enc x)) v es1) = if eqA y (enc x) = true then some v else b_x y es) → h_l P kt (n_c (h_n c es (enc x)) v es1) →
     w_j c es (enc x) ((b_x (enc x) es).getD z) = .mp c' es1→(∃e ∈ es1,(e.1:Int) =(h_n c es (enc x) :Nat))→
     w_4 (σ.set id (w_j c es (enc x) ((b_x (enc x) es).getD z))) (.omap id) (h_n c es (enc x) :Nat) v K:=by
   intro c' es1 hk1 hf hk2 he hm
   refine ⟨id,c',es1,rfl,by rw[Store.set_same,he],hm,?_⟩
   exact hK _ (fun y=>b_x (enc y) (n_c (h_n c es (enc x)) v es1)) ⟨c',_,Store.set_same _ _ _,hk2,fun y=>rfl⟩ (fun y hy=>by rw[hf,if_neg (fun h=>hy ((hk.2 y x).1 h)),h3]) (by rw[hf,if_pos ((hk.2 x x).2 rfl)])
     (fun i hi=>by rw[Store.set_ne _ _ hi,Store.set_ne _ _ hi]) (by rw[Store.set_same];intro e;cases e)
 rcases k_6 c es (enc x) ((b_x (enc x) es).getD z) with ⟨hn,e1,e2,e3⟩ | ⟨j,e,hf,e1,e2,e3⟩
 · rw[e2,Option.getD_none] at e1
   have hst:n_c (h_n c es (enc x)) v (es ++ [(c,enc x,z)]) =es ++ [(c,enc x,v)]:=by
     have hj:(es ++ [(c,enc x,z)])[es.length]? =some (c,enc x,z):=by simp
     rw[t_k (hb.push (enc x) z).2 hj (by rw[e3])]
     simp
   refine fin (c+1) (es ++ [(c,enc x,z)]) (fun w hw=>?_) (fun y=>?_) ?_ (by rw[e2,Option.getD_none];exact e1) ⟨(c,enc x,z),List.mem_append_right _ (List.mem_singleton.2 rfl),by rw[e3]⟩
   · rcases List.mem_append.1 hw with hw | hw
     · exact h2 w hw
     · simp at hw;subst hw;exact hk.1 x
   · rw[hst,r_9]
     by_cases hxy:eqA y (enc x) =true
     · have hnx : b_x y es = none := x_8 fun e he => by
         have h1:=hn e he
         have:=i_o (by rw[f_b];exact hxy:eqA (enc x) y=true) e.2.1
         rw[f_b e.2.1 (enc x),h1,f_b e.2.1 y] at this
         exact this.symm
       simp[hxy,hnx]
     · simp[hxy]
   · rw[hst]
     intro w hw
     rcases List.mem_append.1 hw with hw | hw
     · exact h2 w hw
     · simp at hw;subst hw;exact hk.1 x
 · rw[e2,Option.getD_some] at e1
   have hlt:=(List.getElem?_eq_some_iff.1 hf.1).1
   have hj:(es.set j (e.1,enc x,e.2.2))[j]? =some (e.1,enc x,e.2.2):=by simp[hlt]
   have hst:n_c (h_n c es (enc x)) v (es.set j (e.1,enc x,e.2.2)) =es.set j (e.1,enc x,v):=by
     rw[t_k (hb.set hf.1 (enc x) e.2.2).2 hj (by rw[e3]),List.set_set]
   refine fin c (es.set j (e.1,enc x,e.2.2)) (fun w hw=>?_) (fun y=>by rw[hst];exact a_ag hf) ?_ (by rw[e2,Option.getD_some];exact e1) ⟨_,List.mem_of_getElem? hj,by rw[e3]⟩
   · rcases List.mem_or_eq_of_mem_set hw with hw | hw
     · exact h2 w hw
     · subst hw;exact hk.1 x
   · rw[hst]
     intro w hw
     rcases List.mem_or_eq_of_mem_set hw with hw | hw
     · exact h2 w hw
     · subst hw;exact hk.1 x
theorem v_6 {σ0:Store}{id i0 n:Nat}(h:σ0 id= .free) :∀id' i len,D.osl id i0 n= .osl id' i len→σ0 id'= .free:=fun id' i len e=>by
 have:=(D.osl.inj e).1
 rw[←this];exact h
inductive FlatR:RV→Prop
 | one (x:D) (h:Flat x) :FlatR (.a (.one x))
 | agg (ds:List D) (h:∀d ∈ ds,Flat d) :FlatR (.a (.agg ds))
 | tup (ds:List D) (h:∀d ∈ ds,Flat d) :FlatR (.tup (ds.map .one))
theorem FlatR.fz {S:Nat→Prop}{r:RV}(h:FlatR r) :FzR P σ S r r:=by
 cases h with
 | one d h=>exact h.fz
 | agg ds h=>exact FzL.flat h
 | tup ds h=>
   refine ⟨rfl,fun i x y h1 h2=>?_⟩
   rw[h1] at h2;injection h2 with h2;subst h2
   simp only[List.getElem?_map,Option.map_eq_some_iff] at h1
   obtain ⟨d,h1,rfl⟩:=h1
   exact (h d (List.mem_of_getElem? h1)).fz
theorem Pure.of {f:FuncId}{as0:List A}{r:RV}(h:DCalls P f as0 σ fun r' s=>r'=r∧Ext σ s)(hf:FlatR r) :Pure P f as0 σ r:=
 h.ret fun r' s ⟨h1,h2⟩=>by subst h1;exact ⟨r',σ, .pure h2 hf.fz,rfl,rfl⟩
theorem a_o1 (n:Int) :FlatR (.a (iA n)):= .one _ (.int _ _)
theorem t_q (b:Bool) :FlatR (.a (bA b)):= .one _ (.bool _)
theorem a_j5 (h:∀a b:Int,f_c P kt (.agg [iD a,iD b]) =true) :Keys P kt fun p:Int × Int=> .agg [iD p.1,iD p.2]:=
 ⟨fun x=>h _ _,fun x y=>by simp[eqA,b_p,b_j,d_x,Prod.ext_iff]⟩
end
end Go.Fw
namespace Go.Fw
open Go.Shelf Go.Sort Go.Proofs
section
variable {P:Program} {ρ:Ren} {σ:Store}
def g_v (z:Int) :List D:= [.int .i64 z]
def e_3 (l:List Int) :List Int:=l.mergeSort fun x y=>decide (x≤y)
theorem z_y {k:Nat→Prop}{β:Bk}{W:World}(hS:SRel P k β W σ){id i0:Nat}{t:TypeId}{rows:List (List D)}{ys:List Int}{bi:BI}(ht:P.cellsOf t=1)(hl:σ id= .live t rows)(hb:β id=some bi)
   (hfit:i0+ys.length≤rows.length) (n:Nat) (os:Array Obj) :
   SRel P k β (grow (putRow (Value.int .i64) (Sort.ahead W n) bi.blk (i0 * bi.es) ys.toArray) os) (σ.set id (.live t (rows.take i0 ++ ys.map g_v ++ rows.drop (i0+ys.length))))∧
   Ghost k β σ W k β (σ.set id (.live t (rows.take i0 ++ ys.map g_v ++ rows.drop (i0+ys.length))))∧
   Frm β σ W (grow (putRow (Value.int .i64) (Sort.ahead W n) bi.blk (i0 * bi.es) ys.toArray) os):=by
 obtain ⟨arr,g1,g2,g3,g4,g5,g6,g7⟩:=hS.obj id bi t rows hb hl
 have hes:bi.es=1:=by rw[←g3,ht]
 have hsz2:i0+ys.length≤arr.size:=by rw[hes] at g4;omega
 have hov:=hS.over hb hl g1 (ns:=ys.map g_v) (vx:=ys.map (Value.int .i64)) i0 (by omega) (by omega) (by simp[hes])
   (by
     have e:∀l:List Int,((l.map g_v).flatten) =l.map (D.int .i64):=by
       intro l;induction l with
       | nil=>rfl
       | cons x r ih=>simp only[List.map_cons,List.flatten_cons,ih];rfl
     rw[e]
     refine ⟨by simp,fun i v d hv hd=>?_⟩
     rw[List.getElem?_map] at hv hd
     cases hx:ys[i]? with
     | none=>rw[hx] at hv;cases hv
     | some x=>rw[hx] at hv hd;cases hv;cases hd;exact .int _ _)
   (by
     intro i r hr
     rw[List.getElem?_map] at hr
     cases hx:ys[i]? with
     | none=>rw[hx] at hr;cases hr
     | some x=>rw[hx] at hr;cases hr;rw[hes];rfl)
   (by simp only[hes,List.length_map];omega)
 have hrl:(ys.map g_v).length=ys.length:=by rw[List.length_map]
 rw[hrl] at hov
 have hG : Grow (W.setRow bi.blk (arr.toList.take (i0 * bi.es) ++ ys.map (Value.int .i64) ++ arr.toList.drop (i0 * bi.es + (ys.map (Value.int .i64)).length)).toArray)
     (grow (putRow (Value.int .i64) (Sort.ahead W n) bi.blk (i0 * bi.es) ys.toArray) os):=by
   refine ⟨rfl,rfl,rfl,by rw[setRow_size];simp,fun b hb=>?_⟩
   rw[setRow_size] at hb
   rw[heap_grow_old _ _ (by simpa using hb)]
   by_cases he:b=bi.blk
   · subst he
     rw[setRow_heap _ _ _ _ _ _ g1]
     simp only[putRow,mapBlock,heap_ahead,Array.getElem?_modify,if_true,g1,Option.map_some,onCells]
     congr 2
     apply Array.ext_getElem?
     intro m
     simp only[putCells,Array.getElem?_mapIdx,List.getElem?_toArray,hes,Nat.mul_one,List.length_map,List.size_toArray]
     by_cases c1:m < i0
     · rw[List.getElem?_append_left (by simp;omega),List.getElem?_append_left (by simp;omega),List.getElem?_take,if_pos c1,Array.getElem?_toList,Array.getElem?_eq_getElem (by omega),Option.map_some,if_neg (by omega)]
     · by_cases c2:m < i0+ys.length
       · rw[List.getElem?_append_left (by simp;omega),List.getElem?_append_right (by simp;omega),Array.getElem?_eq_getElem (by omega),Option.map_some,if_pos ⟨by omega,by omega⟩]
         have hl1:(arr.toList.take i0).length=i0:=by simp;omega
         have hk:m - i0 < ys.length:=by omega
         rw[hl1,List.getElem?_map,List.getElem?_eq_getElem hk]
         simp[hk]
       · rw[List.getElem?_append_right (by simp;omega),List.getElem?_drop,Array.getElem?_toList]
         have hl1:i0+ys.length+ (m - (arr.toList.take i0 ++ ys.map (Value.int .i64)).length) =m:=by simp;omega
         rw[hl1]
         cases arr[m]? with
         | none=>rfl
         | some y=>rw[Option.map_some,if_neg (by omega)]
   · rw[a_z _ _ _ _ he]
     simp only[putRow,mapBlock,heap_ahead,Array.getElem?_modify]
     rw[if_neg (fun e=>he e.symm)]
 have hne:σ id≠ .dead:=by rw[hl];intro e;cases e
 refine ⟨hov.grow hG,⟨fun _ h=>h,fun _ h=> .inl h,fun _ _ h=>h,fun _ _ h=> .inl h,fun i hi=>?_⟩,?_⟩
 · rw[Store.set_ne _ _ (by intro e;subst e;exact hne hi)];exact hi
 · refine ⟨hG.os,hG.tape,hG.output,by have:=hG.size;rwa [setRow_size] at this,fun b hb' hn=>?_⟩
   rw[hG.block b (by rw[setRow_size];exact hb'),a_z _ _ _ _ (fun e=>hn id bi hb hne e.symm)]
theorem a_ab {k:Nat→Prop}{β:Bk}{W:World}(hS:SRel P k β W σ){id i0:Nat}{t:TypeId}{rows:List (List D)}{zs:List Int}{bi:BI}(ht:P.cellsOf t=1)(hl:σ id= .live t rows)(hb:β id=some bi)
   (hrows:(rows.drop i0).take zs.length=zs.map g_v) :Holds (Value.int .i64) W bi.blk (i0 * bi.es) zs.toArray:=by
 obtain ⟨arr,g1,g2,g3,g4,g5,g6,g7⟩:=hS.obj id bi t rows hb hl
 have hes:bi.es=1:=by rw[←g3,ht]
 have hget:∀j,j < zs.length→arr[i0+j]? =some (Value.int .i64 (zs.getD j 0)):=by
   intro j hj
   have h1:((rows.drop i0).take zs.length)[j]? =some (g_v (zs.getD j 0)):=by rw[hrows];simp[hj]
   rw[List.getElem?_take_of_lt hj,List.getElem?_drop] at h1
   obtain ⟨u,hu,hVu⟩:=g7 _ _ 0 (.int .i64 (zs.getD j 0)) h1 rfl
   rw[hes,Nat.mul_one,Nat.add_zero] at hu
   rw[hu];cases hVu;rfl
 intro j hj
 have hj:j < zs.length:=by simpa using hj
 refine ⟨?_,by simp[World.frozen?,g1]⟩
 have:=hget j hj
 simp only[World.cell?,g1,hes,Nat.mul_one,Option.isSome_none,Bool.false_eq_true,if_false]
 rw[this]
 simp[hj]
theorem o_n {k:Nat→Prop}{β:Bk}{W:World}{x:A}{vs:Array Value}(hvs:vs.size=[x].length)(hargs:∀(i:Nat) v y,vs[i]? =some v→[x][i]? =some y→VA k β W v y) :∃v,vs= #[v]∧VA k β W v x:=by
 have hvs:vs.size=1:=hvs
 obtain ⟨l⟩:=vs
 match l,hvs with
 | [v],_=>exact ⟨v,rfl,hargs 0 v x rfl rfl⟩
theorem a_e0 (Ly:Lays.n189 P ρ){id i0:Nat}{t:TypeId}{rows:List (List D)}{zs:List Int}(ht:P.cellsOf t=1)(hl:σ id= .live t rows)
   (hfit:i0+zs.length≤rows.length) (hrows:(rows.drop i0).take zs.length=zs.map g_v) (h0:0 < zs.length) (hsz:zs.length < 4611686018427387904) :
   DCalls P (ρ.f 189) [.one (.osl id i0 zs.length)] σ fun r σ'=>r= .tup []∧σ'=σ.set id (.live t (rows.take i0 ++ (e_3 zs).map g_v ++ rows.drop (i0+zs.length))):=by
 refine ⟨by unfold g_p;rw[Ly.f189];rfl,fun k β W vs hS hvs hargs=>?_⟩
 obtain ⟨v,rfl,hV⟩:=o_n hvs hargs
 have hV:V k β W v (.osl id i0 zs.length):=hV
 cases hV with
 | osl _ _ _ cap a bi hb ha hc hs hcm=>
   have ha:=ha (by omega)
   subst ha
   refine (calls_of_every_depth fun D=>Go.Proofs.AnyS.slices_Sort_int_in Ly D bi.blk (i0 * bi.es) cap zs W (a_ab hS ht hl hb hrows) (hS.blt id bi hb) hsz).mono ?_
   rintro e W' ⟨rfl,n,os,rfl⟩
   have hlen:(e_3 zs).length=zs.length:=by simp[e_3]
   obtain ⟨h1,h2,h3⟩:=z_y hS (i0:=i0) (ys:=e_3 zs) ht hl hb (by omega) n os
   rw[hlen] at h1 h2
   exact ⟨.tuple #[], .tup [],_,k,β,rfl,⟨rfl,rfl⟩,⟨#[],rfl,rfl,fun i u x hu=>by simp at hu⟩,h1,h2,h3⟩
theorem w_o (Ly:Lays2.n20 P ρ){id i0:Nat}{t:TypeId}{rows:List (List D)}{zs:List Int}(ht:P.cellsOf t=1)(hl:σ id= .live t rows)
   (hfit:i0+zs.length≤rows.length) (hrows:(rows.drop i0).take zs.length=zs.map g_v) (h0:0 < zs.length) (hsz:zs.length < 4611686018427387904) :
   DCalls P (ρ.f 20) [.one (.osl id i0 zs.length)] σ fun r σ'=>r= .a (.one (.osl id i0 (Lib.compact zs).length))∧
     σ'=σ.set id (.live t (rows.take i0 ++ (Lib.compact zs ++ List.replicate (zs.length - (Lib.compact zs).length) 0).map g_v ++ rows.drop (i0+zs.length))):=by
 refine ⟨by unfold g_p;rw[Ly.f20];rfl,fun k β W vs hS hvs hargs=>?_⟩
 obtain ⟨v,rfl,hV⟩:=o_n hvs hargs
 have hV:V k β W v (.osl id i0 zs.length):=hV
 cases hV with
 | osl _ _ _ cap a bi hb ha hc hs hcm=>
   have ha:=ha (by omega)
   subst ha
   refine (Go.Proofs.Any.slices_Compact_int Ly bi.blk (i0 * bi.es) cap zs W (a_ab hS ht hl hb hrows) (by omega) hc).mono ?_
   rintro e W' ⟨rfl,n,rfl⟩
   have hle:(Lib.compact zs).length≤zs.length:=by
     unfold Lib.compact Lib.compactUpTo
     rw[List.length_map]
     exact Nat.le_trans (List.length_filter_le _ _) (by simp)
   have hlen:(Lib.compact zs ++ List.replicate (zs.length - (Lib.compact zs).length) 0).length=zs.length:=by simp;omega
   obtain ⟨h1,h2,h3⟩:=z_y hS (i0:=i0) (ys:=Lib.compact zs ++ List.replicate (zs.length - (Lib.compact zs).length) 0) ht hl hb (by omega) n #[]
   rw[hlen] at h1 h2
   rw[grow_empty] at h1 h3
   exact ⟨_, .a (.one (.osl id i0 (Lib.compact zs).length)),_,k,β,rfl,⟨rfl,rfl⟩, .osl id i0 _ cap _ bi hb (fun _=>rfl) (by omega) hs hcm,h1,h2,h3⟩
theorem a_fw (l:List Int) :(e_3 l).Perm l:=List.mergeSort_perm _ _
theorem n_l (l:List Int) :(e_3 l).Pairwise (·≤·):=by
 have:=List.pairwise_mergeSort (le:=fun x y:Int=>decide (x≤y)) (by intro a b c;simp;omega) (by intro a b;simp;omega) l
 exact this.imp fun h=>by simpa using h
theorem a_ft {zs:List Int}{z:Int} :z ∈ Lib.compact zs↔z ∈ zs:=by
 unfold Lib.compact Lib.compactUpTo
 rw[List.mem_map]
 constructor
 · rintro ⟨j,hj,rfl⟩
   have hj:=List.mem_range.1 (List.mem_filter.1 hj).1
   simp[hj]
 · intro hz
   obtain ⟨j,hj,e⟩:=List.getElem_of_mem hz
   have key:∀j,(hj:j < zs.length)→zs[j]=z→∃a,a ∈ List.filter (Lib.keeps zs.toArray) (List.range zs.length)∧zs.toArray[a]! =z:=by
     intro j
     induction j with
     | zero=>exact fun hj e=>⟨0,List.mem_filter.2 ⟨List.mem_range.2 hj,by simp[Lib.keeps]⟩,by simp[hj,e]⟩
     | succ j ih=>
       intro hj e
       by_cases h:zs[j]'(by omega) =z
       · exact ih (by omega) h
       · refine ⟨j+1,List.mem_filter.2 ⟨List.mem_range.2 hj,Lib.keeps_pos ?_⟩,by simp[hj,e]⟩
         simp only[Nat.add_sub_cancel]
         have:j < zs.length:=by omega
         simp only[List.getElem!_toArray,hj,this,getElem!_pos,e]
         exact fun h'=>h h'.symm
   exact key j hj e
theorem w_0 {zs:List Int}(h:zs.Pairwise (·≤·)) :(Lib.compact zs).Pairwise (· < ·):=by
 unfold Lib.compact Lib.compactUpTo
 rw[List.pairwise_map]
 have hr:(List.filter (Lib.keeps zs.toArray) (List.range zs.length)).Pairwise (· < ·):=List.Pairwise.filter _ List.pairwise_lt_range
 refine hr.imp_of_mem ?_
 intro i j hi hj hij
 obtain ⟨h1,_⟩:=List.mem_filter.1 hi
 obtain ⟨h2,h3⟩:=List.mem_filter.1 hj
 have h1:=List.mem_range.1 h1
 have h2:=List.mem_range.1 h2
 have hm:j - 1 < zs.length:=by omega
 have hne:zs[j]'h2≠zs[j - 1]'hm:=by
   intro e
   have:Lib.keeps zs.toArray j=false:=Lib.keeps_neg (by omega) (by simp only[List.getElem!_toArray,h2,hm,getElem!_pos,e])
   rw[h3] at this;cases this
 have hle1:zs[j - 1]'hm≤zs[j]'h2:=List.pairwise_iff_getElem.1 h _ _ _ _ (by omega)
 have hle2:zs[i]'h1≤zs[j - 1]'hm:=by
   by_cases e:i=j - 1
   · subst e;exact Int.le_refl _
   · exact List.pairwise_iff_getElem.1 h _ _ _ _ (by omega)
 simp only[List.getElem!_toArray,h1,h2,getElem!_pos]
 omega
end
section
variable {P:Program} {ρ:Ren} {σ:Store}
theorem Grow.of_below {W W':World}(h:Go.RowKit.Below W.heap.size W W') :Grow W W':=⟨h.os,h.tape,h.output,h.size,h.block⟩
theorem Grow.of_grow (W:World)(k:Nat)(os:Array Obj) :Grow W (Sort.grow (W.drewN k) os):=
 ⟨rfl,rfl,rfl,by simp[Sort.grow,World.drewN],fun b hb=>by simp[Sort.grow,World.drewN,Array.getElem?_append,hb]⟩
theorem z_j {f:FuncId}{xs:List A}{r:RV}(hok:g_p P f=true)
   (h:∀k β W (vs:Array Value),SRel P k β W σ→vs.size=xs.length→(∀(i:Nat) v x,vs[i]? =some v→xs[i]? =some x→VA k β W v x)→
     Calls P f vs W fun e W'=>∃v,e= .returned v∧(∀k β,VR k β W' v r)∧Grow W W') :Pure P f xs σ r:=by
 refine ⟨hok,fun k β W vs hS hsz hv=>(h k β W vs hS hsz hv).mono ?_⟩
 rintro e W' ⟨v,rfl,hr,hg⟩
 exact ⟨v,r,σ,k,β,rfl,⟨rfl,rfl⟩,hr k β,hS.grow hg,Ghost.refl _ _ _ _,hg.frm β σ⟩
theorem a_m0 {k:Nat→Prop}{β:Bk}{W:World}{n:Int}{vs:Array Value}(hsz:vs.size=[iA n].length)(hv:∀(i:Nat) v x,vs[i]? =some v→[iA n][i]? =some x→VA k β W v x) :vs= #[.int .i64 n]:=by
 obtain ⟨v,rfl,h⟩:=o_n hsz hv
 rw[V.inv_int h]
theorem a_m2 {k:Nat→Prop}{β:Bk}{W:World}{s:ByteArray}{vs:Array Value}(hsz:vs.size=[A.one (.str s)].length)(hv:∀(i:Nat) v x,vs[i]? =some v→[A.one (.str s)][i]? =some x→VA k β W v x) :vs= #[.string s]:=by
 obtain ⟨v,rfl,h⟩:=o_n hsz hv
 rw[V.inv_str h]
theorem SRel.tab {k : Nat → Prop} {β : Bk} {W : World} (h : SRel P k β W σ) {g : Nat} (hg : P.globalNamed "internal/strconv.uint64pow10" = some g) : Lib.TabIs P W "internal/strconv.uint64pow10" .u64 Lib.pow10Tab := by
 obtain ⟨_,arr,t,fz,h1,h2⟩:=h.gl _ (List.mem_cons_self ..) g hg
 have h2:arr=(Lib.pow10Tab.map fun z=>Value.int .u64 z).toArray:=h2
 unfold Lib.TabIs World.var?
 rw[hg]
 show (match W.heap[g]? with | some (.cells cs _ _)=>some cs | _=>none) =_
 rw[h1,h2]
theorem SRel.errv {k : Nat → Prop} {β : Bk} {W : World} (h : SRel P k β W σ) {nm : String} (hn : nm = "strconv.ErrSyntax" ∨ nm = "strconv.ErrRange") {g : Nat} (hg : P.globalNamed nm = some g) : ∃ t p, W.cell? ⟨g, 0, none⟩ = some (.iface t p) := by
 have hm:(nm,fun arr:Array Value=>∃t p,arr= #[.iface t p]) ∈ a_cr:=by
   unfold a_cr
   rcases hn with rfl | rfl <;> simp
 obtain ⟨_,arr,t,fz,h1,t',p,h2⟩:=h.gl _ hm g hg
 have h2:arr= #[.iface t' p]:=h2
 exact ⟨t',p,by simp[World.cell?,h1,h2]⟩
def a_q (l:List UInt8) :ByteArray:=⟨l.toArray⟩
def sA (s:ByteArray) :A:= .one (.str s)
theorem a_jf (L : LaysM.n171 P ρ) {g : Nat} (hg : P.globalNamed "internal/strconv.uint64pow10" = some g) {n : Int} (h0 : -9223372036854775808 ≤ n) (h1 : n ≤ 9223372036854775807) :
   Pure P (ρ.f 171) [iA n] σ (.a (sA (a_q (Lib.itoa n)))):=by
 refine z_j (by unfold g_p;rw[L.f171];rfl) fun k β W vs hS hsz hv=>?_
 rw[a_m0 hsz hv]
 refine (Any.strconv_Itoa L n h0 h1 W (hS.tab hg)).mono ?_
 rintro e W' ⟨rfl,j,os,rfl⟩
 exact ⟨_,rfl,fun k β=>V.str _,Grow.of_grow _ _ _⟩
def f_d (l:List UInt8) :Int × Bool:=
 match Lib.atoiAll l with
 | .ok v=>(v,false)
 | .range=>(Lib.atoiSat l,true)
 | _=>(0,true)
theorem a_i6 (L : LaysC.n172 P ρ) (h15 : P.globalNamed "strconv.ErrSyntax" = some (ρ.g 15)) (h16 : P.globalNamed "strconv.ErrRange" = some (ρ.g 16)) {s : ByteArray} (hs : s.size ≤ 281474976710656) :
   Pure P (ρ.f 172) [sA s] σ (.tup [iA (f_d s.data.toList).1, .one (.ifc (f_d s.data.toList).2)]):=by
 refine z_j (by unfold g_p;rw[L.f172];rfl) fun k β W vs hS hsz hv=>?_
 rw[a_m2 hsz hv]
 have two:∀(W':World) (v1 v2:Value) (x1 x2:D),(∀k β,V k β W' v1 x1)→(∀k β,V k β W' v2 x2)→∀k β,VR k β W' (.tuple #[v1,v2]) (.tup [.one x1, .one x2]):=by
   intro W' v1 v2 x1 x2 h1 h2 k β
   refine ⟨#[v1,v2],rfl,rfl,fun i u x hu hx=>?_⟩
   match i,hu,hx with
   | 0,hu,hx=>cases hu;cases hx;exact h1 k β
   | 1,hu,hx=>cases hu;cases hx;exact h2 k β
   | i+2,hu,hx=>simp at hx
 obtain ⟨t1,p1,hc1⟩:=hS.errv (.inl rfl) h15
 obtain ⟨t2,p2,hc2⟩:=hS.errv (.inr rfl) h16
 unfold f_d
 cases h:Lib.atoiAll s.data.toList with
 | ok v=>
   refine (Any.strconv_Atoi_ok L s (by omega) v h W).mono ?_
   rintro e W' ⟨rfl,hw⟩
   refine ⟨_,rfl,two _ _ _ _ _ (fun k β=> .int _ _) (fun k β=> .nili),?_⟩
   rcases hw with rfl | ⟨t,rfl⟩
   · exact Grow.refl _
   · exact Grow.of_below (Lib.bytesWorld_below _ _ _)
 | range=>
   refine (Any.strconv_Atoi_range L s hs h _ W hc2 (.inr ⟨_,_,rfl⟩)).mono ?_
   rintro e W' ⟨N,rfl,_,_,hb⟩
   exact ⟨_,rfl,two _ _ _ _ _ (fun k β=> .int _ _) (fun k β=> .ifv _ _),Grow.of_below hb⟩
 | _=>
   refine (Any.strconv_Atoi_syntax L s hs h _ W hc1 (.inr ⟨_,_,rfl⟩)).mono ?_
   rintro e W' ⟨N,rfl,_,_,hb⟩
   exact ⟨_,rfl,two _ _ _ _ _ (fun k β=> .int _ _) (fun k β=> .ifv _ _),Grow.of_below hb⟩
def pieces (c:UInt8)(s:ByteArray) :List ByteArray:=Lib.splitB ⟨#[c]⟩ 0 (Lib.countB s ⟨#[c]⟩) s
def g_j (s:ByteArray) :List D:= [.str s]
theorem v_f (L:Lays.n221 P ρ)(hi9:(P.info? (ρ.t 9)).map (fun i=>(i.zero,i.size,i.bytes)) =some (some (.string ByteArray.empty),1,16)){s:ByteArray}{c:UInt8}(hs:s.size < 4294967281) :
   DCalls P (ρ.f 221) [sA s,sA ⟨#[c]⟩,iA 0,iA (-1)] σ fun r σ'=>∃id,σ id= .free∧r= .a (.one (.osl id 0 (pieces c s).length))∧σ'=σ.set id (.live (ρ.t 9) ((pieces c s).map g_j)):=by
 refine ⟨by unfold g_p;rw[L.f221];rfl,fun k β W vs hS hsz hv=>?_⟩
 have hvs:vs= #[.string s, .string ⟨#[c]⟩, .int .i64 0, .int .i64 (-1)]:=by
   have hsz:vs.size=4:=hsz
   obtain ⟨l⟩:=vs
   match l,hsz with
   | [a,b,d,e],_=>
     have h0:V k β W a (.str s):=hv 0 a _ rfl rfl
     have h1:V k β W b (.str ⟨#[c]⟩):=hv 1 b _ rfl rfl
     have h2:V k β W d (.int .i64 0):=hv 2 d _ rfl rfl
     have h3:V k β W e (.int .i64 (-1)):=hv 3 e _ rfl rfl
     rw[V.inv_str h0,V.inv_str h1,V.inv_int h2,V.inv_int h3]
 subst hvs
 have h1:1≤(⟨#[c]⟩ :ByteArray).size:=Nat.le_refl _
 have hle:=Lib.countB_le ⟨#[c]⟩ h1 s.size s (Nat.le_refl _)
 have hlen:(pieces c s).length=Lib.countB s ⟨#[c]⟩ +1:=Lib.splitB_all ⟨#[c]⟩ h1 0 _ s rfl
 have hc:=Any.strings_genSplit_core L hi9 s ⟨#[c]⟩ 0 (-1) (Lib.countB s ⟨#[c]⟩ +1) W hs h1 (Nat.zero_le _)
   (fun x cc _=>(Any.strings_Index_one { L with } x c _).mono fun e w' ⟨he,hw⟩=>⟨by
     rw[he,←Lib.index_one],hw⟩)
   ((Any.strings_Count_one { L with } s c W).mono fun e w' ⟨he,hw⟩=>⟨by
     rw[he]
     show _=Ending.returned (Value.int .i64 ((Lib.count s.data.toList [c]:Nat) :Int))
     rw[Lib.count_one]
     rfl,hw⟩) (by decide) (by decide) (by rw[if_pos (by decide)];omega)
 rw[Nat.add_sub_cancel] at hc
 refine hc.mono ?_
 rintro e W' ⟨rfl,rfl⟩
 obtain ⟨id,hid⟩:=hS.someFree
 have ht9:P.cellsOf (ρ.t 9) =1:=by
   cases hi:P.info? (ρ.t 9) with
   | none=>rw[hi] at hi9;cases hi9
   | some i=>
     rw[hi] at hi9
     simp only[Option.map_some,Option.some.injEq,Prod.mk.injEq] at hi9
     simp[Program.cellsOf,hi,hi9.2.1]
 have e2:Lib.cellsOf (pieces c s) (Lib.countB s ⟨#[c]⟩ +1) =((pieces c s).map Value.string).toArray:=by rw[←hlen];exact Lib.cellsOf_full _
 have e3:Lib.splitB ⟨#[c]⟩ 0 (Lib.countB s ⟨#[c]⟩) s=pieces c s:=rfl
 rw[e3,e2,hlen]
 have hasz:((pieces c s).map Value.string).toArray.size=Lib.countB s ⟨#[c]⟩ +1:=by simp[hlen]
 obtain ⟨hS2,hG⟩:=hS.newRows hid (arr:=((pieces c s).map Value.string).toArray) (t:=ρ.t 9) (rows:=(pieces c s).map g_j)
   (fun r row hr=>by
     rw[List.getElem?_map] at hr
     cases hx:(pieces c s)[r]? with
     | none=>rw[hx] at hr;cases hr
     | some x=>rw[hx] at hr;cases hr;rw[ht9];rfl)
   (by rw[ht9];simp) (fun v hv=>by
     obtain ⟨x,_,rfl⟩:=List.mem_map.1 (List.mem_toArray.1 hv)
     rfl)
   (fun r row j d hr hj=>by
     rw[List.getElem?_map] at hr
     cases hx:(pieces c s)[r]? with
     | none=>rw[hx] at hr;cases hr
     | some x=>
       rw[hx] at hr;cases hr
       match j,hj with
       | 0,hj=>
         cases hj
         refine ⟨.string x,?_, .str x⟩
         rw[ht9]
         simp[hx])
 refine ⟨_,_,_,_,_,rfl,⟨id,hid,rfl,rfl⟩,V.osl id 0 _ _ _ ⟨W.heap.size,P.cellsOf (ρ.t 9),((pieces c s).map Value.string).toArray.size⟩ (by simp) (fun _=>by simp) (Nat.le_refl _) (by rw[ht9];simp[hlen]) (by omega),hS2,hG,?_⟩
 exact (Grow.push W _).frm β σ
end
end Go.Fw
namespace Go.Proofs.YtfdffboelecgoaaGreatDoor
open Go.Fw
open Go.Proofs.Tryz (prog)
section
theorem mixed:prog.follows .mixedOrders=true:=Go.Proofs.Tryz.checked.mixed
abbrev j_r:FuncId:=8
abbrev j_8:FuncId:=10
abbrev h_3:FuncId:=11
abbrev m_b:FuncId:=12
abbrev n_o:FuncId:=14
abbrev j_o:FuncId:=15
abbrev l_n:FuncId:=16
abbrev d_t:FuncId:=19
abbrev b_9:FuncId:=20
abbrev f_j:FuncId:=21
abbrev g_t:FuncId:=22
abbrev f_g:FuncId:=23
abbrev g_0:FuncId:=24
abbrev f_a:FuncId:=25
abbrev g_c:FuncId:=26
abbrev l_w:FuncId:=27
abbrev j_7:FuncId:=28
abbrev j_d:FuncId:=29
abbrev h_r:FuncId:=30
abbrev f_2:FuncId:=31
abbrev e_v:FuncId:=32
abbrev q_7:FuncId:=33
abbrev k_e:FuncId:=35
abbrev b_i:FuncId:=36
abbrev l_m:FuncId:=37
abbrev e_4:FuncId:=38
abbrev e_d:FuncId:=39
abbrev f_8:FuncId:=40
abbrev b_o:FuncId:=41
abbrev b_a:FuncId:=47
abbrev e_o:FuncId:=48
abbrev d_l:FuncId:=49
abbrev e_2:FuncId:=50
abbrev f_o:FuncId:=51
abbrev h_w:FuncId:=52
abbrev g_b:FuncId:=53
abbrev f_q:FuncId:=57
abbrev e_e:FuncId:=58
abbrev d_h:FuncId:=59
abbrev c_q:FuncId:=60
abbrev d_a:FuncId:=61
abbrev f_7:FuncId:=62
abbrev e_b:FuncId:=63
abbrev c_3:FuncId:=64
abbrev b_3:FuncId:=65
abbrev d_j:FuncId:=66
abbrev i_d:FuncId:=67
abbrev l_p:FuncId:=68
abbrev i_b:FuncId:=69
abbrev d_p:FuncId:=70
abbrev j_y:FuncId:=71
abbrev g_2:FuncId:=72
abbrev c_5:FuncId:=73
abbrev h_h:FuncId:=74
abbrev g_d:FuncId:=76
abbrev b_r:FuncId:=77
abbrev g_r:FuncId:=78
abbrev e_5:FuncId:=79
abbrev f_m:FuncId:=80
abbrev a_6:FuncId:=84
abbrev c_y:FuncId:=85
abbrev b_8:FuncId:=86
abbrev i_q:FuncId:=87
abbrev i_w:FuncId:=88
abbrev a_3:FuncId:=89
abbrev a_a:FuncId:=90
abbrev c_1:FuncId:=91
abbrev n_5:FuncId:=92
abbrev b_l:FuncId:=95
abbrev h_x:FuncId:=96
abbrev c_k:FuncId:=97
abbrev d_4:FuncId:=98
abbrev d_6:FuncId:=99
abbrev l_o:FuncId:=100
abbrev c_a:FuncId:=101
abbrev e_1:FuncId:=102
abbrev l_5:FuncId:=103
abbrev d_k:FuncId:=105
abbrev b_u:FuncId:=106
abbrev b_5:FuncId:=107
abbrev c_b:FuncId:=108
abbrev d_i:FuncId:=109
abbrev d_c:FuncId:=114
abbrev e_m:FuncId:=115
abbrev e_j:FuncId:=116
abbrev e_n:FuncId:=117
abbrev b_6:FuncId:=120
abbrev h_q:FuncId:=121
abbrev f_0:FuncId:=122
abbrev g_o:FuncId:=123
abbrev g_a:FuncId:=124
abbrev e_a:FuncId:=125
abbrev n_s:FuncId:=126
abbrev f_r:FuncId:=127
abbrev h_c:FuncId:=128
abbrev j_s:FuncId:=130
abbrev c_4:FuncId:=131
abbrev r_6:FuncId:=132
abbrev d_w:FuncId:=133
abbrev e_c:FuncId:=135
abbrev d_s:FuncId:=152
abbrev t_int:TypeId:=3
abbrev t_bool:TypeId:=4
abbrev a_s:TypeId:=5
abbrev c_g:TypeId:=9
abbrev a_c0:TypeId:=25
abbrev t_Config:TypeId:=30
abbrev l_r:TypeId:=33
abbrev a_w:TypeId:=44
abbrev a_r:TypeId:=47
abbrev b_v:TypeId:=50
abbrev a_i:TypeId:=55
abbrev a_2:TypeId:=57
abbrev b_b:TypeId:=65
abbrev b_z:TypeId:=85
abbrev e_r:TypeId:=94
abbrev s_e:TypeId:=98
abbrev b_m:TypeId:=121
abbrev b_w:TypeId:=127
abbrev w_b:TypeId:=136
abbrev f_v:TypeId:=157
abbrev a_kg:TypeId:=177
abbrev l_0:TypeId:=218
theorem c_int:prog.cellsOf t_int=1:=by kernel_rfl
theorem c_uint8:prog.cellsOf a_s=1:=by kernel_rfl
theorem w_t:prog.cellsOf c_g=1:=by kernel_rfl
theorem m_y:prog.cellsOf t_Config=9:=by kernel_rfl
theorem b_h:prog.cellsOf a_w=6:=by kernel_rfl
theorem e_i:prog.cellsOf a_r=2:=by kernel_rfl
theorem d_3:prog.cellsOf b_v=4:=by kernel_rfl
theorem c_s:prog.cellsOf a_i=3:=by kernel_rfl
theorem b_2:prog.cellsOf a_2=3:=by kernel_rfl
theorem c_h:prog.cellsOf b_b=2:=by kernel_rfl
theorem i_6:prog.cellsOf b_m=3:=by kernel_rfl
theorem a_dn:prog.cellsOf b_w=2:=by kernel_rfl
theorem j_m:prog.cellsOf f_v=3:=by kernel_rfl
end
end Go.Proofs.YtfdffboelecgoaaGreatDoor
namespace Go.Proofs.YtfdffboelecgoaaGreatDoor
open Go.Fw Go.Proofs Go.RowKit
open Go.Proofs.Tryz (prog)
section
theorem a_c8 {P:Program}{W:World}{n:String}{g:Nat}{cs:Array Value}(hg:P.globalNamed n=some g)(h:W.var? P n=some cs) :∃t fz,W.heap[g]? =some (.cells cs t fz):=by
 unfold World.var? at h
 rw[hg] at h
 simp only[Option.bind_some,Option.bind_eq_bind] at h
 split at h
 · rename_i c t fz hh
   injection h with h
   subst h
   exact ⟨t,fz,hh⟩
 · cases h
theorem a_kc {P:Program}{w:World}{fuel:Nat}{t:TypeId}{cs:List Value}{nm:String}{d:DataW Unit}{p:List MemPlace}(h:DataW.trod (fun _=>()) P w 0 (fun _=>true) false fuel t cs=some (.iface nm d,p))(ht:∃x,P.underlying t=some (.interface x)) :∃u v,cs=[.iface u v]:=by
 obtain ⟨x,ht⟩:=ht
 cases fuel with
 | zero=>simp[DataW.trod] at h
 | succ fuel=>
   match cs with
   | [.iface u v]=>exact ⟨u,v,rfl⟩
   | [.nilIface]=>simp[DataW.trod,ht] at h
   | []=>simp[DataW.trod,ht] at h
   | _::_::_=>simp[DataW.trod,ht] at h
   | [.int _ _]=>simp[DataW.trod,ht] at h
   | [.bool _]=>simp[DataW.trod,ht] at h
   | [.string _]=>simp[DataW.trod,ht] at h
   | [v]=>cases v <;> first | exact ⟨_,_,rfl⟩ | simp[DataW.trod,ht] at h
def a_if:Option TypeDesc→Bool
 | some (.interface _)=>true
 | _=>false
theorem a_l9 {o:Option TypeDesc}(h:a_if o=true) :∃x,o=some (.interface x):=by
 unfold a_if at h
 split at h
 · exact ⟨_,rfl⟩
 · cases h
theorem errT:∃x,prog.underlying w_b=some (.interface x):=a_l9 (by kernel_rfl)
theorem gl_laid {W:World}(h:laidMet prog Rows.confChecksRow.laid W) :Gl prog (j_e W) W:=by
 have lt:∀{g:Nat} {o:Obj},W.heap[g]? =some o→j_e W g:=fun {g o} hg=>(Array.getElem?_eq_some_iff.1 hg).1
 have err : ∀ (n : String) (d : DataW Unit), Lib.VarReads prog W n d → (∃ nm d', d = .iface nm d') → (prog.globalNamed n).bind (fun g => (prog.globals[g]?).map (·.type)) = some w_b →
     ∀g,prog.globalNamed n=some g→j_e W g∧∃arr t fz,W.heap[g]? =some (.cells arr t fz)∧∃t p,arr= #[.iface t p]:=by
   rintro n _ ⟨g',t,cs,fuel,p,h1,h2,h3,h4⟩ ⟨nm,d',rfl⟩ hty g hg
   obtain rfl:g'=g:=by rw[hg] at h1;injection h1 with h1;exact h1.symm
   obtain ⟨t',fz,hh⟩:=a_c8 h1 h3
   rw[h1] at hty
   have hty:(prog.globals[g']?).map (·.type) =some w_b:=hty
   rw[h2] at hty
   obtain rfl:t=w_b:=by injection hty
   obtain ⟨u,v,hcs⟩:=a_kc h4 errT
   refine ⟨lt hh,cs,t',fz,hh,u,v,?_⟩
   have:=congrArg List.toArray hcs
   simpa using this
 intro x hx g hg
 simp only[a_cr,List.mem_cons,List.not_mem_nil,or_false] at hx
 rcases hx with rfl | rfl | rfl
 · obtain ⟨g', t, cs, fuel, p, h1, h2, h3, h4⟩ := Lib.laidMet.reads h (n := "internal/strconv.uint64pow10") (d := Rows.laid_internal_strconv_uint64pow10) (.tail _ (.tail _ (.head _)))
   obtain rfl:g'=g:=by rw[hg] at h1;injection h1 with h1;exact h1.symm
   obtain ⟨t',fz,hh⟩:=a_c8 h1 h3
   refine ⟨lt hh,cs,t',fz,hh,?_⟩
   have e1 : (prog.globalNamed "internal/strconv.uint64pow10").bind (fun g => (prog.globals[g]?).map (·.type)) = some l_0 := by kernel_rfl
   rw[h1] at e1
   have e1:(prog.globals[g']?).map (·.type) =some l_0:=e1
   rw[h2] at e1
   obtain rfl:t=l_0:=by injection e1
   have:=Lib.cells_of_tab (e:=a_kg) (n:=20) (k:= .u64) (zs:=Lib.pow10Tab) (by kernel_rfl) (by kernel_rfl) (by kernel_rfl) (by kernel_rfl) h4
   have:=congrArg List.toArray this
   simpa using this
 · exact err _ _ (Lib.laidMet.reads h (d:=Rows.laid_strconv_ErrSyntax) (.tail _ (.tail _ (.tail _ (.tail _ (.tail _ (.head _))))))) ⟨_,_,rfl⟩ (by kernel_rfl) g hg
 · exact err _ _ (Lib.laidMet.reads h (d:=Rows.laid_strconv_ErrRange) (.tail _ (.tail _ (.tail _ (.tail _ (.head _)))))) ⟨_,_,rfl⟩ (by kernel_rfl) g hg
end
end Go.Proofs.YtfdffboelecgoaaGreatDoor
namespace Go.Fw
section
structure Sec where
 Kind:Int
 OC:Int
 Line:Int
structure Jt where
 A:Int
 AEnd:Int
 B:Int
 BEnd:Int
structure Sg where
 Sec:Int
 End_:Int
 deriving DecidableEq
structure St where
 Sec:Int
 In:Int
 Out:Int
structure Nd where
 Sec:Int
 Pos:Int
 deriving DecidableEq
def Sec.enc (s:Sec) :List D:= [iD s.Kind,iD s.OC,iD s.Line]
def Jt.enc (s:Jt) :List D:= [iD s.A,iD s.AEnd,iD s.B,iD s.BEnd]
def Sg.enc (s:Sg) :List D:= [iD s.Sec,iD s.End_]
def St.enc (s:St) :List D:= [iD s.Sec,iD s.In,iD s.Out]
def Nd.enc (s:Nd) :List D:= [iD s.Sec,iD s.Pos]
def encI (n:Int) :List D:= [iD n]
def h_1 (k:Int) :List (Int × Int × Int):=
 if k=0 then [(0,1,0)] else if k=1 then [(0,1,1),(0,2,2)] else if k=2 then [(0,1,0),(2,3,0)] else []
def encW (w:Int × Int × Int) :List D:= [iD w.1,iD w.2.1,iD w.2.2]
def a_x (k:Int) :Int:=if k=0 then 2 else if k=1 then 3 else if k=2 then 4 else 0
def l_7 (n:Int)(w:Int × Int × Int) :Int:=
 ite (w64 (w.2.1+1) > ite (w64 (w.1+1) > n) (w64 (w.1+1)) n) (w64 (w.2.1+1)) (ite (w64 (w.1+1) > n) (w64 (w.1+1)) n)
theorem a_h9 (k:Int) :(h_1 k).foldl l_7 0=a_x k:=by
 unfold h_1 a_x
 split
 · decide
 · split
   · decide
   · split
     · decide
     · rfl
def r_c:List (Int × Int × Int)→Int→Int→Option Int
 | [],_,_=>none
 | w::r,i,o=>if (w.1=i∧w.2.1=o)∨(w.2.1=i∧w.1=o) then some w.2.2 else r_c r i o
def nxt:List Jt→Int→Int→Option (Int × Int)
 | [],_,_=>none
 | j::r,s,e=>if j.A=s∧j.AEnd=e then some (j.B,j.BEnd) else if j.B=s∧j.BEnd=e then some (j.A,j.AEnd) else nxt r s e
def opt2:Option (Int × Int)→RV
 | none=> .tup [iA 0,iA 0,bA false]
 | some p=> .tup [iA p.1,iA p.2,bA true]
def opt1:Option Int→RV
 | none=> .tup [iA 0,bA false]
 | some p=> .tup [iA p,bA true]
def cnt:List Jt→Int→Int→Int
 | [],_,_=>0
 | j::r,s,e=>(if j.A=s∧j.AEnd=e then 1 else 0) + (if j.B=s∧j.BEnd=e then 1 else 0) +cnt r s e
def i_4:List Int→Int→Nat→Int
 | [],_,_=> -1
 | x::r,v,j=>if v=x then j else i_4 r v (j+1)
/-! ### is the plan right? -/
def n_b (secs:List Sec)(i:Int) :Int:=(secs[i.toNat]?.map Sec.Kind).getD (-1)
def i_y (secs:List Sec)(p:Int × Int) :Bool:=decide (0≤p.1∧p.1≤(secs.length:Int) - 1) && decide (0≤p.2∧p.2≤a_x (n_b secs p.1) - 1)
def q_t (secs:List Sec) :List (Int × Int)→List (Int × Int)→Option (List (Int × Int))
 | [],tk=>some tk
 | p::r,tk=>if i_y secs p=true∧p ∉ tk then q_t secs r (p::tk) else none
def Jt.spots (j:Jt) :List (Int × Int):= [(j.A,j.AEnd),(j.B,j.BEnd)]
def q_b (secs:List Sec) :List Jt→List (Int × Int)→Option (List (Int × Int))
 | [],tk=>some tk
 | j::r,tk=>match q_t secs j.spots tk with
   | none=>none
   | some tk'=>if j.A=j.B then none else q_b secs r tk'
def p_0 (tk:List (Int × Int)) :List Sec→Int→List Int→Bool
 | [],_,_=>true
 | s::r,i,ls=>if a_x s.Kind=0∨¬(0≤s.OC∧s.OC≤3)∨¬(0≤s.Line∧s.Line≤3)∨s.Line≠0∧(s.Kind≠0∨(i,1) ∈ tk∨s.Line ∈ ls) then false else p_0 tk r (i+1) (s.Line::ls)
def d_z (secs:List Sec)(js:List Jt) :Bool:=
 decide (1≤secs.length∧secs.length≤16∧js.length≤24) && match q_b secs js [] with
   | none=>false
   | some tk=>p_0 tk secs 0 []
theorem n_e (k:Int) :0≤a_x k∧a_x k≤4:=by unfold a_x;split <;> (try split) <;> (try split) <;> omega
end
end Go.Fw
section
set_option maxRecDepth 100000
namespace Go.Proofs.YtfdffboelecgoaaGreatDoor
open Go.Fw Go.Proofs
open Go.Proofs.Tryz (prog)
def y_k:Ann:= { cbs:= [1],loops:= [(3,{ mods:= [(3,SlotSh.one (Sh.any)),(22,s6)],keep:= [1,20,21] }),(8,{ mods:= [(3,SlotSh.one (Sh.any)),(42,s6)],keep:= [1,40,41] }),(13,{ mods:= [(3,SlotSh.one (Sh.any)),(64,s6)],keep:= [1,62,63] }),(18,{ mods:= [(3,SlotSh.one (Sh.any)),(82,s6)],keep:= [1,80,81] }),(23,{ mods:= [(3,SlotSh.one (Sh.any)),(97,s6)],keep:= [1,95,96] }),(30,{ mods:= [(3,SlotSh.one (Sh.any)),(116,s6)],keep:= [1,13,95,96,97,114,115] }),(36,{ mods:= [(3,SlotSh.one (Sh.any)),(136,s6)],keep:= [1,13,95,96,97,134,135] })],joins:= [(28,{ mods:= [(14,s6)],keep:= [1,3,13,95,96,97] })] }
def a_bt (c0 c1 c2 c3 c4:D)(c5 c6 c7 c8:Int)(σ:Store)(Qp:RV→Store→Prop) :Prop:=
 ∃len:Nat,(Len c0 len)∧∃I:D→Int→Store→Prop,∃μ:D→Int→Store→Nat,(I .nils 0 σ)∧∀d:D,∀n:Int,∀Z,(I d n Z)→a_c (decide (n < (len:Int))) (∃len1:Nat,(Idx prog Z c0 3 len1)∧((0:Int)≤n)∧(n < (len1:Int))∧∃row:List D,(Row Z c0 (Int.toNat n) row)∧∃n1 n2 n3:Int,((List.take 3 row) =([iD n1,iD n2,iD n3]:List D))∧Fw.newObj Z (.live t_int [[iD n1],[iD n2],[iD n3]]) (fun id Z1=>DCalls prog b_i [.one (.str (ByteArray.mk (List.toArray [115,101,99,116,105,111,110]))), .one (.osl id 0 3)] Z1 (fun r Z2=>∃s:ByteArray,(r=(.a (.one (.str s)) :RV))∧c_c prog Z2 5 1 d (b_0 s) (fun d1 Z3=>Fw.newObj Z3 (.live a_s [[.int .u8 10]]) (fun id1 Z4=>a_e prog Z4 a_s 1 d1 (.osl id1 0 1) (fun d2 Z5=>(I d2 (w64 (n+1)) Z5)∧((μ d2 (w64 (n+1)) Z5) < (μ d n Z)))))))) (∃len1:Nat,(Len c1 len1)∧∃I1:D→Int→Store→Prop,∃μ1:D→Int→Store→Nat,(I1 d 0 Z)∧∀d1:D,∀n1:Int,∀Z1,(I1 d1 n1 Z1)→a_c (decide (n1 < (len1:Int))) (∃len2:Nat,(Idx prog Z1 c1 4 len2)∧((0:Int)≤n1)∧(n1 < (len2:Int))∧∃row:List D,(Row Z1 c1 (Int.toNat n1) row)∧∃n2 n3 n4 n5:Int,((List.take 4 row) =([iD n2,iD n3,iD n4,iD n5]:List D))∧Fw.newObj Z1 (.live t_int [[iD n2],[iD n3],[iD n4],[iD n5]]) (fun id Z2=>DCalls prog b_i [.one (.str (ByteArray.mk (List.toArray [106,111,105,110,116]))), .one (.osl id 0 4)] Z2 (fun r Z3=>∃s:ByteArray,(r=(.a (.one (.str s)) :RV))∧c_c prog Z3 5 1 d1 (b_0 s) (fun d2 Z4=>Fw.newObj Z4 (.live a_s [[.int .u8 10]]) (fun id1 Z5=>a_e prog Z5 a_s 1 d2 (.osl id1 0 1) (fun d3 Z6=>(I1 d3 (w64 (n1+1)) Z6)∧((μ1 d3 (w64 (n1+1)) Z6) < (μ1 d1 n1 Z1)))))))) (∃len2:Nat,(Len c2 len2)∧∃I2:D→Int→Store→Prop,∃μ2:D→Int→Store→Nat,(I2 d1 0 Z1)∧∀d2:D,∀n2:Int,∀Z2,(I2 d2 n2 Z2)→a_c (decide (n2 < (len2:Int))) (∃len3:Nat,(Idx prog Z2 c2 2 len3)∧((0:Int)≤n2)∧(n2 < (len3:Int))∧∃row:List D,(Row Z2 c2 (Int.toNat n2) row)∧∃n3 n4:Int,((List.take 2 row) =([iD n3,iD n4]:List D))∧Fw.newObj Z2 (.live t_int [[iD n3],[iD n4]]) (fun id Z3=>DCalls prog b_i [.one (.str (ByteArray.mk (List.toArray [115,105,103,110,97,108]))), .one (.osl id 0 2)] Z3 (fun r Z4=>∃s:ByteArray,(r=(.a (.one (.str s)) :RV))∧c_c prog Z4 5 1 d2 (b_0 s) (fun d3 Z5=>Fw.newObj Z5 (.live a_s [[.int .u8 10]]) (fun id1 Z6=>a_e prog Z6 a_s 1 d3 (.osl id1 0 1) (fun d4 Z7=>(I2 d4 (w64 (n2+1)) Z7)∧((μ2 d4 (w64 (n2+1)) Z7) < (μ2 d2 n2 Z2)))))))) (∃len3:Nat,(Len c3 len3)∧∃I3:D→Int→Store→Prop,∃μ3:D→Int→Store→Nat,(I3 d2 0 Z2)∧∀d3:D,∀n3:Int,∀Z3,(I3 d3 n3 Z3)→a_c (decide (n3 < (len3:Int))) (∃len4:Nat,(Idx prog Z3 c3 1 len4)∧((0:Int)≤n3)∧(n3 < (len4:Int))∧∃row:List D,(Row Z3 c3 (Int.toNat n3) row)∧∃n4:Int,((List.take 1 row) =([iD n4]:List D))∧Fw.newObj Z3 (.live t_int [[iD n4]]) (fun id Z4=>DCalls prog b_i [.one (.str (ByteArray.mk (List.toArray [99,114,111,115,115,105,110,103]))), .one (.osl id 0 1)] Z4 (fun r Z5=>∃s:ByteArray,(r=(.a (.one (.str s)) :RV))∧c_c prog Z5 5 1 d3 (b_0 s) (fun d4 Z6=>Fw.newObj Z6 (.live a_s [[.int .u8 10]]) (fun id1 Z7=>a_e prog Z7 a_s 1 d4 (.osl id1 0 1) (fun d5 Z8=>(I3 d5 (w64 (n3+1)) Z8)∧((μ3 d5 (w64 (n3+1)) Z8) < (μ3 d3 n3 Z3)))))))) (∃len4:Nat,(Len c4 len4)∧∃I4:D→Int→Store→Prop,∃μ4:D→Int→Store→Nat,(I4 d3 0 Z3)∧∀d4:D,∀n4:Int,∀Z4,(I4 d4 n4 Z4)→a_c (decide (n4 < (len4:Int))) (∃len5:Nat,(Idx prog Z4 c4 6 len5)∧((0:Int)≤n4)∧(n4 < (len5:Int))∧∃row:List D,(Row Z4 c4 (Int.toNat n4) row)∧∃n5 n6:Int,∃d5 d6 d7:D,∃b:Bool,((List.take 6 row) =([iD n5,iD n6,d5,d6,d7, .bool b]:List D))∧∀R:Int→Store→Prop,(∀n7:Int,∀Z5,(Fw.newObj Z5 (.live t_int [[iD n5],[iD n6],[iD n7]]) (fun id Z6=>DCalls prog b_i [.one (.str (ByteArray.mk (List.toArray [114,111,117,116,101]))), .one (.osl id 0 3)] Z6 (fun r Z7=>∃s:ByteArray,(r=(.a (.one (.str s)) :RV))∧(((ByteArray.size s:Int) + (5:Int))≤9223372036854775807)∧c_c prog Z7 5 1 d4 (b_0 (ByteArray.mk (Array.mk (HAppend.hAppend (Array.toList (ByteArray.data s)) (Array.toList (ByteArray.data (ByteArray.mk (List.toArray [32,112,97,116,104])))))))) (fun d8 Z8=>∃len6:Nat,(Len d5 len6)∧∃I5:D→Int→Store→Prop,∃μ5:D→Int→Store→Nat,(I5 d8 0 Z8)∧∀d9:D,∀n8:Int,∀Z9,(I5 d9 n8 Z9)→a_c (decide (n8 < (len6:Int))) (∃len7:Nat,(Idx prog Z9 d5 3 len7)∧((0:Int)≤n8)∧(n8 < (len7:Int))∧∃row1:List D,(Row Z9 d5 (Int.toNat n8) row1)∧∃n9 n10 n11:Int,((List.take 3 row1) =([iD n9,iD n10,iD n11]:List D))∧Fw.newObj Z9 (.live t_int [[iD n9],[iD n10],[iD n11]]) (fun id1 Z10=>DCalls prog b_i [.one (.str (ByteArray.mk (List.toArray []))), .one (.osl id1 0 3)] Z10 (fun r1 Z11=>∃s1:ByteArray,(r1=(.a (.one (.str s1)) :RV))∧c_c prog Z11 5 1 d9 (b_0 s1) (fun d10 Z12=>(([[iD n5,iD n6,d5,d6,d7, .bool b]]:List (List D)) =([[iD n5,iD n6,d5,d6,d7, .bool b]]:List (List D)))∧(I5 d10 (w64 (n8+1)) Z12)∧((μ5 d10 (w64 (n8+1)) Z12) < (μ5 d9 n8 Z9)))))) (c_c prog Z9 5 1 d9 [[.int .u8 (32:Int)],[.int .u8 (102:Int)],[.int .u8 (108:Int)],[.int .u8 (97:Int)],[.int .u8 (110:Int)],[.int .u8 (107:Int)]] (fun d10 Z10=>∃len7:Nat,(Len d6 len7)∧∃I6:D→Int→Store→Prop,∃μ6:D→Int→Store→Nat,(I6 d10 0 Z10)∧∀d11:D,∀n9:Int,∀Z11,(I6 d11 n9 Z11)→a_c (decide (n9 < (len7:Int))) (∃len8:Nat,(Idx prog Z11 d6 2 len8)∧((0:Int)≤n9)∧(n9 < (len8:Int))∧∃row1:List D,(Row Z11 d6 (Int.toNat n9) row1)∧∃n10 n11:Int,((List.take 2 row1) =([iD n10,iD n11]:List D))∧Fw.newObj Z11 (.live t_int [[iD n10],[iD n11]]) (fun id1 Z12=>DCalls prog b_i [.one (.str (ByteArray.mk (List.toArray []))), .one (.osl id1 0 2)] Z12 (fun r1 Z13=>∃s1:ByteArray,(r1=(.a (.one (.str s1)) :RV))∧c_c prog Z13 5 1 d11 (b_0 s1) (fun d12 Z14=>(([[iD n5,iD n6,d5,d6,d7, .bool b]]:List (List D)) =([[iD n5,iD n6,d5,d6,d7, .bool b]]:List (List D)))∧(I6 d12 (w64 (n9+1)) Z14)∧((μ6 d12 (w64 (n9+1)) Z14) < (μ6 d11 n9 Z11)))))) (DCalls prog b_i [.one (.str (ByteArray.mk (List.toArray [32,111,118,101,114,108,97,112]))), .one d7] Z11 (fun r1 Z12=>∃s1:ByteArray,(r1=(.a (.one (.str s1)) :RV))∧c_c prog Z12 5 1 d11 (b_0 s1) (fun d12 Z13=>Fw.newObj Z13 (.live a_s [[.int .u8 10]]) (fun id1 Z14=>a_e prog Z14 a_s 1 d12 (.osl id1 0 1) (fun d13 Z15=>(I4 d13 (w64 (n4+1)) Z15)∧((μ4 d13 (w64 (n4+1)) Z15) < (μ4 d4 n4 Z4)))))))))))))→R n7 Z5)→a_c b ((([[iD n5,iD n6,d5,d6,d7, .bool b]]:List (List D)) =([[iD n5,iD n6,d5,d6,d7, .bool b]]:List (List D)))∧R 1 Z4) ((([[iD n5,iD n6,d5,d6,d7, .bool b]]:List (List D)) =([[iD n5,iD n6,d5,d6,d7, .bool b]]:List (List D)))∧R 0 Z4)) (Fw.newObj Z4 (.live t_int [[iD c5],[iD c6],[iD c7],[iD c8]]) (fun id Z5=>DCalls prog b_i [.one (.str (ByteArray.mk (List.toArray [116,105,109,105,110,103]))), .one (.osl id 0 4)] Z5 (fun r Z6=>∃s:ByteArray,(r=(.a (.one (.str s)) :RV))∧c_c prog Z6 5 1 d4 (b_0 s) (fun d5 Z7=>Fw.newObj Z7 (.live a_s [[.int .u8 10]]) (fun id1 Z8=>a_e prog Z8 a_s 1 d5 (.osl id1 0 1) (fun d6 Z9=>∃b:ByteArray,(Fw.Rows prog Z9 a_s d6 (b_0 b))∧Qp (.a (.one (.str b))) Z9))))))))))
theorem a_ct (c0 c1 c2 c3 c4:D)(c5 c6 c7 c8:Int)(σ:Store)(Qp:RV→Store→Prop)(h:a_bt c0 c1 c2 c3 c4 c5 c6 c7 c8 σ Qp) :DCalls prog h_3 [.agg [c0,c1,c2,c3,c4,iD c5,iD c6,iD c7,iD c8]] σ Qp:=
 a_b mixed (by kernel_rfl) Tryz.func11 y_k (Eq.mp (by kernel_rfl) h)
def y_6:Ann:= { cbs:= [2,3],draws:= [(1,{ ord:= [0,2,1,3,4,5],nb:= [2] })] }
def a_be (a0 a1 a2 a3 a4:D)(a5 a6 a7 a8:Int)(b0 b1 b2 b3 b4:D)(b5 b6 b7 b8:Int)(σ:Store)(Qp:RV→Store→Prop) :Prop:=
 DCalls prog h_3 [.agg [a0,a1,a2,a3,a4,iD a5,iD a6,iD a7,iD a8]] σ (fun r Z=>∃s:ByteArray,(r=(.a (.one (.str s)) :RV))∧DCalls prog h_3 [.agg [b0,b1,b2,b3,b4,iD b5,iD b6,iD b7,iD b8]] Z (fun r1 Z1=>∃s1:ByteArray,(r1=(.a (.one (.str s1)) :RV))∧Qp (.a (.one (.bool ((ByteArray.toList s) ==(ByteArray.toList s1))))) Z1))
theorem a_cv (a0 a1 a2 a3 a4:D)(a5 a6 a7 a8:Int)(b0 b1 b2 b3 b4:D)(b5 b6 b7 b8:Int)(σ:Store)(Qp:RV→Store→Prop)(h:a_be a0 a1 a2 a3 a4 a5 a6 a7 a8 b0 b1 b2 b3 b4 b5 b6 b7 b8 σ Qp) :DCalls prog l_n [.agg [a0,a1,a2,a3,a4,iD a5,iD a6,iD a7,iD a8], .agg [b0,b1,b2,b3,b4,iD b5,iD b6,iD b7,iD b8]] σ Qp:=
 a_b mixed (by kernel_rfl) Tryz.func16 y_6 (Eq.mp (by kernel_rfl) h)
def z_a:Ann:= { cbs:= [2],loops:= [(6,{ mods:= [(6,SlotSh.one (Sh.any)),(31,s6)],keep:= [5,29,30] }),(11,{ mods:= [(6,SlotSh.one (Sh.any)),(44,s6)],keep:= [42,43] })],joins:= [(3,{ keep:= [1,2] })] }
def a_bw (c0 c1 c2 c3 c4:D)(c5 c6 c7 c8 r:Int)(σ:Store)(Qp:RV→Store→Prop) :Prop:=
 ∀R:Store→Prop,(∀Z,(∃len:Nat,(Idx prog Z c4 6 len)∧((0:Int)≤r)∧(r < (len:Int))∧∃row:List D,(Row Z c4 (Int.toNat r) row)∧∃n n1:Int,∃d d1 d2:D,∃b:Bool,((List.take 6 row) =([iD n,iD n1,d,d1,d2, .bool b]:List D))∧DCalls prog f_q [.one d2] Z (fun r1 Z1=>∃d3:D,(r1=(.a (.one d3) :RV))∧∃len1:Nat,(Len d len1)∧∃I:D→Int→Store→Prop,∃μ:D→Int→Store→Nat,(I d3 0 Z1)∧∀d4:D,∀n2:Int,∀Z2,(I d4 n2 Z2)→a_c (decide (n2 < (len1:Int))) (∃len2:Nat,(Idx prog Z2 d 3 len2)∧((0:Int)≤n2)∧(n2 < (len2:Int))∧∃row1:List D,(Row Z2 d (Int.toNat n2) row1)∧∃n3 n4 n5:Int,((List.take 3 row1) =([iD n3,iD n4,iD n5]:List D))∧Fw.newObj Z2 (.live t_int [[iD n3]]) (fun id Z3=>a_e prog Z3 t_int 8 d4 (.osl id 0 1) (fun d5 Z4=>(([[iD n,iD n1,d,d1,d2, .bool b]]:List (List D)) =([[iD n,iD n1,d,d1,d2, .bool b]]:List (List D)))∧(I d5 (w64 (n2+1)) Z4)∧((μ d5 (w64 (n2+1)) Z4) < (μ d4 n2 Z2))))) (∃len2:Nat,(Len d1 len2)∧∃I1:D→Int→Store→Prop,∃μ1:D→Int→Store→Nat,(I1 d4 0 Z2)∧∀d5:D,∀n3:Int,∀Z3,(I1 d5 n3 Z3)→a_c (decide (n3 < (len2:Int))) (∃len3:Nat,(Idx prog Z3 d1 2 len3)∧((0:Int)≤n3)∧(n3 < (len3:Int))∧∃row1:List D,(Row Z3 d1 (Int.toNat n3) row1)∧∃n4 n5:Int,((List.take 2 row1) =([iD n4,iD n5]:List D))∧Fw.newObj Z3 (.live t_int [[iD n4]]) (fun id Z4=>a_e prog Z4 t_int 8 d5 (.osl id 0 1) (fun d6 Z5=>(I1 d6 (w64 (n3+1)) Z5)∧((μ1 d6 (w64 (n3+1)) Z5) < (μ1 d5 n3 Z3))))) (DCalls prog e_e [.one d5] Z3 (fun r2 Z4=>(r2=(.tup []:RV))∧DCalls prog d_h [.one d5] Z4 (fun r3 Z5=>∃d6:D,(r3=(.a (.one d6) :RV))∧Qp (.a (.one d6)) Z5))))))→R Z)→a_c (decide (r < 0)) (Qp (.a (.one .nils)) σ) (∃len:Nat,(Len c4 len)∧a_c (decide (r≥(len:Int))) (Qp (.a (.one .nils)) σ) (R σ))
theorem s_w (c0 c1 c2 c3 c4:D)(c5 c6 c7 c8 r:Int)(σ:Store)(Qp:RV→Store→Prop)(h:a_bw c0 c1 c2 c3 c4 c5 c6 c7 c8 r σ Qp) :DCalls prog b_9 [.agg [c0,c1,c2,c3,c4,iD c5,iD c6,iD c7,iD c8],iA r] σ Qp:=
 a_b mixed (by kernel_rfl) Tryz.func20 z_a (Eq.mp (by kernel_rfl) h)
def s_l:Ann:= { cbs:= [3],loops:= [(2,{ mods:= [(13,s6)],keep:= [2,3,11,12] })] }
def t_0 (c0 c1 c2 c3 c4:D)(c5 c6 c7 c8 a b:Int)(σ:Store)(Qp:RV→Store→Prop) :Prop:=
 DCalls prog f_a [.agg [c0,c1,c2,c3,c4,iD c5,iD c6,iD c7,iD c8],iA a] σ (fun r Z=>∃d:D,(r=(.a (.one d) :RV))∧∃len:Nat,(Len d len)∧∃I:Int→Store→Prop,∃μ:Int→Store→Nat,(I 0 Z)∧∀n:Int,∀Z1,(I n Z1)→a_c (decide (n < (len:Int))) (∃len1:Nat,(Idx prog Z1 d 1 len1)∧((0:Int)≤n)∧(n < (len1:Int))∧∃row:List D,(Row Z1 d (Int.toNat n) row)∧∃n1:Int,((List.take 1 row) =([iD n1]:List D))∧DCalls prog f_a [.agg [c0,c1,c2,c3,c4,iD c5,iD c6,iD c7,iD c8],iA b] Z1 (fun r1 Z2=>∃d1:D,(r1=(.a (.one d1) :RV))∧DCalls prog c_3 [.one d1,iA n1] Z2 (fun r2 Z3=>∃b1:Bool,(r2=(.a (bA b1) :RV))∧a_c b1 (Qp (.a (bA true)) Z3) ((I (w64 (n+1)) Z3)∧((μ (w64 (n+1)) Z3) < (μ n Z1)))))) (Qp (.a (bA false)) Z1))
theorem t_5 (c0 c1 c2 c3 c4:D)(c5 c6 c7 c8 a b:Int)(σ:Store)(Qp:RV→Store→Prop)(h:t_0 c0 c1 c2 c3 c4 c5 c6 c7 c8 a b σ Qp) :DCalls prog g_0 [.agg [c0,c1,c2,c3,c4,iD c5,iD c6,iD c7,iD c8],iA a,iA b] σ Qp:=
 a_b mixed (by kernel_rfl) Tryz.func24 s_l (Eq.mp (by kernel_rfl) h)
def w_2:Ann:= { cbs:= [3],loops:= [(4,{ mods:= [(7,SlotSh.one (Sh.any)),(8,SlotSh.one (Sh.any)),(18,s6)],keep:= [1,2,3,16,17] }),(8,{ mods:= [(7,SlotSh.one (Sh.any)),(8,SlotSh.one (Sh.any)),(12,s6)],keep:= [1,2,3,10,11,16,17,18] })],joins:= [(9,{ mods:= [(7,SlotSh.one (Sh.any)),(8,SlotSh.one (Sh.any))],keep:= [1,2,3,10,11,12,16,17,18] }),(11,{ keep:= [1,2,3,7,8,10,11,12,16,17,18] }),(13,{ keep:= [1,2,3,7,8,10,11,12,13,14,16,17,18] })] }
def y_x (c0 c1 c2 c3 c4:D)(c5 c6 c7 c8 approach:Int)(path:D)(σ:Store)(Qp:RV→Store→Prop) :Prop:=
 ∃len:Nat,(Len path len)∧∃I:D→D→Int→Store→Prop,∃μ:D→D→Int→Store→Nat,(I .nils .nils 0 σ)∧∀d d1:D,∀n:Int,∀Z,(I d d1 n Z)→a_c (decide (n < (len:Int))) (∃len1:Nat,(Idx prog Z path 3 len1)∧((0:Int)≤n)∧(n < (len1:Int))∧∃row:List D,(Row Z path (Int.toNat n) row)∧∃n1 n2 n3:Int,((List.take 3 row) =([iD n1,iD n2,iD n3]:List D))∧DCalls prog i_d [.agg [c0,c1,c2,c3,c4,iD c5,iD c6,iD c7,iD c8],iA n1] Z (fun r Z1=>∃n4:Int,(r=(.a (iA n4) :RV))∧∃I1:D→D→Int→Store→Prop,∃μ1:D→D→Int→Store→Nat,(I1 d d1 0 Z1)∧∀d2 d3:D,∀n5:Int,∀Z2,(I1 d2 d3 n5 Z2)→DCalls prog l_p [iA n4] Z2 (fun r1 Z3=>∃n6:Int,(r1=(.a (iA n6) :RV))∧a_c (decide (n5 < n6)) (∀R:D→D→Store→Prop,(∀d4 d5:D,∀Z4,((([[iD n1,iD n2,iD n3]]:List (List D)) =([[iD n1,iD n2,iD n3]]:List (List D)))∧(I1 d4 d5 (w64 (n5+1)) Z4)∧((μ1 d4 d5 (w64 (n5+1)) Z4) < (μ1 d2 d3 n5 Z2)))→R d4 d5 Z4)→∀R1:Store→Prop,(∀Z4,(DCalls prog i_b [.one c1,iA n1,iA n5] Z4 (fun r2 Z5=>∃n7 n8:Int,∃b:Bool,(r2=(.tup [iA n7,iA n8,bA b]:RV))∧∀R2:Store→Prop,(∀Z6,(Fw.newObj Z6 (.live t_int [[iD n7]]) (fun id Z7=>a_e prog Z7 t_int 8 d3 (.osl id 0 1) (fun d4 Z8=>Fw.newObj Z8 (.live a_r [[iD n7,iD (w64 (3 - n8))]]) (fun id1 Z9=>a_e prog Z9 a_r 16 d2 (.osl id1 0 1) (fun d5 Z10=>(([[iD n1,iD n2,iD n3]]:List (List D)) =([[iD n1,iD n2,iD n3]]:List (List D)))∧R d5 d4 Z10)))))→R2 Z6)→a_c (!b) ((([[iD n1,iD n2,iD n3]]:List (List D)) =([[iD n1,iD n2,iD n3]]:List (List D)))∧R d2 d3 Z5) (DCalls prog i_d [.agg [c0,c1,c2,c3,c4,iD c5,iD c6,iD c7,iD c8],iA n7] Z5 (fun r3 Z6=>∃n9:Int,(r3=(.a (iA n9) :RV))∧a_c (n9 != 1) ((([[iD n1,iD n2,iD n3]]:List (List D)) =([[iD n1,iD n2,iD n3]]:List (List D)))∧R d2 d3 Z6) (a_c (n8 != 1) (a_c (n8 != 2) ((([[iD n1,iD n2,iD n3]]:List (List D)) =([[iD n1,iD n2,iD n3]]:List (List D)))∧R d2 d3 Z6) (DCalls prog b_3 [.one path] Z6 (fun r4 Z7=>∃d4:D,(r4=(.a (.one d4) :RV))∧DCalls prog c_3 [.one d4,iA n7] Z7 (fun r5 Z8=>∃b1:Bool,(r5=(.a (bA b1) :RV))∧a_c b1 ((([[iD n1,iD n2,iD n3]]:List (List D)) =([[iD n1,iD n2,iD n3]]:List (List D)))∧R d2 d3 Z8) (a_c (n7 == approach) ((([[iD n1,iD n2,iD n3]]:List (List D)) =([[iD n1,iD n2,iD n3]]:List (List D)))∧R d2 d3 Z8) (DCalls prog c_3 [.one d3,iA n7] Z8 (fun r6 Z9=>∃b2:Bool,(r6=(.a (bA b2) :RV))∧a_c b2 ((([[iD n1,iD n2,iD n3]]:List (List D)) =([[iD n1,iD n2,iD n3]]:List (List D)))∧R d2 d3 Z9) ((([[iD n1,iD n2,iD n3]]:List (List D)) =([[iD n1,iD n2,iD n3]]:List (List D)))∧R2 Z9)))))))) (DCalls prog b_3 [.one path] Z6 (fun r4 Z7=>∃d4:D,(r4=(.a (.one d4) :RV))∧DCalls prog c_3 [.one d4,iA n7] Z7 (fun r5 Z8=>∃b1:Bool,(r5=(.a (bA b1) :RV))∧a_c b1 ((([[iD n1,iD n2,iD n3]]:List (List D)) =([[iD n1,iD n2,iD n3]]:List (List D)))∧R d2 d3 Z8) (a_c (n7 == approach) ((([[iD n1,iD n2,iD n3]]:List (List D)) =([[iD n1,iD n2,iD n3]]:List (List D)))∧R d2 d3 Z8) (DCalls prog c_3 [.one d3,iA n7] Z8 (fun r6 Z9=>∃b2:Bool,(r6=(.a (bA b2) :RV))∧a_c b2 ((([[iD n1,iD n2,iD n3]]:List (List D)) =([[iD n1,iD n2,iD n3]]:List (List D)))∧R d2 d3 Z9) ((([[iD n1,iD n2,iD n3]]:List (List D)) =([[iD n1,iD n2,iD n3]]:List (List D)))∧R2 Z9))))))))))))→R1 Z4)→a_c (n5 == n2) ((([[iD n1,iD n2,iD n3]]:List (List D)) =([[iD n1,iD n2,iD n3]]:List (List D)))∧R d2 d3 Z3) (a_c (n5 == n3) ((([[iD n1,iD n2,iD n3]]:List (List D)) =([[iD n1,iD n2,iD n3]]:List (List D)))∧R d2 d3 Z3) ((([[iD n1,iD n2,iD n3]]:List (List D)) =([[iD n1,iD n2,iD n3]]:List (List D)))∧R1 Z3))) ((I d2 d3 (w64 (n+1)) Z3)∧((μ d2 d3 (w64 (n+1)) Z3) < (μ d d1 n Z)))))) (Qp (.a (.one d)) Z)
theorem y_9 (c0 c1 c2 c3 c4:D)(c5 c6 c7 c8 approach:Int)(path:D)(σ:Store)(Qp:RV→Store→Prop)(h:y_x c0 c1 c2 c3 c4 c5 c6 c7 c8 approach path σ Qp) :DCalls prog j_7 [.agg [c0,c1,c2,c3,c4,iD c5,iD c6,iD c7,iD c8],iA approach, .one path] σ Qp:=
 a_b mixed (by kernel_rfl) Tryz.func28 w_2 (Eq.mp (by kernel_rfl) h)
def a_bv:Ann:= { draws:= [(5,{ ord:= [0,1,2,3,4,5,6] }),(7,{ ord:= [0,1,2,3,4,5,6] })],loops:= [(2,{ mods:= [(13,s6)],keep:= [1,2,11,12] })] }
def a_em (joints:D)(section_ end_:Int)(σ:Store)(Qp:RV→Store→Prop) :Prop:=
 ∃len:Nat,(Len joints len)∧∃I:Int→Store→Prop,∃μ:Int→Store→Nat,(I 0 σ)∧∀n:Int,∀Z,(I n Z)→a_c (decide (n < (len:Int))) (∃len1:Nat,(Idx prog Z joints 4 len1)∧((0:Int)≤n)∧(n < (len1:Int))∧∃row:List D,(Row Z joints (Int.toNat n) row)∧∃n1 n2 n3 n4:Int,((List.take 4 row) =([iD n1,iD n2,iD n3,iD n4]:List D))∧a_c (n1 == section_) (a_c (n2 == end_) (Qp (.tup [iA n3,iA n4,bA true]) Z) (a_c (n3 == section_) (a_c (n4 == end_) (Qp (.tup [iA n1,iA n2,bA true]) Z) ((I (w64 (n+1)) Z)∧((μ (w64 (n+1)) Z) < (μ n Z)))) ((I (w64 (n+1)) Z)∧((μ (w64 (n+1)) Z) < (μ n Z))))) (a_c (n3 == section_) (a_c (n4 == end_) (Qp (.tup [iA n1,iA n2,bA true]) Z) ((I (w64 (n+1)) Z)∧((μ (w64 (n+1)) Z) < (μ n Z)))) ((I (w64 (n+1)) Z)∧((μ (w64 (n+1)) Z) < (μ n Z))))) (Qp (.tup [iA 0,iA 0,bA false]) Z)
theorem a_c2 (joints:D)(section_ end_:Int)(σ:Store)(Qp:RV→Store→Prop)(h:a_em joints section_ end_ σ Qp) :DCalls prog e_v [.one joints,iA section_,iA end_] σ Qp:=
 a_b mixed (by kernel_rfl) Tryz.func32 a_bv (Eq.mp (by kernel_rfl) h)
def x_x:Ann:= { loops:= [(2,{ mods:= [(0,SlotSh.one (Sh.str)),(9,s6)],keep:= [7,8] })] }
def y_g (w:ByteArray)(l:D)(σ:Store)(Qp:RV→Store→Prop) :Prop:=
 ∃len:Nat,(Len l len)∧∃I:ByteArray→Int→Store→Prop,∃μ:ByteArray→Int→Store→Nat,(I w 0 σ)∧∀s:ByteArray,∀n:Int,∀Z,(I s n Z)→a_c (decide (n < (len:Int))) (∃len1:Nat,(Idx prog Z l 1 len1)∧((0:Int)≤n)∧(n < (len1:Int))∧∃row:List D,(Row Z l (Int.toNat n) row)∧∃n1:Int,((List.take 1 row) =([iD n1]:List D))∧DCalls prog g_d [iA n1] Z (fun r Z1=>∃s1:ByteArray,(r=(.a (.one (.str s1)) :RV))∧(((1:Int) + (ByteArray.size s1:Int))≤9223372036854775807)∧(((ByteArray.size s:Int) + (ByteArray.size (ByteArray.mk (Array.mk (HAppend.hAppend (Array.toList (ByteArray.data (ByteArray.mk (List.toArray [32])))) (Array.toList (ByteArray.data s1))))) :Int))≤9223372036854775807)∧(I (ByteArray.mk (Array.mk (HAppend.hAppend (Array.toList (ByteArray.data s)) (Array.toList (ByteArray.data (ByteArray.append (ByteArray.mk (List.toArray [32])) s1)))))) (w64 (n+1)) Z1)∧((μ (ByteArray.append s (ByteArray.append (ByteArray.mk (List.toArray [32])) s1)) (w64 (n+1)) Z1) < (μ s n Z)))) (Qp (.a (.one (.str s))) Z)
theorem y_h (w:ByteArray)(l:D)(σ:Store)(Qp:RV→Store→Prop)(h:y_g w l σ Qp) :DCalls prog b_i [.one (.str w), .one l] σ Qp:=
 a_b mixed (by kernel_rfl) Tryz.func36 x_x (Eq.mp (by kernel_rfl) h)
def q_o:Ann:= { cbs:= [2,3],draws:= [(3,{ ord:= [0,1,2,3,4,6,7,5,8,9,10,11],nb:= [1,2,7] }),(5,{ ord:= [0,1,2,3,4,5,6,7],nb:= [1] })] }
def s_n (p0 p1 p2 p3 p4:D)(p5 p6 p7 p8 r0 r1:Int)(r2 r3 r4:D)(r5:Bool)(σ:Store)(Qp:RV→Store→Prop) :Prop:=
 DCalls prog g_r [.agg [p0,p1,p2,p3,p4,iD p5,iD p6,iD p7,iD p8], .agg [iD r0,iD r1,r2,r3,r4, .bool r5]] σ (fun r Z=>∃b:Bool,(r=(.a (bA b) :RV))∧a_c (!b) (Qp (.a (iA 9)) Z) (DCalls prog c_q [.agg [p0,p1,p2,p3,p4,iD p5,iD p6,iD p7,iD p8], .agg [iD r0,iD r1,r2,r3,r4, .bool r5]] Z (fun r6 Z1=>∃n:Int,(r6=(.a (iA n) :RV))∧DCalls prog d_j [.agg [p0,p1,p2,p3,p4,iD p5,iD p6,iD p7,iD p8],iA n, .one r2] Z1 (fun r7 Z2=>∃d:D,(r7=(.a (.one d) :RV))∧DCalls prog e_5 [.one r3, .one d] Z2 (fun r8 Z3=>∃b1:Bool,(r8=(.a (bA b1) :RV))∧a_c (!b1) (Qp (.a (iA 10)) Z3) (DCalls prog d_p [.agg [p0,p1,p2,p3,p4,iD p5,iD p6,iD p7,iD p8], .agg [iD r0,iD r1,r2,r3,r4, .bool r5]] Z3 (fun r9 Z4=>∃d1:D,(r9=(.a (.one d1) :RV))∧DCalls prog f_m [.one r4, .one d1] Z4 (fun r10 Z5=>∃b2:Bool,(r10=(.a (bA b2) :RV))∧a_c (!b2) (Qp (.a (iA 11)) Z5) (Qp (.a (iA 0)) Z5)))))))))
theorem s_u (p0 p1 p2 p3 p4:D)(p5 p6 p7 p8 r0 r1:Int)(r2 r3 r4:D)(r5:Bool)(σ:Store)(Qp:RV→Store→Prop)(h:s_n p0 p1 p2 p3 p4 p5 p6 p7 p8 r0 r1 r2 r3 r4 r5 σ Qp) :DCalls prog f_8 [.agg [p0,p1,p2,p3,p4,iD p5,iD p6,iD p7,iD p8], .agg [iD r0,iD r1,r2,r3,r4, .bool r5]] σ Qp:=
 a_b mixed (by kernel_rfl) Tryz.func40 q_o (Eq.mp (by kernel_rfl) h)
def m_r:Ann:= { cbs:= [3],loops:= [(7,{ mods:= [(24,s6)],keep:= [0,3,22,23] }),(13,{ mods:= [(43,s6)],keep:= [0,3,41,42] })],joins:= [(4,{ mods:= [(4,s6)],keep:= [0,3] })] }
def o_d (p:D)(r0 r1:Int)(r2 r3 r4:D)(r5:Bool)(σ:Store)(Qp:RV→Store→Prop) :Prop:=
 ∀R:Int→Store→Prop,(∀n:Int,∀Z,(Fw.newObj Z (.live t_int [[iD r0],[iD r1],[iD n]]) (fun id Z1=>DCalls prog a_6 [.one p, .one (.str (ByteArray.mk (List.toArray [114,111,117,116,101]))), .one (.osl id 0 3)] Z1 (fun r Z2=>(r=(.tup []:RV))∧DCalls prog a_6 [.one p, .one (.str (ByteArray.mk (List.toArray [32,112,97,116,104]))), .one .nils] Z2 (fun r6 Z3=>(r6=(.tup []:RV))∧∃len:Nat,(Len r2 len)∧∃I:Int→Store→Prop,∃μ:Int→Store→Nat,(I 0 Z3)∧∀n1:Int,∀Z4,(I n1 Z4)→a_c (decide (n1 < (len:Int))) (∃len1:Nat,(Idx prog Z4 r2 3 len1)∧((0:Int)≤n1)∧(n1 < (len1:Int))∧∃row:List D,(Row Z4 r2 (Int.toNat n1) row)∧∃n2 n3 n4:Int,((List.take 3 row) =([iD n2,iD n3,iD n4]:List D))∧Fw.newObj Z4 (.live t_int [[iD n2],[iD n3],[iD n4]]) (fun id1 Z5=>DCalls prog a_6 [.one p, .one (.str (ByteArray.mk (List.toArray []))), .one (.osl id1 0 3)] Z5 (fun r7 Z6=>(r7=(.tup []:RV))∧(I (w64 (n1+1)) Z6)∧((μ (w64 (n1+1)) Z6) < (μ n1 Z4))))) (DCalls prog a_6 [.one p, .one (.str (ByteArray.mk (List.toArray [32,102,108,97,110,107]))), .one .nils] Z4 (fun r7 Z5=>(r7=(.tup []:RV))∧∃len1:Nat,(Len r3 len1)∧∃I1:Int→Store→Prop,∃μ1:Int→Store→Nat,(I1 0 Z5)∧∀n2:Int,∀Z6,(I1 n2 Z6)→a_c (decide (n2 < (len1:Int))) (∃len2:Nat,(Idx prog Z6 r3 2 len2)∧((0:Int)≤n2)∧(n2 < (len2:Int))∧∃row:List D,(Row Z6 r3 (Int.toNat n2) row)∧∃n3 n4:Int,((List.take 2 row) =([iD n3,iD n4]:List D))∧Fw.newObj Z6 (.live t_int [[iD n3],[iD n4]]) (fun id1 Z7=>DCalls prog a_6 [.one p, .one (.str (ByteArray.mk (List.toArray []))), .one (.osl id1 0 2)] Z7 (fun r8 Z8=>(r8=(.tup []:RV))∧(I1 (w64 (n2+1)) Z8)∧((μ1 (w64 (n2+1)) Z8) < (μ1 n2 Z6))))) (DCalls prog b_a [.one p, .one (.str (ByteArray.mk (List.toArray [32,111,118,101,114,108,97,112]))), .one r4] Z6 (fun r8 Z7=>(r8=(.tup []:RV))∧Qp (.tup []) Z7))))))))→R n Z)→a_c r5 (R 1 σ) (R 0 σ)
theorem o_h (p:D)(r0 r1:Int)(r2 r3 r4:D)(r5:Bool)(σ:Store)(Qp:RV→Store→Prop)(h:o_d p r0 r1 r2 r3 r4 r5 σ Qp) :DCalls prog e_o [.one p, .agg [iD r0,iD r1,r2,r3,r4, .bool r5]] σ Qp:=
 a_b mixed (by kernel_rfl) Tryz.func48 m_r (Eq.mp (by kernel_rfl) h)
def i_u:Ann:= { }
def j_j (s f:D)(σ:Store)(Qp:RV→Store→Prop) :Prop:=
 DCalls prog d_4 [.one s, .one f] σ (fun r Z=>∃n:Int,(r=(.a (iA n) :RV))∧Qp (.a (.one (.bool (decide (n≥0))))) Z)
theorem j_h (s f:D)(σ:Store)(Qp:RV→Store→Prop)(h:j_j s f σ Qp) :DCalls prog d_a [.one s, .one f] σ Qp:=
 a_b mixed (by kernel_rfl) Tryz.func61 i_u (Eq.mp (by kernel_rfl) h)
def r_p:Ann:= { loops:= [(3,{ mods:= [(3,SlotSh.one (Sh.any)),(8,s6)],keep:= [6,7] })] }
def s_8 (path:D)(σ:Store)(Qp:RV→Store→Prop) :Prop:=
 ∃len:Nat,(Len path len)∧∃I:D→Int→Store→Prop,∃μ:D→Int→Store→Nat,(I .nils 0 σ)∧∀d:D,∀n:Int,∀Z,(I d n Z)→a_c (decide (n < (len:Int))) (∃len1:Nat,(Idx prog Z path 3 len1)∧((0:Int)≤n)∧(n < (len1:Int))∧∃row:List D,(Row Z path (Int.toNat n) row)∧∃n1 n2 n3:Int,((List.take 3 row) =([iD n1,iD n2,iD n3]:List D))∧Fw.newObj Z (.live t_int [[iD n1]]) (fun id Z1=>a_e prog Z1 t_int 8 d (.osl id 0 1) (fun d1 Z2=>(I d1 (w64 (n+1)) Z2)∧((μ d1 (w64 (n+1)) Z2) < (μ d n Z))))) (Qp (.a (.one d)) Z)
theorem k_q (path:D)(σ:Store)(Qp:RV→Store→Prop)(h:s_8 path σ Qp) :DCalls prog b_3 [.one path] σ Qp:=
 a_b mixed (by kernel_rfl) Tryz.func65 r_p (Eq.mp (by kernel_rfl) h)
def z_e:Ann:= { draws:= [(5,{ ord:= [0,1,2,3,4,5,6] }),(7,{ ord:= [0,1,2,3,4,5,6] })],loops:= [(2,{ mods:= [(13,s6)],keep:= [1,2,11,12] })] }
def a_bb (joints:D)(section_ end_:Int)(σ:Store)(Qp:RV→Store→Prop) :Prop:=
 ∃len:Nat,(Len joints len)∧∃I:Int→Store→Prop,∃μ:Int→Store→Nat,(I 0 σ)∧∀n:Int,∀Z,(I n Z)→a_c (decide (n < (len:Int))) (∃len1:Nat,(Idx prog Z joints 4 len1)∧((0:Int)≤n)∧(n < (len1:Int))∧∃row:List D,(Row Z joints (Int.toNat n) row)∧∃n1 n2 n3 n4:Int,((List.take 4 row) =([iD n1,iD n2,iD n3,iD n4]:List D))∧a_c (n1 == section_) (a_c (n2 == end_) (Qp (.tup [iA n3,iA n4,bA true]) Z) (a_c (n3 == section_) (a_c (n4 == end_) (Qp (.tup [iA n1,iA n2,bA true]) Z) ((I (w64 (n+1)) Z)∧((μ (w64 (n+1)) Z) < (μ n Z)))) ((I (w64 (n+1)) Z)∧((μ (w64 (n+1)) Z) < (μ n Z))))) (a_c (n3 == section_) (a_c (n4 == end_) (Qp (.tup [iA n1,iA n2,bA true]) Z) ((I (w64 (n+1)) Z)∧((μ (w64 (n+1)) Z) < (μ n Z)))) ((I (w64 (n+1)) Z)∧((μ (w64 (n+1)) Z) < (μ n Z))))) (Qp (.tup [iA 0,iA 0,bA false]) Z)
theorem a_bl (joints:D)(section_ end_:Int)(σ:Store)(Qp:RV→Store→Prop)(h:a_bb joints section_ end_ σ Qp) :DCalls prog i_b [.one joints,iA section_,iA end_] σ Qp:=
 a_b mixed (by kernel_rfl) Tryz.func69 z_e (Eq.mp (by kernel_rfl) h)
def v_q:Ann:= { }
def x_a (n lo hi:Int)(σ:Store)(Qp:RV→Store→Prop) :Prop:=
 a_c (decide (lo≤n)) (Qp (.a (.one (.bool (decide (n≤hi))))) σ) (Qp (.a (bA false)) σ)
theorem y_b (n lo hi:Int)(σ:Store)(Qp:RV→Store→Prop)(h:x_a n lo hi σ Qp) :DCalls prog c_5 [iA n,iA lo,iA hi] σ Qp:=
 a_b mixed (by kernel_rfl) Tryz.func73 v_q (Eq.mp (by kernel_rfl) h)
def r_k:Ann:= { cbs:= [2,3],loops:= [(7,{ mods:= [(5,SlotSh.bx [Sh.int IntKind.i64,Sh.int IntKind.i64]),(63,s6)],keep:= [2,3,7,8,9,61,62] })],joins:= [(5,{ keep:= [2,3,5,7,8] }),(18,{ mods:= [(5,SlotSh.bx [Sh.int IntKind.i64,Sh.int IntKind.i64])],keep:= [2,3,7,8,9,61,62,63] }),(16,{ mods:= [(20,SlotSh.one (Sh.bool))],keep:= [2,3,5,7,8,9,11,12,13,14,15,18,19,61,62,63] })] }
def t_9 (p0 p1 p2 p3 p4:D)(p5 p6 p7 p8 r0 r1:Int)(r2 r3 r4:D)(r5:Bool)(σ:Store)(Qp:RV→Store→Prop) :Prop:=
 DCalls prog c_k [.agg [p0,p1,p2,p3,p4,iD p5,iD p6,iD p7,iD p8],iA r0] σ (fun r Z=>∃n n1:Int,∃b:Bool,(r=(.tup [.agg [iD n,iD n1],bA b]:RV))∧DCalls prog c_k [.agg [p0,p1,p2,p3,p4,iD p5,iD p6,iD p7,iD p8],iA r1] Z (fun r6 Z1=>∃n2 n3:Int,∃b1:Bool,(r6=(.tup [.agg [iD n2,iD n3],bA b1]:RV))∧∀R:Store→Prop,(∀Z2,(Fw.newObj Z2 (.mp 0 []) (fun id Z3=>MPut prog t_int Z3 (.omap id) (iA n) (iA 1) (fun Z4=>∃len:Nat,(Len r2 len)∧∃I:Int→Int→Int→Store→Prop,∃μ:Int→Int→Int→Store→Nat,(I n n1 0 Z4)∧∀n4 n5 n6:Int,∀Z5,(I n4 n5 n6 Z5)→a_c (decide (n6 < (len:Int))) (∀R1:Int→Int→Store→Prop,(∀n7 n8:Int,∀Z6,((([[iD n2,iD n3]]:List (List D)) =([[iD n2,iD n3]]:List (List D)))∧(I n7 n8 (w64 (n6+1)) Z6)∧((μ n7 n8 (w64 (n6+1)) Z6) < (μ n4 n5 n6 Z5)))→R1 n7 n8 Z6)→∃len1:Nat,(Idx prog Z5 r2 3 len1)∧((0:Int)≤n6)∧(n6 < (len1:Int))∧∃row:List D,(Row Z5 r2 (Int.toNat n6) row)∧∃n7 n8 n9:Int,((List.take 3 row) =([iD n7,iD n8,iD n9]:List D))∧DCalls prog e_v [.one p1,iA n4,iA n5] Z5 (fun r7 Z6=>∃n10 n11:Int,∃b2:Bool,(r7=(.tup [iA n10,iA n11,bA b2]:RV))∧DCalls prog b_r [.agg [p0,p1,p2,p3,p4,iD p5,iD p6,iD p7,iD p8],iA n10] Z6 (fun r8 Z7=>∃n12 n13 n14:Int,∃b3:Bool,(r8=(.tup [.agg [iD n12,iD n13,iD n14],bA b3]:RV))∧DCalls prog q_7 [iA n12,iA n8,iA n9] Z7 (fun r9 Z8=>∃n15:Int,∃b4:Bool,(r9=(.tup [iA n15,bA b4]:RV))∧∃r10:Option A,(h_e prog t_int Z8 (.omap id) (iA n10) r10)∧∃n16:Int,((Option.getD r10 (iA 0)) =(iA n16:A))∧MPut prog t_int Z8 (.omap id) (iA n10) (.one (iD (w64 (n16+1)))) (fun Z9=>DCalls prog d_k [.one p2, .agg [iD n7,iD n9]] Z9 (fun r11 Z10=>∃b5:Bool,(r11=(.a (bA b5) :RV))∧∀R2:Bool→Store→Prop,(∀b6:Bool,∀Z11,(a_c (!b2) (Qp (.a (bA false)) Z11) (a_c (n10 != n7) (Qp (.a (bA false)) Z11) (a_c (n11 != n8) (Qp (.a (bA false)) Z11) (a_c (!b4) (Qp (.a (bA false)) Z11) (∃r12:Option A,(h_e prog t_int Z11 (.omap id) (iA n10) r12)∧∃n17:Int,((Option.getD r12 (iA 0)) =(iA n17:A))∧a_c (decide (n17 > 1)) (Qp (.a (bA false)) Z11) (a_c b5 (a_c (!b6) (Qp (.a (bA false)) Z11) (a_c r5 (a_c (n14 != 0) (Qp (.a (bA false)) Z11) ((([[iD n2,iD n3]]:List (List D)) =([[iD n2,iD n3]]:List (List D)))∧R1 n7 n9 Z11)) ((([[iD n2,iD n3]]:List (List D)) =([[iD n2,iD n3]]:List (List D)))∧R1 n7 n9 Z11))) (a_c r5 (a_c (n14 != 0) (Qp (.a (bA false)) Z11) ((([[iD n2,iD n3]]:List (List D)) =([[iD n2,iD n3]]:List (List D)))∧R1 n7 n9 Z11)) ((([[iD n2,iD n3]]:List (List D)) =([[iD n2,iD n3]]:List (List D)))∧R1 n7 n9 Z11))))))))→R2 b6 Z11)→∃len2:Nat,(Len r2 len2)∧a_c (n6 ==(w64 ((len2:Int) - 1))) (a_c b1 ((([[iD n7,iD n9],[iD n2,iD n3],[iD n7,iD n8,iD n9],[iD n12,iD n13,iD n14]]:List (List D)) =([[iD n7,iD n9],[iD n2,iD n3],[iD n7,iD n8,iD n9],[iD n12,iD n13,iD n14]]:List (List D)))∧R2 ((n7 == n2) && (n9 == n3)) Z10) ((([[iD n7,iD n9],[iD n2,iD n3],[iD n7,iD n8,iD n9],[iD n12,iD n13,iD n14]]:List (List D)) =([[iD n7,iD n9],[iD n2,iD n3],[iD n7,iD n8,iD n9],[iD n12,iD n13,iD n14]]:List (List D)))∧R2 false Z10)) ((([[iD n7,iD n9],[iD n2,iD n3],[iD n7,iD n8,iD n9],[iD n12,iD n13,iD n14]]:List (List D)) =([[iD n7,iD n9],[iD n2,iD n3],[iD n7,iD n8,iD n9],[iD n12,iD n13,iD n14]]:List (List D)))∧R2 false Z10))))))) (a_c b1 (Qp (.a (.one (.bool ((n4 == n2) && (n5 == n3))))) Z5) (DCalls prog e_v [.one p1,iA n4,iA n5] Z5 (fun r7 Z6=>∃n7 n8:Int,∃b2:Bool,(r7=(.tup [iA n7,iA n8,bA b2]:RV))∧Qp (.a (bA (!b2))) Z6))))))→R Z2)→a_c (!b) (Qp (.a (bA false)) Z1) (a_c (!b1) (a_c (r1 !=(-1)) (Qp (.a (bA false)) Z1) (∃len:Nat,(Len r2 len)∧DCalls prog b_o [iA (len:Int),iA 1,iA 8] Z1 (fun r7 Z2=>∃b2:Bool,(r7=(.a (bA b2) :RV))∧a_c (!b2) (Qp (.a (bA false)) Z2) ((([[iD n,iD n1],[iD n2,iD n3]]:List (List D)) =([[iD n,iD n1],[iD n2,iD n3]]:List (List D)))∧R Z2)))) (∃len:Nat,(Len r2 len)∧DCalls prog b_o [iA (len:Int),iA 1,iA 8] Z1 (fun r7 Z2=>∃b2:Bool,(r7=(.a (bA b2) :RV))∧a_c (!b2) (Qp (.a (bA false)) Z2) ((([[iD n,iD n1],[iD n2,iD n3]]:List (List D)) =([[iD n,iD n1],[iD n2,iD n3]]:List (List D)))∧R Z2))))))
theorem t_w (p0 p1 p2 p3 p4:D)(p5 p6 p7 p8 r0 r1:Int)(r2 r3 r4:D)(r5:Bool)(σ:Store)(Qp:RV→Store→Prop)(h:t_9 p0 p1 p2 p3 p4 p5 p6 p7 p8 r0 r1 r2 r3 r4 r5 σ Qp) :DCalls prog g_r [.agg [p0,p1,p2,p3,p4,iD p5,iD p6,iD p7,iD p8], .agg [iD r0,iD r1,r2,r3,r4, .bool r5]] σ Qp:=
 a_b mixed (by kernel_rfl) Tryz.func78 r_k (Eq.mp (by kernel_rfl) h)
def r_q:Ann:= { }
def u_d (w:D)(σ:Store)(Qp:RV→Store→Prop) :Prop:=
 DCalls prog a_3 [.one w] σ (fun r Z=>∃s:ByteArray,(r=(.a (.one (.str s)) :RV))∧DCalls prog n_5 [.one (.str s)] Z (fun r1 Z1=>∃n:Int,∃d:D,(r1=(.tup [iA n, .one d]:RV))∧(a_l w)∧∃s1:D,∃i off:Nat,(w=(.el s1 i off:D))∧∃row:List D,(Row Z1 s1 i row)∧∃b:Bool,((List.take 1 (List.drop (off+1) row)) =([.bool b]:List D))∧a_c b ((a_l w)∧∃s2:D,∃i1 off1:Nat,(w=(.el s2 i1 off1:D))∧a_d [.bool true] Z1 s2 i1 (off1+1) (fun Z2=>Qp (.a (iA n)) Z2)) (∃b1:Bool,(j_2 .ic d b1)∧a_c (b1 != true) ((a_l w)∧∃s2:D,∃i1 off1:Nat,(w=(.el s2 i1 off1:D))∧a_d [.bool true] Z1 s2 i1 (off1+1) (fun Z2=>Qp (.a (iA n)) Z2)) (DCalls prog g_d [iA n] Z1 (fun r2 Z2=>∃s2:ByteArray,(r2=(.a (.one (.str s2)) :RV))∧(a_l w)∧∃s3:D,∃i1 off1:Nat,(w=(.el s3 i1 off1:D))∧a_d [.bool (!((ByteArray.toList s2) ==(ByteArray.toList s)))] Z2 s3 i1 (off1+1) (fun Z3=>Qp (.a (iA n)) Z3))))))
theorem t_m (w:D)(σ:Store)(Qp:RV→Store→Prop)(h:u_d w σ Qp) :DCalls prog a_a [.one w] σ Qp:=
 a_b mixed (by kernel_rfl) Tryz.func90 r_q (Eq.mp (by kernel_rfl) h)
def p_a:Ann:= { cbs:= [2] }
def p_2 (p0 p1 p2 p3 p4:D)(p5 p6 p7 p8 x:Int)(σ:Store)(Qp:RV→Store→Prop) :Prop:=
 a_c (decide (x < 0)) (Qp (.tup [.agg [iD 0,iD 0],bA false]) σ) (∃len:Nat,(Len p2 len)∧a_c (decide (x≥(len:Int))) (Qp (.tup [.agg [iD 0,iD 0],bA false]) σ) (∃len1:Nat,(Idx prog σ p2 2 len1)∧((0:Int)≤x)∧(x < (len1:Int))∧∃row:List D,(Row σ p2 (Int.toNat x) row)∧∃n n1:Int,((List.take 2 row) =([iD n,iD n1]:List D))∧Qp (.tup [.agg [iD n,iD n1],bA true]) σ))
theorem q_d (p0 p1 p2 p3 p4:D)(p5 p6 p7 p8 x:Int)(σ:Store)(Qp:RV→Store→Prop)(h:p_2 p0 p1 p2 p3 p4 p5 p6 p7 p8 x σ Qp) :DCalls prog c_k [.agg [p0,p1,p2,p3,p4,iD p5,iD p6,iD p7,iD p8],iA x] σ Qp:=
 a_b mixed (by kernel_rfl) Tryz.func97 p_a (Eq.mp (by kernel_rfl) h)
def h_6:Ann:= { }
def j_a (s f:D)(σ:Store)(Qp:RV→Store→Prop) :Prop:=
 DCalls prog d_w [.one s, .one f] σ (fun r Z=>∃n:Int,(r=(.a (iA n) :RV))∧Qp (.a (.one (.bool (decide (n≥0))))) Z)
theorem i_z (s f:D)(σ:Store)(Qp:RV→Store→Prop)(h:j_a s f σ Qp) :DCalls prog c_a [.one s, .one f] σ Qp:=
 a_b mixed (by kernel_rfl) Tryz.func101 h_6 (Eq.mp (by kernel_rfl) h)
def q_u:Ann:= { loops:= [(0,{ keep:= [0,1,2] })] }
def s_c (w:D)(word:ByteArray)(read:D)(σ:Store)(Qp:RV→Store→Prop) :Prop:=
 ∃I:Store→Prop,∃μ:Store→Nat,(I σ)∧∀Z,(I Z)→(a_l w)∧∃s:D,∃i off:Nat,(w=(.el s i off:D))∧∃row:List D,(Row Z s i row)∧∃b:Bool,((List.take 1 (List.drop (off+1) row)) =([.bool b]:List D))∧a_c (!b) ((a_l w)∧∃s1:D,∃i1 off1:Nat,(w=(.el s1 i1 off1:D))∧∃row1:List D,(Row Z s1 i1 row1)∧∃d:D,((List.take 1 (List.drop (off1+0) row1)) =([d]:List D))∧∃len:Nat,(Len d len)∧a_c (decide ((len:Int) > 0)) (a_c ((ByteArray.toList word) ==(ByteArray.toList (ByteArray.mk (List.toArray [])))) (∃f:FuncId,∃a:List (Bool × (List D)),∃b1:List (Bool × (List D)),∃as0':List A,∃bs:List A,(read=(.fn f a b1:D))∧((e_7 a) =(Option.some as0'))∧((e_7 b1) =(Option.some bs))∧DCalls prog f (HAppend.hAppend (HAppend.hAppend as0' []) bs) Z (fun r Z1=>(r=(.tup []:RV))∧(I Z1)∧((μ Z1) < (μ Z)))) ((a_l w)∧∃s2:D,∃i2 off2:Nat,(w=(.el s2 i2 off2:D))∧∃row2:List D,(Row Z s2 i2 row2)∧∃d1:D,((List.take 1 (List.drop (off2+0) row2)) =([d1]:List D))∧∃len1:Nat,(Idx prog Z d1 1 len1)∧((0:Int)≤0)∧((0:Int) < (len1:Int))∧∃row3:List D,(Row Z d1 0 row3)∧∃s3:ByteArray,((List.take 1 row3) =([.str s3]:List D))∧a_c (!((ByteArray.toList s3) ==(ByteArray.toList word))) (∃f:FuncId,∃a:List (Bool × (List D)),∃b1:List (Bool × (List D)),∃as0':List A,∃bs:List A,(read=(.fn f a b1:D))∧((e_7 a) =(Option.some as0'))∧((e_7 b1) =(Option.some bs))∧DCalls prog f (HAppend.hAppend (HAppend.hAppend as0' []) bs) Z (fun r Z1=>(r=(.tup []:RV))∧(I Z1)∧((μ Z1) < (μ Z)))) (a_c (!((ByteArray.toList word) ==(ByteArray.toList (ByteArray.mk (List.toArray []))))) (DCalls prog a_3 [.one w] Z (fun r Z1=>∃s4:ByteArray,(r=(.a (.one (.str s4)) :RV))∧a_c (!((ByteArray.toList s4) ==(ByteArray.toList word))) ((a_l w)∧∃s5:D,∃i3 off3:Nat,(w=(.el s5 i3 off3:D))∧a_d [.bool true] Z1 s5 i3 (off3+1) (fun Z2=>Qp (.tup []) Z2)) ((a_l w)∧∃s5:D,∃i3 off3:Nat,(w=(.el s5 i3 off3:D))∧∃row4:List D,(Row Z1 s5 i3 row4)∧∃b1:Bool,((List.take 1 (List.drop (off3+1) row4)) =([.bool b1]:List D))∧(a_l w)∧∃s6:D,∃i4 off4:Nat,(w=(.el s6 i4 off4:D))∧a_d [.bool b1] Z1 s6 i4 (off4+1) (fun Z2=>Qp (.tup []) Z2)))) (Qp (.tup []) Z)))) (a_c (!((ByteArray.toList word) ==(ByteArray.toList (ByteArray.mk (List.toArray []))))) (DCalls prog a_3 [.one w] Z (fun r Z1=>∃s2:ByteArray,(r=(.a (.one (.str s2)) :RV))∧a_c (!((ByteArray.toList s2) ==(ByteArray.toList word))) ((a_l w)∧∃s3:D,∃i2 off2:Nat,(w=(.el s3 i2 off2:D))∧a_d [.bool true] Z1 s3 i2 (off2+1) (fun Z2=>Qp (.tup []) Z2)) ((a_l w)∧∃s3:D,∃i2 off2:Nat,(w=(.el s3 i2 off2:D))∧∃row2:List D,(Row Z1 s3 i2 row2)∧∃b1:Bool,((List.take 1 (List.drop (off2+1) row2)) =([.bool b1]:List D))∧(a_l w)∧∃s4:D,∃i3 off3:Nat,(w=(.el s4 i3 off3:D))∧a_d [.bool b1] Z1 s4 i3 (off3+1) (fun Z2=>Qp (.tup []) Z2)))) (Qp (.tup []) Z))) (a_c (!((ByteArray.toList word) ==(ByteArray.toList (ByteArray.mk (List.toArray []))))) (DCalls prog a_3 [.one w] Z (fun r Z1=>∃s1:ByteArray,(r=(.a (.one (.str s1)) :RV))∧a_c (!((ByteArray.toList s1) ==(ByteArray.toList word))) ((a_l w)∧∃s2:D,∃i1 off1:Nat,(w=(.el s2 i1 off1:D))∧a_d [.bool true] Z1 s2 i1 (off1+1) (fun Z2=>Qp (.tup []) Z2)) ((a_l w)∧∃s2:D,∃i1 off1:Nat,(w=(.el s2 i1 off1:D))∧∃row1:List D,(Row Z1 s2 i1 row1)∧∃b1:Bool,((List.take 1 (List.drop (off1+1) row1)) =([.bool b1]:List D))∧(a_l w)∧∃s3:D,∃i2 off2:Nat,(w=(.el s3 i2 off2:D))∧a_d [.bool b1] Z1 s3 i2 (off2+1) (fun Z2=>Qp (.tup []) Z2)))) (Qp (.tup []) Z))
theorem r_2 (w:D)(word:ByteArray)(read:D)(σ:Store)(Qp:RV→Store→Prop)(h:s_c w word read σ Qp) :DCalls prog d_c [.one w, .one (.str word), .one read] σ Qp:=
 a_b mixed (by kernel_rfl) Tryz.func114 q_u (Eq.mp (by kernel_rfl) h)
def h_9:Ann:= { }
def i_r (s f:D)(σ:Store)(Qp:RV→Store→Prop) :Prop:=
 DCalls prog d_s [.one s, .one f] σ (fun r Z=>∃n:Int,(r=(.a (iA n) :RV))∧Qp (.a (.one (.bool (decide (n≥0))))) Z)
theorem i_5 (s f:D)(σ:Store)(Qp:RV→Store→Prop)(h:i_r s f σ Qp) :DCalls prog c_4 [.one s, .one f] σ Qp:=
 a_b mixed (by kernel_rfl) Tryz.func131 h_9 (Eq.mp (by kernel_rfl) h)
def k_a:Ann:= { loops:= [(2,{ mods:= [(8,s6)],keep:= [0,1,7] })] }
def k_4 (s f:D)(σ:Store)(Qp:RV→Store→Prop) :Prop:=
 ∃len:Nat,(Len s len)∧∃I:Int→Store→Prop,∃μ:Int→Store→Nat,(I 0 σ)∧∀n:Int,∀Z,(I n Z)→a_c (decide (n < (len:Int))) (∃len1:Nat,(Idx prog Z s 3 len1)∧((0:Int)≤n)∧(n < (len1:Int))∧∃row:List D,(Row Z s (Int.toNat n) row)∧∃n1 n2 n3:Int,((List.take 3 row) =([iD n1,iD n2,iD n3]:List D))∧∃f1:FuncId,∃a:List (Bool × (List D)),∃b:List (Bool × (List D)),∃as0':List A,∃bs:List A,(f=(.fn f1 a b:D))∧((e_7 a) =(Option.some as0'))∧((e_7 b) =(Option.some bs))∧DCalls prog f1 (HAppend.hAppend (HAppend.hAppend as0' [.agg [iD n1,iD n2,iD n3]]) bs) Z (fun r Z1=>∃b1:Bool,(r=(.a (bA b1) :RV))∧a_c b1 (Qp (.a (iA n)) Z1) ((I (w64 (n+1)) Z1)∧((μ (w64 (n+1)) Z1) < (μ n Z))))) (Qp (.a (iA (-1))) Z)
theorem k_y (s f:D)(σ:Store)(Qp:RV→Store→Prop)(h:k_4 s f σ Qp) :DCalls prog d_s [.one s, .one f] σ Qp:=
 a_b mixed (by kernel_rfl) Tryz.func152 k_a (Eq.mp (by kernel_rfl) h)
def f_y:Ann:= { }
def g_l (s suffix:ByteArray)(σ:Store)(Qp:RV→Store→Prop) :Prop:=
 a_c (decide ((ByteArray.size s:Int)≥(ByteArray.size suffix:Int))) (((0:Int)≤(w64 ((ByteArray.size s:Int) - (ByteArray.size suffix:Int))))∧((w64 ((ByteArray.size s:Int) - (ByteArray.size suffix:Int)))≤(ByteArray.size s:Int))∧Qp (.a (.one (.bool ((ByteArray.toList (ByteArray.extract s (Int.toNat (w64 ((ByteArray.size s:Int) - (ByteArray.size suffix:Int)))) (ByteArray.size s))) ==(ByteArray.toList suffix))))) σ) (Qp (.a (bA false)) σ)
theorem f_5 (s suffix:ByteArray)(σ:Store)(Qp:RV→Store→Prop)(h:g_l s suffix σ Qp) :DCalls prog c_b [.one (.str s), .one (.str suffix)] σ Qp:=
 a_b mixed (by kernel_rfl) Tryz.func108 f_y (Eq.mp (by kernel_rfl) h)
def h_y:Ann:= { }
def h_5 (b:D)(c:Int)(σ:Store)(Qp:RV→Store→Prop) :Prop:=
 DCalls prog b_5 [.one b] σ (fun r Z=>(r=(.tup []:RV))∧(a_l b)∧∃s:D,∃i off:Nat,(b=(.el s i off:D))∧∃row:List D,(Row Z s i row)∧∃d:D,((List.take 1 (List.drop (off+1) row)) =([d]:List D))∧Fw.newObj Z (.live a_s [[.int .u8 c]]) (fun id Z1=>a_e prog Z1 a_s 1 d (.osl id 0 1) (fun d1 Z2=>(a_l b)∧∃s1:D,∃i1 off1:Nat,(b=(.el s1 i1 off1:D))∧a_d [d1] Z2 s1 i1 (off1+1) (fun Z3=>Qp (.a (.one (.ifc false))) Z3))))
theorem i_f (b:D)(c:Int)(σ:Store)(Qp:RV→Store→Prop)(h:h_5 b c σ Qp) :DCalls prog c_y [.one b, .one (.int .u8 c)] σ Qp:=
 a_b mixed (by kernel_rfl) Tryz.func85 h_y (Eq.mp (by kernel_rfl) h)
end Go.Proofs.YtfdffboelecgoaaGreatDoor
end
section
set_option maxRecDepth 100000
namespace Go.Proofs.YtfdffboelecgoaaGreatDoor
open Go.Fw Go.Proofs
open Go.Proofs.Tryz (prog)
def p_w:Ann:= { cbs:= [3],draws:= [(3,{ ord:= [0,1,3,4,2,5,6,7,8,9,10,12,13,14,11,15,16,17],nb:= [3,12] }),(5,{ ord:= [0,1,3,4,6,7,2,5,8,9,10,11],nb:= [3,6] }),(18,{ ord:= [0,1,2,3,4,5,6,8,9,10,11,7,12,13,14,15,16,17,19,20,18,21,22,23,24],nb:= [8,11,19,20] }),(20,{ ord:= [0,1,2,3,4,5,6,7,8,9,10,11,12,13,14,15,16,17,18] })],loops:= [(7,{ mods:= [(45,s6)],keep:= [2,3,7,8,9,44] }),(15,{ mods:= [(70,s6)],keep:= [2,3,68,69] })],joins:= [(5,{ keep:= [1,2,3] }),(14,{ keep:= [2,3] })] }
def s_t (c0 c1 c2 c3 c4:D)(c5 c6 c7 c8 r k:Int)(σ:Store)(Qp:RV→Store→Prop) :Prop:=
 DCalls prog j_8 [] σ (fun r1 Z=>∃b:Bool,(r1=(.a (bA b) :RV))∧a_c (!b) (Qp (.a (bA false)) Z) (∀R:Store→Prop,(∀Z1,(DCalls prog b_9 [.agg [c0,c1,c2,c3,c4,iD c5,iD c6,iD c7,iD c8],iA r] Z1 (fun r2 Z2=>∃d:D,(r2=(.a (.one d) :RV))∧DCalls prog b_9 [.agg [c0,c1,c2,c3,c4,iD c5,iD c6,iD c7,iD c8],iA r] Z2 (fun r3 Z3=>∃d1:D,(r3=(.a (.one d1) :RV))∧DCalls prog f_a [.agg [c0,c1,c2,c3,c4,iD c5,iD c6,iD c7,iD c8],iA r] Z3 (fun r4 Z4=>∃d2:D,(r4=(.a (.one d2) :RV))∧∃len:Nat,(Len d len)∧∃I:Int→Store→Prop,∃μ:Int→Store→Nat,(I 0 Z4)∧∀n:Int,∀Z5,(I n Z5)→a_c (decide (n < (len:Int))) (∃len1:Nat,(Idx prog Z5 d 1 len1)∧((0:Int)≤n)∧(n < (len1:Int))∧a_d [iD (-9)] Z5 d (Int.toNat n) 0 (fun Z6=>(I (w64 (n+1)) Z6)∧((μ (w64 (n+1)) Z6) < (μ n Z5)))) (Fw.newObj Z5 (.live t_int [[iD (-9)]]) (fun id Z6=>a_e prog Z6 t_int 8 d (.osl id 0 1) (fun d3 Z7=>∀R1:Store→Prop,(∀Z8,(∃len1:Nat,(Len c4 len1)∧∃I1:Int→Store→Prop,∃μ1:Int→Store→Nat,(I1 0 Z8)∧∀n1:Int,∀Z9,(I1 n1 Z9)→a_c (decide (n1 < (len1:Int))) (∃len2:Nat,(Idx prog Z9 c4 6 len2)∧((0:Int)≤n1)∧(n1 < (len2:Int))∧∃row:List D,(Row Z9 c4 (Int.toNat n1) row)∧∃n2 n3:Int,∃d4 d5 d6:D,∃b1:Bool,((List.take 6 row) =([iD n2,iD n3,d4,d5,d6, .bool b1]:List D))∧Fw.newObj Z9 (.live a_i []) (fun id1 Z10=>a_e prog Z10 a_i 24 (.osl id1 0 0) d4 (fun d7 Z11=>Fw.newObj Z11 (.live a_i [[iD (-7),iD 0,iD 0]]) (fun id2 Z12=>a_e prog Z12 a_i 24 d7 (.osl id2 0 1) (fun d8 Z13=>∃len3:Nat,(Len d4 len3)∧∃len4:Nat,(IdxN prog Z13 d8 3 len4)∧((0:Int)≤0)∧((0:Int)≤(len3:Int))∧((len3:Int)≤(len4:Int))∧DCalls prog l_w [.agg [c0,c1,c2,c3,c4,iD c5,iD c6,iD c7,iD c8],iA k, .one (e_g d8 0 (Int.toNat (len3:Int)))] Z13 (fun r5 Z14=>∃d9:D,(r5=(.a (.one d9) :RV))∧DCalls prog j_7 [.agg [c0,c1,c2,c3,c4,iD c5,iD c6,iD c7,iD c8],iA k, .one d4] Z14 (fun r6 Z15=>∃d10:D,(r6=(.a (.one d10) :RV))∧DCalls prog g_c [.one d9, .one d10] Z15 (fun r7 Z16=>∃b2:Bool,(r7=(.a (bA b2) :RV))∧a_c (!b2) (Qp (.a (bA false)) Z16) (DCalls prog j_d [.agg [c0,c1,c2,c3,c4,iD c5,iD c6,iD c7,iD c8], .agg [iD n2,iD n3,d4,d5,d6, .bool b1]] Z16 (fun r8 Z17=>∃d11:D,(r8=(.a (.one d11) :RV))∧DCalls prog h_r [.agg [c0,c1,c2,c3,c4,iD c5,iD c6,iD c7,iD c8], .agg [iD n2,iD n3,d4,d5,d6, .bool b1]] Z17 (fun r9 Z18=>∃d12:D,(r9=(.a (.one d12) :RV))∧DCalls prog d_t [.one d11, .one d12] Z18 (fun r10 Z19=>∃b3:Bool,(r10=(.a (bA b3) :RV))∧a_c (!b3) (Qp (.a (bA false)) Z19) (∃len5:Nat,(Len d4 len5)∧∃len6:Nat,(IdxN prog Z19 d8 3 len6)∧((0:Int)≤0)∧((0:Int)≤(len5:Int))∧((len5:Int)≤(len6:Int))∧DCalls prog f_2 [.one (e_g d8 0 (Int.toNat (len5:Int))), .one d4] Z19 (fun r11 Z20=>∃b4:Bool,(r11=(.a (bA b4) :RV))∧a_c (!b4) (Qp (.a (bA false)) Z20) (∃len7:Nat,(Len d4 len7)∧∃len8:Nat,(Idx prog Z20 d8 3 len8)∧((0:Int)≤(len7:Int))∧((len7:Int) < (len8:Int))∧∃row1:List D,(Row Z20 d8 (Int.toNat (len7:Int)) row1)∧∃n4:Int,((List.take 1 row1) =([iD n4]:List D))∧a_c (n4 !=(-7)) (Qp (.a (bA false)) Z20) ((I1 (w64 (n1+1)) Z20)∧((μ1 (w64 (n1+1)) Z20) < (μ1 n1 Z9)))))))))))))))))) (Qp (.a (bA true)) Z9))→R1 Z8)→DCalls prog d_t [.one d1, .one d2] Z7 (fun r5 Z8=>∃b1:Bool,(r5=(.a (bA b1) :RV))∧a_c (!b1) (Qp (.a (bA false)) Z8) (∃len1:Nat,(Len d3 len1)∧∃len2:Nat,(Len d2 len2)∧a_c ((len1:Int) !=(w64 ((len2:Int) +1))) (Qp (.a (bA false)) Z8) (R1 Z8))))))))))→R Z1)→DCalls prog f_j [.agg [c0,c1,c2,c3,c4,iD c5,iD c6,iD c7,iD c8],iA r] Z (fun r2 Z1=>∃n:Int,(r2=(.a (iA n) :RV))∧DCalls prog g_t [.agg [c0,c1,c2,c3,c4,iD c5,iD c6,iD c7,iD c8],iA r] Z1 (fun r3 Z2=>∃n1:Int,(r3=(.a (iA n1) :RV))∧a_c (n != n1) (Qp (.a (bA false)) Z2) (DCalls prog f_g [.agg [c0,c1,c2,c3,c4,iD c5,iD c6,iD c7,iD c8],iA r,iA k] Z2 (fun r4 Z3=>∃b1:Bool,(r4=(.a (bA b1) :RV))∧DCalls prog g_0 [.agg [c0,c1,c2,c3,c4,iD c5,iD c6,iD c7,iD c8],iA r,iA k] Z3 (fun r5 Z4=>∃b2:Bool,(r5=(.a (bA b2) :RV))∧a_c (!(b1 == b2)) (Qp (.a (bA false)) Z4) (R Z4))))))))
theorem r_4 (c0 c1 c2 c3 c4:D)(c5 c6 c7 c8 r k:Int)(σ:Store)(Qp:RV→Store→Prop)(h:s_t c0 c1 c2 c3 c4 c5 c6 c7 c8 r k σ Qp) :DCalls prog j_r [.agg [c0,c1,c2,c3,c4,iD c5,iD c6,iD c7,iD c8],iA r,iA k] σ Qp:=
 a_b mixed (by kernel_rfl) Tryz.func8 p_w (Eq.mp (by kernel_rfl) h)
def y_8:Ann:= { cbs:= [1],loops:= [(11,{ mods:= [(33,s6)],keep:= [1,3,31,32] })] }
def a_a1 (c0 c1 c2 c3 c4:D)(c5 c6 c7 c8:Int)(σ:Store)(Qp:RV→Store→Prop) :Prop:=
 DCalls prog l_m [.one c0, .one c1] σ (fun r Z=>∃n:Int,(r=(.a (iA n) :RV))∧a_c (n != 0) (Qp (.a (iA 6)) Z) (DCalls prog e_4 [.agg [c0,c1,c2,c3,c4,iD c5,iD c6,iD c7,iD c8]] Z (fun r1 Z1=>∃b:Bool,(r1=(.a (bA b) :RV))∧a_c (!b) (Qp (.a (iA 7)) Z1) (DCalls prog e_d [.agg [c0,c1,c2,c3,c4,iD c5,iD c6,iD c7,iD c8]] Z1 (fun r2 Z2=>∃b1:Bool,(r2=(.a (bA b1) :RV))∧a_c (!b1) (Qp (.a (iA 8)) Z2) (∃len:Nat,(Len c4 len)∧a_c (decide ((len:Int) > 12)) (Qp (.a (iA 9)) Z2) (∃len1:Nat,(Len c4 len1)∧∃I:Int→Store→Prop,∃μ:Int→Store→Nat,(I 0 Z2)∧∀n1:Int,∀Z3,(I n1 Z3)→a_c (decide (n1 < (len1:Int))) (∃len2:Nat,(Idx prog Z3 c4 6 len2)∧((0:Int)≤n1)∧(n1 < (len2:Int))∧∃row:List D,(Row Z3 c4 (Int.toNat n1) row)∧∃n2 n3:Int,∃d d1 d2:D,∃b2:Bool,((List.take 6 row) =([iD n2,iD n3,d,d1,d2, .bool b2]:List D))∧DCalls prog f_8 [.agg [c0,c1,c2,c3,c4,iD c5,iD c6,iD c7,iD c8], .agg [iD n2,iD n3,d,d1,d2, .bool b2]] Z3 (fun r3 Z4=>∃n4:Int,(r3=(.a (iA n4) :RV))∧a_c (n4 != 0) (Qp (.a (iA n4)) Z4) ((([[c0,c1,c2,c3,c4,iD c5,iD c6,iD c7,iD c8]]:List (List D)) =([[c0,c1,c2,c3,c4,iD c5,iD c6,iD c7,iD c8]]:List (List D)))∧(I (w64 (n1+1)) Z4)∧((μ (w64 (n1+1)) Z4) < (μ n1 Z3))))) (DCalls prog b_o [iA c5,iA 1,iA 8] Z3 (fun r3 Z4=>∃b2:Bool,(r3=(.a (bA b2) :RV))∧a_c (!b2) (Qp (.a (iA 12)) Z4) (DCalls prog b_o [iA c6,iA 0,iA 8] Z4 (fun r4 Z5=>∃b3:Bool,(r4=(.a (bA b3) :RV))∧a_c (!b3) (Qp (.a (iA 12)) Z5) (DCalls prog b_o [iA c7, .one (iD (w64 ((w64 (c5+c6)) +1))),iA 40] Z5 (fun r5 Z6=>∃b4:Bool,(r5=(.a (bA b4) :RV))∧a_c (!b4) (Qp (.a (iA 12)) Z6) (DCalls prog b_o [iA c8,iA 1,iA 1000000] Z6 (fun r6 Z7=>∃b5:Bool,(r6=(.a (bA b5) :RV))∧a_c (!b5) (Qp (.a (iA 12)) Z7) (Qp (.a (iA 0)) Z7))))))))))))))))
theorem a_a0 (c0 c1 c2 c3 c4:D)(c5 c6 c7 c8:Int)(σ:Store)(Qp:RV→Store→Prop)(h:a_a1 c0 c1 c2 c3 c4 c5 c6 c7 c8 σ Qp) :DCalls prog m_b [.agg [c0,c1,c2,c3,c4,iD c5,iD c6,iD c7,iD c8]] σ Qp:=
 a_b mixed (by kernel_rfl) Tryz.func12 y_8 (Eq.mp (by kernel_rfl) h)
def t_c:Ann:= { cbs:= [2],draws:= [(3,{ ord:= [0,1,2,3,4,5,6,7,8] })] }
def v_o (c0 c1 c2 c3 c4:D)(c5 c6 c7 c8 r:Int)(σ:Store)(Qp:RV→Store→Prop) :Prop:=
 a_c (decide (r < 0)) (Qp (.a (iA (-1))) σ) (∃len:Nat,(Len c4 len)∧a_c (decide (r≥(len:Int))) (Qp (.a (iA (-1))) σ) (∃len1:Nat,(Idx prog σ c4 6 len1)∧((0:Int)≤r)∧(r < (len1:Int))∧∃row:List D,(Row σ c4 (Int.toNat r) row)∧∃n n1:Int,∃d d1 d2:D,∃b:Bool,((List.take 6 row) =([iD n,iD n1,d,d1,d2, .bool b]:List D))∧DCalls prog c_q [.agg [c0,c1,c2,c3,c4,iD c5,iD c6,iD c7,iD c8], .agg [iD n,iD n1,d,d1,d2, .bool b]] σ (fun r1 Z=>∃n2:Int,(r1=(.a (iA n2) :RV))∧Qp (.a (iA n2)) Z)))
theorem v_d (c0 c1 c2 c3 c4:D)(c5 c6 c7 c8 r:Int)(σ:Store)(Qp:RV→Store→Prop)(h:v_o c0 c1 c2 c3 c4 c5 c6 c7 c8 r σ Qp) :DCalls prog f_j [.agg [c0,c1,c2,c3,c4,iD c5,iD c6,iD c7,iD c8],iA r] σ Qp:=
 a_b mixed (by kernel_rfl) Tryz.func21 t_c (Eq.mp (by kernel_rfl) h)
def x_y:Ann:= { cbs:= [2],loops:= [(6,{ mods:= [(6,SlotSh.one (Sh.any)),(34,s6)],keep:= [5,32,33] }),(13,{ mods:= [(9,SlotSh.one (Sh.any)),(50,s6)],keep:= [48,49] }),(17,{ mods:= [(12,s6)],keep:= [9,11,48,49,50] })],joins:= [(3,{ keep:= [1,2] })] }
def y_3 (c0 c1 c2 c3 c4:D)(c5 c6 c7 c8 r:Int)(σ:Store)(Qp:RV→Store→Prop) :Prop:=
 ∀R:Store→Prop,(∀Z,(∃len:Nat,(Idx prog Z c4 6 len)∧((0:Int)≤r)∧(r < (len:Int))∧∃row:List D,(Row Z c4 (Int.toNat r) row)∧∃n n1:Int,∃d d1 d2:D,∃b:Bool,((List.take 6 row) =([iD n,iD n1,d,d1,d2, .bool b]:List D))∧DCalls prog b_3 [.one d] Z (fun r1 Z1=>∃d3:D,(r1=(.a (.one d3) :RV))∧∃len1:Nat,(Len d1 len1)∧∃I:D→Int→Store→Prop,∃μ:D→Int→Store→Nat,(I d3 0 Z1)∧∀d4:D,∀n2:Int,∀Z2,(I d4 n2 Z2)→a_c (decide (n2 < (len1:Int))) (∃len2:Nat,(Idx prog Z2 d1 2 len2)∧((0:Int)≤n2)∧(n2 < (len2:Int))∧∃row1:List D,(Row Z2 d1 (Int.toNat n2) row1)∧∃n3 n4:Int,((List.take 2 row1) =([iD n3,iD n4]:List D))∧Fw.newObj Z2 (.live t_int [[iD n3]]) (fun id Z3=>a_e prog Z3 t_int 8 d4 (.osl id 0 1) (fun d5 Z4=>(([[iD n,iD n1,d,d1,d2, .bool b]]:List (List D)) =([[iD n,iD n1,d,d1,d2, .bool b]]:List (List D)))∧(I d5 (w64 (n2+1)) Z4)∧((μ d5 (w64 (n2+1)) Z4) < (μ d4 n2 Z2))))) (a_e prog Z2 t_int 8 d4 d2 (fun d5 Z3=>∃len2:Nat,(Len d5 len2)∧∃I1:D→Int→Store→Prop,∃μ1:D→Int→Store→Nat,(I1 .nils 0 Z3)∧∀d6:D,∀n3:Int,∀Z4,(I1 d6 n3 Z4)→a_c (decide (n3 < (len2:Int))) (∃len3:Nat,(Idx prog Z4 d5 1 len3)∧((0:Int)≤n3)∧(n3 < (len3:Int))∧∃row1:List D,(Row Z4 d5 (Int.toNat n3) row1)∧∃n4:Int,((List.take 1 row1) =([iD n4]:List D))∧DCalls prog c_3 [.one d6,iA n4] Z4 (fun r2 Z5=>∃b1:Bool,(r2=(.a (bA b1) :RV))∧a_c b1 ((I1 d6 (w64 (n3+1)) Z5)∧((μ1 d6 (w64 (n3+1)) Z5) < (μ1 d6 n3 Z4))) (∃len4:Nat,(Len d6 len4)∧∃I2:Int→Store→Prop,∃μ2:Int→Store→Nat,(I2 (len4:Int) Z5)∧∀n5:Int,∀Z6,(I2 n5 Z6)→a_c (decide (n5 > 0)) (∃len5:Nat,(Idx prog Z6 d6 1 len5)∧((0:Int)≤(w64 (n5 - 1)))∧((w64 (n5 - 1)) < (len5:Int))∧∃row2:List D,(Row Z6 d6 (Int.toNat (w64 (n5 - 1))) row2)∧∃n6:Int,((List.take 1 row2) =([iD n6]:List D))∧a_c (decide (n6 > n4)) ((I2 (w64 (n5 - 1)) Z6)∧((μ2 (w64 (n5 - 1)) Z6) < (μ2 n5 Z6))) (∃len6:Nat,(IdxN prog Z6 d6 1 len6)∧((0:Int)≤0)∧((0:Int)≤n5)∧(n5≤(len6:Int))∧a_e prog Z6 t_int 8 .nils (e_g d6 0 (Int.toNat n5)) (fun d7 Z7=>Fw.newObj Z7 (.live t_int [[iD n4]]) (fun id Z8=>a_e prog Z8 t_int 8 d7 (.osl id 0 1) (fun d8 Z9=>∃len7:Nat,(IdxN prog Z9 d6 1 len7)∧((0:Int)≤n5)∧(n5≤(len7:Int))∧a_e prog Z9 t_int 8 d8 (e_g d6 (Int.toNat n5) len7) (fun d9 Z10=>(I1 d9 (w64 (n3+1)) Z10)∧((μ1 d9 (w64 (n3+1)) Z10) < (μ1 d6 n3 Z4)))))))) (∃len5:Nat,(IdxN prog Z6 d6 1 len5)∧((0:Int)≤0)∧((0:Int)≤n5)∧(n5≤(len5:Int))∧a_e prog Z6 t_int 8 .nils (e_g d6 0 (Int.toNat n5)) (fun d7 Z7=>Fw.newObj Z7 (.live t_int [[iD n4]]) (fun id Z8=>a_e prog Z8 t_int 8 d7 (.osl id 0 1) (fun d8 Z9=>∃len6:Nat,(IdxN prog Z9 d6 1 len6)∧((0:Int)≤n5)∧(n5≤(len6:Int))∧a_e prog Z9 t_int 8 d8 (e_g d6 (Int.toNat n5) len6) (fun d9 Z10=>(I1 d9 (w64 (n3+1)) Z10)∧((μ1 d9 (w64 (n3+1)) Z10) < (μ1 d6 n3 Z4)))))))))) (Qp (.a (.one d6)) Z4)))))→R Z)→a_c (decide (r < 0)) (Qp (.a (.one .nils)) σ) (∃len:Nat,(Len c4 len)∧a_c (decide (r≥(len:Int))) (Qp (.a (.one .nils)) σ) (R σ))
theorem z_f (c0 c1 c2 c3 c4:D)(c5 c6 c7 c8 r:Int)(σ:Store)(Qp:RV→Store→Prop)(h:y_3 c0 c1 c2 c3 c4 c5 c6 c7 c8 r σ Qp) :DCalls prog f_a [.agg [c0,c1,c2,c3,c4,iD c5,iD c6,iD c7,iD c8],iA r] σ Qp:=
 a_b mixed (by kernel_rfl) Tryz.func25 x_y (Eq.mp (by kernel_rfl) h)
def v_r:Ann:= { cbs:= [2,3] }
def x_4 (c0 c1 c2 c3 c4:D)(c5 c6 c7 c8 route0 route1:Int)(route2 route3 route4:D)(route5:Bool)(σ:Store)(Qp:RV→Store→Prop) :Prop:=
 DCalls prog d_p [.agg [c0,c1,c2,c3,c4,iD c5,iD c6,iD c7,iD c8], .agg [iD route0,iD route1,route2,route3,route4, .bool route5]] σ (fun r Z=>∃d:D,(r=(.a (.one d) :RV))∧Qp (.a (.one d)) Z)
theorem x_2 (c0 c1 c2 c3 c4:D)(c5 c6 c7 c8 route0 route1:Int)(route2 route3 route4:D)(route5:Bool)(σ:Store)(Qp:RV→Store→Prop)(h:x_4 c0 c1 c2 c3 c4 c5 c6 c7 c8 route0 route1 route2 route3 route4 route5 σ Qp) :DCalls prog j_d [.agg [c0,c1,c2,c3,c4,iD c5,iD c6,iD c7,iD c8], .agg [iD route0,iD route1,route2,route3,route4, .bool route5]] σ Qp:=
 a_b mixed (by kernel_rfl) Tryz.func29 v_r (Eq.mp (by kernel_rfl) h)
def a_e7:Ann:= { loops:= [(2,{ mods:= [(15,s6)],keep:= [1,2,13,14] })] }
def a_gv (kind in_ out_:Int)(σ:Store)(Qp:RV→Store→Prop) :Prop:=
 DCalls prog j_y [iA kind] σ (fun r Z=>∃d:D,(r=(.a (.one d) :RV))∧∃len:Nat,(Len d len)∧∃I:Int→Store→Prop,∃μ:Int→Store→Nat,(I 0 Z)∧∀n:Int,∀Z1,(I n Z1)→a_c (decide (n < (len:Int))) (∃len1:Nat,(Idx prog Z1 d 3 len1)∧((0:Int)≤n)∧(n < (len1:Int))∧∃row:List D,(Row Z1 d (Int.toNat n) row)∧∃n1 n2 n3:Int,((List.take 3 row) =([iD n1,iD n2,iD n3]:List D))∧DCalls prog g_2 [.agg [iD n1,iD n2,iD n3],iA in_] Z1 (fun r1 Z2=>∃n4:Int,∃b:Bool,(r1=(.tup [iA n4,bA b]:RV))∧a_c b (a_c (n4 == out_) (Qp (.tup [iA n3,bA true]) Z2) ((I (w64 (n+1)) Z2)∧((μ (w64 (n+1)) Z2) < (μ n Z1)))) ((I (w64 (n+1)) Z2)∧((μ (w64 (n+1)) Z2) < (μ n Z1))))) (Qp (.tup [iA 0,bA false]) Z1))
theorem a_hl (kind in_ out_:Int)(σ:Store)(Qp:RV→Store→Prop)(h:a_gv kind in_ out_ σ Qp) :DCalls prog q_7 [iA kind,iA in_,iA out_] σ Qp:=
 a_b mixed (by kernel_rfl) Tryz.func33 a_e7 (Eq.mp (by kernel_rfl) h)
def y_r:Ann:= { draws:= [(10,{ ord:= [0,1,2,3,4,5,6,7,8,9,10,11,12,13,14,15,16,17,18,19,20,21,22,23,24,25,26],nb:= [9] }),(12,{ ord:= [0,1,2,3,4,5,6] })],loops:= [(5,{ mods:= [(25,s6)],keep:= [0,5,23,24] }),(8,{ mods:= [(41,s6)],keep:= [0,5,7,23,24,25,39,40] }),(19,{ mods:= [(88,s6)],keep:= [5,10,86,87] })],joins:= [(3,{ keep:= [0,1] }),(23,{ keep:= [5,10,11,12,86,87,88] })] }
def a_bh (sections joints:D)(σ:Store)(Qp:RV→Store→Prop) :Prop:=
 ∀R:Store→Prop,(∀Z,(Fw.newObj Z (.mp 0 []) (fun id Z1=>∃len:Nat,(Len joints len)∧∃I:Int→Store→Prop,∃μ:Int→Store→Nat,(I 0 Z1)∧∀n:Int,∀Z2,(I n Z2)→a_c (decide (n < (len:Int))) (∃len1:Nat,(Idx prog Z2 joints 4 len1)∧((0:Int)≤n)∧(n < (len1:Int))∧∃row:List D,(Row Z2 joints (Int.toNat n) row)∧∃n1 n2 n3 n4:Int,((List.take 4 row) =([iD n1,iD n2,iD n3,iD n4]:List D))∧Fw.newObj Z2 (.live b_w [[iD n1,iD n2],[iD n3,iD n4]]) (fun id1 Z3=>∃len2:Nat,(Len (.osl id1 0 2) len2)∧∃I1:Int→Store→Prop,∃μ1:Int→Store→Nat,(I1 0 Z3)∧∀n5:Int,∀Z4,(I1 n5 Z4)→a_c (decide (n5 < (len2:Int))) (∃len3:Nat,(Idx prog Z4 (.osl id1 0 2) 2 len3)∧((0:Int)≤n5)∧(n5 < (len3:Int))∧∃row1:List D,(Row Z4 (.osl id1 0 2) (Int.toNat n5) row1)∧∃n6 n7:Int,((List.take 2 row1) =([iD n6,iD n7]:List D))∧∃len4:Nat,(Len sections len4)∧DCalls prog c_5 [iA n6,iA 0, .one (iD (w64 ((len4:Int) - 1)))] Z4 (fun r Z5=>∃b:Bool,(r=(.a (bA b) :RV))∧a_c (!b) (Qp (.a (iA 6)) Z5) (∃len5:Nat,(Idx prog Z5 sections 3 len5)∧((0:Int)≤n6)∧(n6 < (len5:Int))∧∃row2:List D,(Row Z5 sections (Int.toNat n6) row2)∧∃n8:Int,((List.take 1 row2) =([iD n8]:List D))∧DCalls prog h_h [iA n8] Z5 (fun r1 Z6=>∃n9:Int,(r1=(.a (iA n9) :RV))∧DCalls prog c_5 [iA n7,iA 0, .one (iD (w64 (n9 - 1)))] Z6 (fun r2 Z7=>∃b1:Bool,(r2=(.a (bA b1) :RV))∧a_c (!b1) (Qp (.a (iA 6)) Z7) (∃r3:Option A,(h_e prog b_w Z7 (.omap id) (.agg [iD n6,iD n7]) r3)∧∃n10:Int,((Option.getD r3 (iA 0)) =(iA n10:A))∧a_c (decide (n10 > 0)) (Qp (.a (iA 6)) Z7) (∃r4:Option A,(h_e prog b_w Z7 (.omap id) (.agg [iD n6,iD n7]) r4)∧∃n11:Int,((Option.getD r4 (iA 0)) =(iA n11:A))∧a_b4 prog b_w Z7 (.omap id) (.agg [iD n6,iD n7]) (iA 0) (fun (v:A)=>fun n12 Z8=>w_4 Z8 (.omap id) n12 (.one (iD (w64 (n11+1)))) (fun Z9=>(([[iD n1,iD n2,iD n3,iD n4]]:List (List D)) =([[iD n1,iD n2,iD n3,iD n4]]:List (List D)))∧(I1 (w64 (n5+1)) Z9)∧((μ1 (w64 (n5+1)) Z9) < (μ1 n5 Z4))))))))))) (a_c (n1 == n3) (Qp (.a (iA 6)) Z4) ((I (w64 (n+1)) Z4)∧((μ (w64 (n+1)) Z4) < (μ n Z2)))))) (Fw.newObj Z2 (.mp 0 []) (fun id1 Z3=>∃len1:Nat,(Len sections len1)∧∃I1:Int→Store→Prop,∃μ1:Int→Store→Nat,(I1 0 Z3)∧∀n1:Int,∀Z4,(I1 n1 Z4)→a_c (decide (n1 < (len1:Int))) (∃len2:Nat,(Idx prog Z4 sections 3 len2)∧((0:Int)≤n1)∧(n1 < (len2:Int))∧∃row:List D,(Row Z4 sections (Int.toNat n1) row)∧∃n2 n3 n4:Int,((List.take 3 row) =([iD n2,iD n3,iD n4]:List D))∧∀R1:Store→Prop,(∀Z5,(a_c (n4 != 0) (a_c (n2 != 0) (Qp (.a (iA 6)) Z5) (∃r:Option A,(h_e prog b_w Z5 (.omap id) (.agg [iD n1,iD 1]) r)∧∃n5:Int,((Option.getD r (iA 0)) =(iA n5:A))∧a_c (decide (n5 > 0)) (Qp (.a (iA 6)) Z5) (∃r1:Option A,(h_e prog t_int Z5 (.omap id1) (iA n4) r1)∧∃n6:Int,((Option.getD r1 (iA 0)) =(iA n6:A))∧a_c (decide (n6 > 0)) (Qp (.a (iA 6)) Z5) (∃r2:Option A,(h_e prog t_int Z5 (.omap id1) (iA n4) r2)∧∃n7:Int,((Option.getD r2 (iA 0)) =(iA n7:A))∧MPut prog t_int Z5 (.omap id1) (iA n4) (.one (iD (w64 (n7+1)))) (fun Z6=>(I1 (w64 (n1+1)) Z6)∧((μ1 (w64 (n1+1)) Z6) < (μ1 n1 Z4))))))) (∃r:Option A,(h_e prog t_int Z5 (.omap id1) (iA n4) r)∧∃n5:Int,((Option.getD r (iA 0)) =(iA n5:A))∧MPut prog t_int Z5 (.omap id1) (iA n4) (.one (iD (w64 (n5+1)))) (fun Z6=>(I1 (w64 (n1+1)) Z6)∧((μ1 (w64 (n1+1)) Z6) < (μ1 n1 Z4)))))→R1 Z5)→DCalls prog h_h [iA n2] Z4 (fun r Z5=>∃n5:Int,(r=(.a (iA n5) :RV))∧a_c (n5 == 0) (Qp (.a (iA 6)) Z5) (DCalls prog c_5 [iA n3,iA 0,iA 3] Z5 (fun r1 Z6=>∃b:Bool,(r1=(.a (bA b) :RV))∧a_c (!b) (Qp (.a (iA 6)) Z6) (DCalls prog c_5 [iA n4,iA 0,iA 3] Z6 (fun r2 Z7=>∃b1:Bool,(r2=(.a (bA b1) :RV))∧a_c (!b1) (Qp (.a (iA 6)) Z7) ((([[iD n2,iD n3,iD n4]]:List (List D)) =([[iD n2,iD n3,iD n4]]:List (List D)))∧R1 Z7))))))) (Qp (.a (iA 0)) Z4)))))→R Z)→∃len:Nat,(Len sections len)∧DCalls prog c_5 [iA (len:Int),iA 1,iA 16] σ (fun r Z=>∃b:Bool,(r=(.a (bA b) :RV))∧a_c (!b) (Qp (.a (iA 6)) Z) (∃len1:Nat,(Len joints len1)∧a_c (decide ((len1:Int) > 24)) (Qp (.a (iA 6)) Z) (R Z)))
theorem a_co (sections joints:D)(σ:Store)(Qp:RV→Store→Prop)(h:a_bh sections joints σ Qp) :DCalls prog l_m [.one sections, .one joints] σ Qp:=
 a_b mixed (by kernel_rfl) Tryz.func37 y_r (Eq.mp (by kernel_rfl) h)
def u_9:Ann:= { }
def x_i (n lo hi:Int)(σ:Store)(Qp:RV→Store→Prop) :Prop:=
 a_c (decide (lo≤n)) (Qp (.a (.one (.bool (decide (n≤hi))))) σ) (Qp (.a (bA false)) σ)
theorem w_5 (n lo hi:Int)(σ:Store)(Qp:RV→Store→Prop)(h:x_i n lo hi σ Qp) :DCalls prog b_o [iA n,iA lo,iA hi] σ Qp:=
 a_b mixed (by kernel_rfl) Tryz.func41 u_9 (Eq.mp (by kernel_rfl) h)
def q_l:Ann:= { joins:= [(4,{ keep:= [] }),(7,{ keep:= [] }),(10,{ keep:= [] }),(13,{ keep:= [] }),(16,{ keep:= [] })],splits:= [(3,(DT.split 4 6 (DT.leaf { ord:= [0,1,2,3,4,5,7,9,6,8,10,11,12,13,14,15,16] }) (DT.split 4 8 (DT.leaf { ord:= [0,1,2,3,5,7,9,6,4,8,10,11,12,13,14,15,16] }) (DT.split 4 10 (DT.leaf { ord:= [0,1,2,3,5,7,9,6,8,4,10,11,12,13,14,15,16] }) (DT.leaf { ord:= [0,1,2,3,5,7,9,6,8,10,4,11,12,13,14,15,16] }))))),(6,(DT.split 4 6 (DT.leaf { ord:= [0,1,2,3,4,5,7,9,11,6,8,10,12,13,14,15,16,17,18] }) (DT.split 4 8 (DT.leaf { ord:= [0,1,2,3,5,7,9,11,6,4,8,10,12,13,14,15,16,17,18] }) (DT.split 4 10 (DT.leaf { ord:= [0,1,2,3,5,7,9,11,6,8,4,10,12,13,14,15,16,17,18] }) (DT.split 4 12 (DT.leaf { ord:= [0,1,2,3,5,7,9,11,6,8,10,4,12,13,14,15,16,17,18] }) (DT.leaf { ord:= [0,1,2,3,5,7,9,11,6,8,10,12,4,13,14,15,16,17,18] })))))),(9,(DT.split 4 6 (DT.leaf { ord:= [0,1,2,3,4,5,7,6,8,9,10,11,12,13,14] }) (DT.split 4 8 (DT.leaf { ord:= [0,1,2,3,5,7,6,4,8,9,10,11,12,13,14] }) (DT.leaf { ord:= [0,1,2,3,5,7,6,8,4,9,10,11,12,13,14] })))),(12,(DT.split 4 6 (DT.leaf { ord:= [0,1,2,3,4,5,6,7,8,9,10,11] }) (DT.leaf { ord:= [0,1,2,3,5,6,4,7,8,9,10,11] }))),(15,(DT.split 4 6 (DT.leaf { ord:= [0,1,2,3,4,5,6,7,8,9,10,11] }) (DT.leaf { ord:= [0,1,2,3,5,6,4,7,8,9,10,11] })))] }
def r_w (w c:D)(σ:Store)(Qp:RV→Store→Prop) :Prop:=
 DCalls prog a_3 [.one w] σ (fun r Z=>∃s:ByteArray,(r=(.a (.one (.str s)) :RV))∧a_c ((ByteArray.toList s) ==(ByteArray.toList (ByteArray.mk (List.toArray [115,101,99,116,105,111,110])))) (∀R:Store→Prop,(∀Z1,(Qp (.a (iA 1)) Z1)→R Z1)→((a_l c)∧∃s1:D,∃i off:Nat,(c=(.el s1 i off:D))∧∃row:List D,(Row Z s1 i row)∧∃d:D,((List.take 1 (List.drop (off+0) row)) =([d]:List D))∧DCalls prog a_a [.one w] Z (fun r1 Z1=>∃n:Int,(r1=(.a (iA n) :RV))∧DCalls prog a_a [.one w] Z1 (fun r2 Z2=>∃n1:Int,(r2=(.a (iA n1) :RV))∧DCalls prog a_a [.one w] Z2 (fun r3 Z3=>∃n2:Int,(r3=(.a (iA n2) :RV))∧Fw.newObj Z3 (.live a_2 [[iD n,iD n1,iD n2]]) (fun id Z4=>a_e prog Z4 a_2 24 d (.osl id 0 1) (fun d1 Z5=>(a_l c)∧∃s2:D,∃i1 off1:Nat,(c=(.el s2 i1 off1:D))∧a_d [d1] Z5 s2 i1 (off1+0) (fun Z6=>R Z6)))))))∧((a_l c)∧∃s1:D,∃i off:Nat,(c=(.el s1 i off:D))∧DCalls prog a_a [.one w] Z (fun r1 Z1=>∃n:Int,(r1=(.a (iA n) :RV))∧∃row:List D,(Row Z1 s1 i row)∧∃d:D,((List.take 1 (List.drop (off+0) row)) =([d]:List D))∧DCalls prog a_a [.one w] Z1 (fun r2 Z2=>∃n1:Int,(r2=(.a (iA n1) :RV))∧DCalls prog a_a [.one w] Z2 (fun r3 Z3=>∃n2:Int,(r3=(.a (iA n2) :RV))∧Fw.newObj Z3 (.live a_2 [[iD n,iD n1,iD n2]]) (fun id Z4=>a_e prog Z4 a_2 24 d (.osl id 0 1) (fun d1 Z5=>(a_l c)∧∃s2:D,∃i1 off1:Nat,(c=(.el s2 i1 off1:D))∧a_d [d1] Z5 s2 i1 (off1+0) (fun Z6=>R Z6)))))))∧((a_l c)∧∃s1:D,∃i off:Nat,(c=(.el s1 i off:D))∧DCalls prog a_a [.one w] Z (fun r1 Z1=>∃n:Int,(r1=(.a (iA n) :RV))∧DCalls prog a_a [.one w] Z1 (fun r2 Z2=>∃n1:Int,(r2=(.a (iA n1) :RV))∧∃row:List D,(Row Z2 s1 i row)∧∃d:D,((List.take 1 (List.drop (off+0) row)) =([d]:List D))∧DCalls prog a_a [.one w] Z2 (fun r3 Z3=>∃n2:Int,(r3=(.a (iA n2) :RV))∧Fw.newObj Z3 (.live a_2 [[iD n,iD n1,iD n2]]) (fun id Z4=>a_e prog Z4 a_2 24 d (.osl id 0 1) (fun d1 Z5=>(a_l c)∧∃s2:D,∃i1 off1:Nat,(c=(.el s2 i1 off1:D))∧a_d [d1] Z5 s2 i1 (off1+0) (fun Z6=>R Z6)))))))∧(a_l c)∧∃s1:D,∃i off:Nat,(c=(.el s1 i off:D))∧DCalls prog a_a [.one w] Z (fun r1 Z1=>∃n:Int,(r1=(.a (iA n) :RV))∧DCalls prog a_a [.one w] Z1 (fun r2 Z2=>∃n1:Int,(r2=(.a (iA n1) :RV))∧DCalls prog a_a [.one w] Z2 (fun r3 Z3=>∃n2:Int,(r3=(.a (iA n2) :RV))∧∃row:List D,(Row Z3 s1 i row)∧∃d:D,((List.take 1 (List.drop (off+0) row)) =([d]:List D))∧Fw.newObj Z3 (.live a_2 [[iD n,iD n1,iD n2]]) (fun id Z4=>a_e prog Z4 a_2 24 d (.osl id 0 1) (fun d1 Z5=>(a_l c)∧∃s2:D,∃i1 off1:Nat,(c=(.el s2 i1 off1:D))∧a_d [d1] Z5 s2 i1 (off1+0) (fun Z6=>R Z6))))))) (a_c ((ByteArray.toList s) ==(ByteArray.toList (ByteArray.mk (List.toArray [106,111,105,110,116])))) (∀R:Store→Prop,(∀Z1,(Qp (.a (iA 2)) Z1)→R Z1)→((a_l c)∧∃s1:D,∃i off:Nat,(c=(.el s1 i off:D))∧∃row:List D,(Row Z s1 i row)∧∃d:D,((List.take 1 (List.drop (off+1) row)) =([d]:List D))∧DCalls prog a_a [.one w] Z (fun r1 Z1=>∃n:Int,(r1=(.a (iA n) :RV))∧DCalls prog a_a [.one w] Z1 (fun r2 Z2=>∃n1:Int,(r2=(.a (iA n1) :RV))∧DCalls prog a_a [.one w] Z2 (fun r3 Z3=>∃n2:Int,(r3=(.a (iA n2) :RV))∧DCalls prog a_a [.one w] Z3 (fun r4 Z4=>∃n3:Int,(r4=(.a (iA n3) :RV))∧Fw.newObj Z4 (.live b_v [[iD n,iD n1,iD n2,iD n3]]) (fun id Z5=>a_e prog Z5 b_v 32 d (.osl id 0 1) (fun d1 Z6=>(a_l c)∧∃s2:D,∃i1 off1:Nat,(c=(.el s2 i1 off1:D))∧a_d [d1] Z6 s2 i1 (off1+1) (fun Z7=>R Z7))))))))∧((a_l c)∧∃s1:D,∃i off:Nat,(c=(.el s1 i off:D))∧DCalls prog a_a [.one w] Z (fun r1 Z1=>∃n:Int,(r1=(.a (iA n) :RV))∧∃row:List D,(Row Z1 s1 i row)∧∃d:D,((List.take 1 (List.drop (off+1) row)) =([d]:List D))∧DCalls prog a_a [.one w] Z1 (fun r2 Z2=>∃n1:Int,(r2=(.a (iA n1) :RV))∧DCalls prog a_a [.one w] Z2 (fun r3 Z3=>∃n2:Int,(r3=(.a (iA n2) :RV))∧DCalls prog a_a [.one w] Z3 (fun r4 Z4=>∃n3:Int,(r4=(.a (iA n3) :RV))∧Fw.newObj Z4 (.live b_v [[iD n,iD n1,iD n2,iD n3]]) (fun id Z5=>a_e prog Z5 b_v 32 d (.osl id 0 1) (fun d1 Z6=>(a_l c)∧∃s2:D,∃i1 off1:Nat,(c=(.el s2 i1 off1:D))∧a_d [d1] Z6 s2 i1 (off1+1) (fun Z7=>R Z7))))))))∧((a_l c)∧∃s1:D,∃i off:Nat,(c=(.el s1 i off:D))∧DCalls prog a_a [.one w] Z (fun r1 Z1=>∃n:Int,(r1=(.a (iA n) :RV))∧DCalls prog a_a [.one w] Z1 (fun r2 Z2=>∃n1:Int,(r2=(.a (iA n1) :RV))∧∃row:List D,(Row Z2 s1 i row)∧∃d:D,((List.take 1 (List.drop (off+1) row)) =([d]:List D))∧DCalls prog a_a [.one w] Z2 (fun r3 Z3=>∃n2:Int,(r3=(.a (iA n2) :RV))∧DCalls prog a_a [.one w] Z3 (fun r4 Z4=>∃n3:Int,(r4=(.a (iA n3) :RV))∧Fw.newObj Z4 (.live b_v [[iD n,iD n1,iD n2,iD n3]]) (fun id Z5=>a_e prog Z5 b_v 32 d (.osl id 0 1) (fun d1 Z6=>(a_l c)∧∃s2:D,∃i1 off1:Nat,(c=(.el s2 i1 off1:D))∧a_d [d1] Z6 s2 i1 (off1+1) (fun Z7=>R Z7))))))))∧((a_l c)∧∃s1:D,∃i off:Nat,(c=(.el s1 i off:D))∧DCalls prog a_a [.one w] Z (fun r1 Z1=>∃n:Int,(r1=(.a (iA n) :RV))∧DCalls prog a_a [.one w] Z1 (fun r2 Z2=>∃n1:Int,(r2=(.a (iA n1) :RV))∧DCalls prog a_a [.one w] Z2 (fun r3 Z3=>∃n2:Int,(r3=(.a (iA n2) :RV))∧∃row:List D,(Row Z3 s1 i row)∧∃d:D,((List.take 1 (List.drop (off+1) row)) =([d]:List D))∧DCalls prog a_a [.one w] Z3 (fun r4 Z4=>∃n3:Int,(r4=(.a (iA n3) :RV))∧Fw.newObj Z4 (.live b_v [[iD n,iD n1,iD n2,iD n3]]) (fun id Z5=>a_e prog Z5 b_v 32 d (.osl id 0 1) (fun d1 Z6=>(a_l c)∧∃s2:D,∃i1 off1:Nat,(c=(.el s2 i1 off1:D))∧a_d [d1] Z6 s2 i1 (off1+1) (fun Z7=>R Z7))))))))∧(a_l c)∧∃s1:D,∃i off:Nat,(c=(.el s1 i off:D))∧DCalls prog a_a [.one w] Z (fun r1 Z1=>∃n:Int,(r1=(.a (iA n) :RV))∧DCalls prog a_a [.one w] Z1 (fun r2 Z2=>∃n1:Int,(r2=(.a (iA n1) :RV))∧DCalls prog a_a [.one w] Z2 (fun r3 Z3=>∃n2:Int,(r3=(.a (iA n2) :RV))∧DCalls prog a_a [.one w] Z3 (fun r4 Z4=>∃n3:Int,(r4=(.a (iA n3) :RV))∧∃row:List D,(Row Z4 s1 i row)∧∃d:D,((List.take 1 (List.drop (off+1) row)) =([d]:List D))∧Fw.newObj Z4 (.live b_v [[iD n,iD n1,iD n2,iD n3]]) (fun id Z5=>a_e prog Z5 b_v 32 d (.osl id 0 1) (fun d1 Z6=>(a_l c)∧∃s2:D,∃i1 off1:Nat,(c=(.el s2 i1 off1:D))∧a_d [d1] Z6 s2 i1 (off1+1) (fun Z7=>R Z7)))))))) (a_c ((ByteArray.toList s) ==(ByteArray.toList (ByteArray.mk (List.toArray [115,105,103,110,97,108])))) (∀R:Store→Prop,(∀Z1,(Qp (.a (iA 3)) Z1)→R Z1)→((a_l c)∧∃s1:D,∃i off:Nat,(c=(.el s1 i off:D))∧∃row:List D,(Row Z s1 i row)∧∃d:D,((List.take 1 (List.drop (off+2) row)) =([d]:List D))∧DCalls prog a_a [.one w] Z (fun r1 Z1=>∃n:Int,(r1=(.a (iA n) :RV))∧DCalls prog a_a [.one w] Z1 (fun r2 Z2=>∃n1:Int,(r2=(.a (iA n1) :RV))∧Fw.newObj Z2 (.live b_b [[iD n,iD n1]]) (fun id Z3=>a_e prog Z3 b_b 16 d (.osl id 0 1) (fun d1 Z4=>(a_l c)∧∃s2:D,∃i1 off1:Nat,(c=(.el s2 i1 off1:D))∧a_d [d1] Z4 s2 i1 (off1+2) (fun Z5=>R Z5))))))∧((a_l c)∧∃s1:D,∃i off:Nat,(c=(.el s1 i off:D))∧DCalls prog a_a [.one w] Z (fun r1 Z1=>∃n:Int,(r1=(.a (iA n) :RV))∧∃row:List D,(Row Z1 s1 i row)∧∃d:D,((List.take 1 (List.drop (off+2) row)) =([d]:List D))∧DCalls prog a_a [.one w] Z1 (fun r2 Z2=>∃n1:Int,(r2=(.a (iA n1) :RV))∧Fw.newObj Z2 (.live b_b [[iD n,iD n1]]) (fun id Z3=>a_e prog Z3 b_b 16 d (.osl id 0 1) (fun d1 Z4=>(a_l c)∧∃s2:D,∃i1 off1:Nat,(c=(.el s2 i1 off1:D))∧a_d [d1] Z4 s2 i1 (off1+2) (fun Z5=>R Z5))))))∧(a_l c)∧∃s1:D,∃i off:Nat,(c=(.el s1 i off:D))∧DCalls prog a_a [.one w] Z (fun r1 Z1=>∃n:Int,(r1=(.a (iA n) :RV))∧DCalls prog a_a [.one w] Z1 (fun r2 Z2=>∃n1:Int,(r2=(.a (iA n1) :RV))∧∃row:List D,(Row Z2 s1 i row)∧∃d:D,((List.take 1 (List.drop (off+2) row)) =([d]:List D))∧Fw.newObj Z2 (.live b_b [[iD n,iD n1]]) (fun id Z3=>a_e prog Z3 b_b 16 d (.osl id 0 1) (fun d1 Z4=>(a_l c)∧∃s2:D,∃i1 off1:Nat,(c=(.el s2 i1 off1:D))∧a_d [d1] Z4 s2 i1 (off1+2) (fun Z5=>R Z5)))))) (a_c ((ByteArray.toList s) ==(ByteArray.toList (ByteArray.mk (List.toArray [99,114,111,115,115,105,110,103])))) (∀R:Store→Prop,(∀Z1,(Qp (.a (iA 4)) Z1)→R Z1)→((a_l c)∧∃s1:D,∃i off:Nat,(c=(.el s1 i off:D))∧∃row:List D,(Row Z s1 i row)∧∃d:D,((List.take 1 (List.drop (off+3) row)) =([d]:List D))∧DCalls prog a_a [.one w] Z (fun r1 Z1=>∃n:Int,(r1=(.a (iA n) :RV))∧Fw.newObj Z1 (.live t_int [[iD n]]) (fun id Z2=>a_e prog Z2 t_int 8 d (.osl id 0 1) (fun d1 Z3=>(a_l c)∧∃s2:D,∃i1 off1:Nat,(c=(.el s2 i1 off1:D))∧a_d [d1] Z3 s2 i1 (off1+3) (fun Z4=>R Z4)))))∧(a_l c)∧∃s1:D,∃i off:Nat,(c=(.el s1 i off:D))∧DCalls prog a_a [.one w] Z (fun r1 Z1=>∃n:Int,(r1=(.a (iA n) :RV))∧∃row:List D,(Row Z1 s1 i row)∧∃d:D,((List.take 1 (List.drop (off+3) row)) =([d]:List D))∧Fw.newObj Z1 (.live t_int [[iD n]]) (fun id Z2=>a_e prog Z2 t_int 8 d (.osl id 0 1) (fun d1 Z3=>(a_l c)∧∃s2:D,∃i1 off1:Nat,(c=(.el s2 i1 off1:D))∧a_d [d1] Z3 s2 i1 (off1+3) (fun Z4=>R Z4))))) (a_c ((ByteArray.toList s) ==(ByteArray.toList (ByteArray.mk (List.toArray [114,111,117,116,101])))) (∀R:Store→Prop,(∀Z1,(Qp (.a (iA 5)) Z1)→R Z1)→((a_l c)∧∃s1:D,∃i off:Nat,(c=(.el s1 i off:D))∧∃row:List D,(Row Z s1 i row)∧∃d:D,((List.take 1 (List.drop (off+4) row)) =([d]:List D))∧DCalls prog c_1 [.one w] Z (fun r1 Z1=>∃n n1:Int,∃d1 d2 d3:D,∃b:Bool,(r1=(.a (.agg [iD n,iD n1,d1,d2,d3, .bool b]) :RV))∧Fw.newObj Z1 (.live a_w [[iD n,iD n1,d1,d2,d3, .bool b]]) (fun id Z2=>a_e prog Z2 a_w 96 d (.osl id 0 1) (fun d4 Z3=>(a_l c)∧∃s2:D,∃i1 off1:Nat,(c=(.el s2 i1 off1:D))∧a_d [d4] Z3 s2 i1 (off1+4) (fun Z4=>R Z4)))))∧(a_l c)∧∃s1:D,∃i off:Nat,(c=(.el s1 i off:D))∧DCalls prog c_1 [.one w] Z (fun r1 Z1=>∃n n1:Int,∃d d1 d2:D,∃b:Bool,(r1=(.a (.agg [iD n,iD n1,d,d1,d2, .bool b]) :RV))∧∃row:List D,(Row Z1 s1 i row)∧∃d3:D,((List.take 1 (List.drop (off+4) row)) =([d3]:List D))∧Fw.newObj Z1 (.live a_w [[iD n,iD n1,d,d1,d2, .bool b]]) (fun id Z2=>a_e prog Z2 a_w 96 d3 (.osl id 0 1) (fun d4 Z3=>(a_l c)∧∃s2:D,∃i1 off1:Nat,(c=(.el s2 i1 off1:D))∧a_d [d4] Z3 s2 i1 (off1+4) (fun Z4=>R Z4))))) (a_c ((ByteArray.toList s) ==(ByteArray.toList (ByteArray.mk (List.toArray [116,105,109,105,110,103])))) (DCalls prog a_a [.one w] Z (fun r1 Z1=>∃n:Int,(r1=(.a (iA n) :RV))∧DCalls prog a_a [.one w] Z1 (fun r2 Z2=>∃n1:Int,(r2=(.a (iA n1) :RV))∧DCalls prog a_a [.one w] Z2 (fun r3 Z3=>∃n2:Int,(r3=(.a (iA n2) :RV))∧DCalls prog a_a [.one w] Z3 (fun r4 Z4=>∃n3:Int,(r4=(.a (iA n3) :RV))∧(a_l c)∧∃s1:D,∃i off:Nat,(c=(.el s1 i off:D))∧a_d [iD n,iD n1,iD n2,iD n3] Z4 s1 i (off+5) (fun Z5=>Qp (.a (iA 6)) Z5)))))) ((a_l w)∧∃s1:D,∃i off:Nat,(w=(.el s1 i off:D))∧a_d [.bool true] Z s1 i (off+1) (fun Z1=>Qp (.a (iA 0)) Z1))))))))
theorem r_x (w c:D)(σ:Store)(Qp:RV→Store→Prop)(h:r_w w c σ Qp) :DCalls prog g_b [.one w, .one c] σ Qp:=
 a_b mixed (by kernel_rfl) Tryz.func53 q_l (Eq.mp (by kernel_rfl) h)
def p_h:Ann:= { }
def q_k (s:D)(σ:Store)(Qp:RV→Store→Prop) :Prop:=
 ∃b:Bool,(j_2 .sl s b)∧a_c (b != false) (Qp (.a (.one .nils)) σ) (Fw.newObj σ (.live t_int []) (fun id Z=>a_e prog Z t_int 8 (.osl id 0 0) s (fun d Z1=>Qp (.a (.one d)) Z1)))
theorem q_p (s:D)(σ:Store)(Qp:RV→Store→Prop)(h:q_k s σ Qp) :DCalls prog f_q [.one s] σ Qp:=
 a_b mixed (by kernel_rfl) Tryz.func57 p_h (Eq.mp (by kernel_rfl) h)
def r_e:Ann:= { }
def r_r (s:Int)(a1:D)(σ:Store)(Qp:RV→Store→Prop) :Prop:=
 ∃s1:D,∃i off:Nat,(a1=(.el s1 i off:D))∧∃row:List D,(Row σ s1 i row)∧∃d:D,((List.take 1 (List.drop off row)) =([d]:List D))∧DCalls prog e_b [.one d,iA s] σ (fun r Z=>∃b:Bool,(r=(.a (bA b) :RV))∧Qp (.a (bA b)) Z)
theorem r_s (s:Int)(a1:D)(σ:Store)(Qp:RV→Store→Prop)(h:r_r s a1 σ Qp) :DCalls prog f_7 [iA s, .one a1] σ Qp:=
 a_b mixed (by kernel_rfl) Tryz.func62 r_e (Eq.mp (by kernel_rfl) h)
def q_6:Ann:= { esc:= [13],cbs:= [3],loops:= [(3,{ mods:= [(7,SlotSh.one (Sh.any)),(20,s6)],keep:= [1,2,3,18,19] }),(8,{ mods:= [(7,SlotSh.one (Sh.any)),(36,s6)],keep:= [1,2,3,9,18,19,20,35] })],joins:= [(11,{ keep:= [1,2,3,7,9,12,18,19,20,35,36] }),(14,{ keep:= [1,2,3,7,9,13,14,18,19,20,35,36] })] }
def r_m (p0 p1 p2 p3 p4:D)(p5 p6 p7 p8 approach:Int)(path:D)(σ:Store)(Qp:RV→Store→Prop) :Prop:=
 ∃len:Nat,(Len path len)∧∃I:D→Int→Store→Prop,∃μ:D→Int→Store→Nat,(I .nils 0 σ)∧∀d:D,∀n:Int,∀Z,(I d n Z)→a_c (decide (n < (len:Int))) (∃len1:Nat,(Idx prog Z path 3 len1)∧((0:Int)≤n)∧(n < (len1:Int))∧∃row:List D,(Row Z path (Int.toNat n) row)∧∃n1 n2 n3:Int,((List.take 3 row) =([iD n1,iD n2,iD n3]:List D))∧DCalls prog b_r [.agg [p0,p1,p2,p3,p4,iD p5,iD p6,iD p7,iD p8],iA n1] Z (fun r Z1=>∃n4 n5 n6:Int,∃b:Bool,(r=(.tup [.agg [iD n4,iD n5,iD n6],bA b]:RV))∧a_c (!b) ((I d (w64 (n+1)) Z1)∧((μ d (w64 (n+1)) Z1) < (μ d n Z))) (DCalls prog h_h [iA n4] Z1 (fun r1 Z2=>∃n7:Int,(r1=(.a (iA n7) :RV))∧∃I1:D→Int→Store→Prop,∃μ1:D→Int→Store→Nat,(I1 d 0 Z2)∧∀d1:D,∀n8:Int,∀Z3,(I1 d1 n8 Z3)→a_c (decide (n8 < n7)) (∀R:Store→Prop,(∀Z4,(DCalls prog e_v [.one p1,iA n1,iA n8] Z4 (fun r2 Z5=>∃n9 n10:Int,∃b1:Bool,(r2=(.tup [iA n9,iA n10,bA b1]:RV))∧Fw.newObj Z5 (.live t_int [[iD 0]]) (fun id Z6=>a_d [iD n9] Z6 (.osl id 0 1) 0 0 (fun Z7=>∃row1:List D,(Row Z7 (.osl id 0 1) 0 row1)∧∃n11:Int,((List.take 1 row1) =([iD n11]:List D))∧DCalls prog b_r [.agg [p0,p1,p2,p3,p4,iD p5,iD p6,iD p7,iD p8],iA n11] Z7 (fun r3 Z8=>∃n12 n13 n14:Int,∃b2:Bool,(r3=(.tup [.agg [iD n12,iD n13,iD n14],bA b2]:RV))∧∀R1:Store→Prop,(∀Z9,(∃row2:List D,(Row Z9 (.osl id 0 1) 0 row2)∧∃n15:Int,((List.take 1 row2) =([iD n15]:List D))∧Fw.newObj Z9 (.live a_r [[iD n15,iD (w64 (3 - n10))]]) (fun id1 Z10=>a_e prog Z10 a_r 16 d1 (.osl id1 0 1) (fun d2 Z11=>(([[iD n1,iD n2,iD n3]]:List (List D)) =([[iD n1,iD n2,iD n3]]:List (List D)))∧(I1 d2 (w64 (n8+1)) Z11)∧((μ1 d2 (w64 (n8+1)) Z11) < (μ1 d1 n8 Z3)))))→R1 Z9)→a_c (!b1) ((([[iD n1,iD n2,iD n3]]:List (List D)) =([[iD n1,iD n2,iD n3]]:List (List D)))∧(I1 d1 (w64 (n8+1)) Z8)∧((μ1 d1 (w64 (n8+1)) Z8) < (μ1 d1 n8 Z3))) (a_c (!b2) ((([[iD n1,iD n2,iD n3]]:List (List D)) =([[iD n1,iD n2,iD n3]]:List (List D)))∧(I1 d1 (w64 (n8+1)) Z8)∧((μ1 d1 (w64 (n8+1)) Z8) < (μ1 d1 n8 Z3))) (a_c (n12 != 1) ((([[iD n1,iD n2,iD n3]]:List (List D)) =([[iD n1,iD n2,iD n3]]:List (List D)))∧(I1 d1 (w64 (n8+1)) Z8)∧((μ1 d1 (w64 (n8+1)) Z8) < (μ1 d1 n8 Z3))) (a_c (decide (n10 < 1)) ((([[iD n1,iD n2,iD n3]]:List (List D)) =([[iD n1,iD n2,iD n3]]:List (List D)))∧(I1 d1 (w64 (n8+1)) Z8)∧((μ1 d1 (w64 (n8+1)) Z8) < (μ1 d1 n8 Z3))) (a_c (decide (n10 > 2)) ((([[iD n1,iD n2,iD n3]]:List (List D)) =([[iD n1,iD n2,iD n3]]:List (List D)))∧(I1 d1 (w64 (n8+1)) Z8)∧((μ1 d1 (w64 (n8+1)) Z8) < (μ1 d1 n8 Z3))) (∃row2:List D,(Row Z8 (.osl id 0 1) 0 row2)∧∃n15:Int,((List.take 1 row2) =([iD n15]:List D))∧a_c (n15 == approach) ((([[iD n1,iD n2,iD n3]]:List (List D)) =([[iD n1,iD n2,iD n3]]:List (List D)))∧(I1 d1 (w64 (n8+1)) Z8)∧((μ1 d1 (w64 (n8+1)) Z8) < (μ1 d1 n8 Z3))) (∃row3:List D,(Row Z8 (.osl id 0 1) 0 row3)∧∃n16:Int,((List.take 1 row3) =([iD n16]:List D))∧DCalls prog l_o [.one path,iA n16] Z8 (fun r4 Z9=>∃b3:Bool,(r4=(.a (bA b3) :RV))∧a_c b3 ((([[iD n1,iD n2,iD n3]]:List (List D)) =([[iD n1,iD n2,iD n3]]:List (List D)))∧(I1 d1 (w64 (n8+1)) Z9)∧((μ1 d1 (w64 (n8+1)) Z9) < (μ1 d1 n8 Z3))) (DCalls prog c_a [.one d1, .one (.fn e_1 [] [(false,[.el (.osl id 0 1) 0 0])])] Z9 (fun r5 Z10=>∃b4:Bool,(r5=(.a (bA b4) :RV))∧a_c b4 ((([[iD n1,iD n2,iD n3]]:List (List D)) =([[iD n1,iD n2,iD n3]]:List (List D)))∧(I1 d1 (w64 (n8+1)) Z10)∧((μ1 d1 (w64 (n8+1)) Z10) < (μ1 d1 n8 Z3))) ((([[iD n1,iD n2,iD n3]]:List (List D)) =([[iD n1,iD n2,iD n3]]:List (List D)))∧R1 Z10)))))))))))))))→R Z4)→a_c (n8 == n2) ((([[iD n1,iD n2,iD n3]]:List (List D)) =([[iD n1,iD n2,iD n3]]:List (List D)))∧(I1 d1 (w64 (n8+1)) Z3)∧((μ1 d1 (w64 (n8+1)) Z3) < (μ1 d1 n8 Z3))) (a_c (n8 == n3) ((([[iD n1,iD n2,iD n3]]:List (List D)) =([[iD n1,iD n2,iD n3]]:List (List D)))∧(I1 d1 (w64 (n8+1)) Z3)∧((μ1 d1 (w64 (n8+1)) Z3) < (μ1 d1 n8 Z3))) ((([[iD n1,iD n2,iD n3]]:List (List D)) =([[iD n1,iD n2,iD n3]]:List (List D)))∧R Z3))) ((I d1 (w64 (n+1)) Z3)∧((μ d1 (w64 (n+1)) Z3) < (μ d n Z))))))) (Qp (.a (.one d)) Z)
theorem j_q (p0 p1 p2 p3 p4:D)(p5 p6 p7 p8 approach:Int)(path:D)(σ:Store)(Qp:RV→Store→Prop)(h:r_m p0 p1 p2 p3 p4 p5 p6 p7 p8 approach path σ Qp) :DCalls prog d_j [.agg [p0,p1,p2,p3,p4,iD p5,iD p6,iD p7,iD p8],iA approach, .one path] σ Qp:=
 a_b mixed (by kernel_rfl) Tryz.func66 q_6 (Eq.mp (by kernel_rfl) h)
def n_u:Ann:= { cbs:= [2,3],joins:= [(4,{ keep:= [2,3,5] })] }
def p_g (p0 p1 p2 p3 p4:D)(p5 p6 p7 p8 r0 r1:Int)(r2 r3 r4:D)(r5:Bool)(σ:Store)(Qp:RV→Store→Prop) :Prop:=
 DCalls prog c_k [.agg [p0,p1,p2,p3,p4,iD p5,iD p6,iD p7,iD p8],iA r1] σ (fun r Z=>∃n n1:Int,∃b:Bool,(r=(.tup [.agg [iD n,iD n1],bA b]:RV))∧∀R:Store→Prop,(∀Z1,(DCalls prog e_v [.one p1,iA n,iA n1] Z1 (fun r6 Z2=>∃n2 n3:Int,∃b1:Bool,(r6=(.tup [iA n2,iA n3,bA b1]:RV))∧DCalls prog b_r [.agg [p0,p1,p2,p3,p4,iD p5,iD p6,iD p7,iD p8],iA n2] Z2 (fun r7 Z3=>∃n4 n5 n6:Int,∃b2:Bool,(r7=(.tup [.agg [iD n4,iD n5,iD n6],bA b2]:RV))∧a_c (!b1) (Qp (.a (.one .nils)) Z3) (a_c (!b2) (Qp (.a (.one .nils)) Z3) (a_c (n6 != 0) (Qp (.a (.one .nils)) Z3) (DCalls prog l_o [.one r2,iA n2] Z3 (fun r8 Z4=>∃b3:Bool,(r8=(.a (bA b3) :RV))∧a_c b3 (Qp (.a (.one .nils)) Z4) (DCalls prog c_q [.agg [p0,p1,p2,p3,p4,iD p5,iD p6,iD p7,iD p8], .agg [iD r0,iD r1,r2,r3,r4, .bool r5]] Z4 (fun r9 Z5=>∃n7:Int,(r9=(.a (iA n7) :RV))∧a_c (n2 == n7) (Qp (.a (.one .nils)) Z5) (Fw.newObj Z5 (.live t_int [[iD n2]]) (fun id Z6=>Qp (.a (.one (.osl id 0 1))) Z6)))))))))))→R Z1)→a_c r5 (Qp (.a (.one .nils)) Z) (a_c (!b) (Qp (.a (.one .nils)) Z) ((([[iD n,iD n1]]:List (List D)) =([[iD n,iD n1]]:List (List D)))∧R Z)))
theorem o_8 (p0 p1 p2 p3 p4:D)(p5 p6 p7 p8 r0 r1:Int)(r2 r3 r4:D)(r5:Bool)(σ:Store)(Qp:RV→Store→Prop)(h:p_g p0 p1 p2 p3 p4 p5 p6 p7 p8 r0 r1 r2 r3 r4 r5 σ Qp) :DCalls prog d_p [.agg [p0,p1,p2,p3,p4,iD p5,iD p6,iD p7,iD p8], .agg [iD r0,iD r1,r2,r3,r4, .bool r5]] σ Qp:=
 a_b mixed (by kernel_rfl) Tryz.func70 n_u (Eq.mp (by kernel_rfl) h)
def a_b3:Ann:= { loops:= [(3,{ mods:= [(3,s6),(9,s6)],keep:= [7,8] })] }
def a_fc (kind:Int)(σ:Store)(Qp:RV→Store→Prop) :Prop:=
 DCalls prog j_y [iA kind] σ (fun r Z=>∃d:D,(r=(.a (.one d) :RV))∧∃len:Nat,(Len d len)∧∃I:Int→Int→Store→Prop,∃μ:Int→Int→Store→Nat,(I 0 0 Z)∧∀n n1:Int,∀Z1,(I n n1 Z1)→a_c (decide (n1 < (len:Int))) (∃len1:Nat,(Idx prog Z1 d 3 len1)∧((0:Int)≤n1)∧(n1 < (len1:Int))∧∃row:List D,(Row Z1 d (Int.toNat n1) row)∧∃n2 n3 n4:Int,((List.take 3 row) =([iD n2,iD n3,iD n4]:List D))∧((0:Int)≤0)∧((0:Int) < (2:Int))∧((0:Int)≤1)∧((1:Int) < (2:Int))∧(I (ite ((w64 (n3+1)) > (ite ((w64 (n2+1)) > n) (w64 (n2+1)) n)) (w64 (n3+1)) (ite ((w64 (n2+1)) > n) (w64 (n2+1)) n)) (w64 (n1+1)) Z1)∧((μ (ite ((w64 (n3+1)) > (ite ((w64 (n2+1)) > n) (w64 (n2+1)) n)) (w64 (n3+1)) (ite ((w64 (n2+1)) > n) (w64 (n2+1)) n)) (w64 (n1+1)) Z1) < (μ n n1 Z1))) (Qp (.a (iA n)) Z1))
theorem a_dj (kind:Int)(σ:Store)(Qp:RV→Store→Prop)(h:a_fc kind σ Qp) :DCalls prog h_h [iA kind] σ Qp:=
 a_b mixed (by kernel_rfl) Tryz.func74 a_b3 (Eq.mp (by kernel_rfl) h)
def n_r:Ann:= { draws:= [(6,{ ord:= [0,1,2,3,4,5,6,7,8] })],loops:= [(4,{ mods:= [(13,s6)],keep:= [0,1,12] })] }
def o_9 (s1 s2:D)(σ:Store)(Qp:RV→Store→Prop) :Prop:=
 ∃len:Nat,(Len s1 len)∧∃len1:Nat,(Len s2 len1)∧a_c ((len:Int) !=(len1:Int)) (Qp (.a (bA false)) σ) (∃len2:Nat,(Len s1 len2)∧∃I:Int→Store→Prop,∃μ:Int→Store→Nat,(I 0 σ)∧∀n:Int,∀Z,(I n Z)→a_c (decide (n < (len2:Int))) (∃len3:Nat,(Idx prog Z s1 2 len3)∧((0:Int)≤n)∧(n < (len3:Int))∧∃row:List D,(Row Z s1 (Int.toNat n) row)∧∃n1 n2:Int,((List.take 2 row) =([iD n1,iD n2]:List D))∧∃len4:Nat,(Idx prog Z s2 2 len4)∧((0:Int)≤n)∧(n < (len4:Int))∧∃row1:List D,(Row Z s2 (Int.toNat n) row1)∧∃n3 n4:Int,((List.take 2 row1) =([iD n3,iD n4]:List D))∧a_c (!((n1 == n3) && (n2 == n4))) (Qp (.a (bA false)) Z) ((I (w64 (n+1)) Z)∧((μ (w64 (n+1)) Z) < (μ n Z)))) (Qp (.a (bA true)) Z))
theorem o_2 (s1 s2:D)(σ:Store)(Qp:RV→Store→Prop)(h:o_9 s1 s2 σ Qp) :DCalls prog e_5 [.one s1, .one s2] σ Qp:=
 a_b mixed (by kernel_rfl) Tryz.func79 n_r (Eq.mp (by kernel_rfl) h)
def o_x:Ann:= { esc:= [3,1],joins:= [(2,{ mods:= [(3,sQ)],keep:= [1,2] }),(5,{ keep:= [1,2,3] })],splits:= [(1,(DT.split 2 1 (DT.split 1 5 (DT.split 3 5 (DT.leaf { ord:= [0,2,1,3,4,5,6] }) (DT.leaf { ord:= [0,2,1,5,3,4,6] })) (DT.leaf { ord:= [0,2,5,1,3,4,6] })) (DT.split 1 5 (DT.split 3 5 (DT.leaf { ord:= [0,1,2,3,4,5,6] }) (DT.leaf { ord:= [0,1,2,5,3,4,6] })) (DT.leaf { ord:= [0,5,1,2,3,4,6] })))),(4,(DT.split 0 12 (DT.leaf { ord:= [0,1,2,3,4,5,6,7,8,9,10,11,12,13,14,15,16,17],sp:= [7] }) (DT.leaf { ord:= [1,2,3,4,5,6,7,8,9,10,11,12,0,13,14,15,16,17] })))] }
def p_7 (w:D)(σ:Store)(Qp:RV→Store→Prop) :Prop:=
 Fw.newObj σ (.live e_r [[w]]) (fun id Z=>∀R:D→Store→Prop,(∀d:D,∀Z1,(∃row:List D,(Row Z1 (.osl id 0 1) 0 row)∧∃d1:D,((List.take 1 row) =([d1]:List D))∧DCalls prog a_a [.one d1] Z1 (fun r Z2=>∃n:Int,(r=(.a (iA n) :RV))∧∃s:D,∃i off:Nat,(d=(.el s i off:D))∧a_d [.bool (n == 1)] Z2 s i (off+5) (fun Z3=>∀R1:Store→Prop,(∀Z4,(∃row1:List D,(Row Z4 (.osl id 0 1) 0 row1)∧∃d2:D,((List.take 1 row1) =([d2]:List D))∧DCalls prog d_c [.one d2, .one (.str (ByteArray.mk (List.toArray [102,108,97,110,107]))), .one (.fn e_m [] [(false,[d]),(false,[.el (.osl id 0 1) 0 0])])] Z4 (fun r1 Z5=>(r1=(.tup []:RV))∧∃row2:List D,(Row Z5 (.osl id 0 1) 0 row2)∧∃d3:D,((List.take 1 row2) =([d3]:List D))∧DCalls prog d_c [.one d3, .one (.str (ByteArray.mk (List.toArray [111,118,101,114,108,97,112]))), .one (.fn e_j [] [(false,[d]),(false,[.el (.osl id 0 1) 0 0])])] Z5 (fun r2 Z6=>(r2=(.tup []:RV))∧∃row3:List D,(Row Z6 (.osl id 0 1) 0 row3)∧∃d4:D,((List.take 1 row3) =([d4]:List D))∧DCalls prog d_c [.one d4, .one (.str (ByteArray.mk (List.toArray []))), .one (.fn e_n [] [(false,[d]),(false,[.el (.osl id 0 1) 0 0])])] Z6 (fun r3 Z7=>(r3=(.tup []:RV))∧∃s1:D,∃i1 off1:Nat,(d=(.el s1 i1 off1:D))∧∃row4:List D,(Row Z7 s1 i1 row4)∧∃n1 n2:Int,∃d5 d6 d7:D,∃b:Bool,((List.take 6 (List.drop off1 row4)) =([iD n1,iD n2,d5,d6,d7, .bool b]:List D))∧Qp (.a (.agg [iD n1,iD n2,d5,d6,d7, .bool b])) Z7))))→R1 Z4)→(∃pre:List A→Store→Prop,∃post:List A→Store→RV→Store→Prop,(a_bz prog b_o pre post)∧∃row1:List D,(Row Z3 (.osl id 0 1) 0 row1)∧∃d2:D,((List.take 1 row1) =([d2]:List D))∧∃row2:List D,(Row Z3 (.osl id 0 1) 0 row2)∧∃d3:D,((List.take 1 row2) =([d3]:List D))∧(a_l d3)∧∃s1:D,∃i1 off1:Nat,(d3=(.el s1 i1 off1:D))∧∃row3:List D,(Row Z3 s1 i1 row3)∧∃b:Bool,((List.take 1 (List.drop (off1+1) row3)) =([.bool b]:List D))∧a_c b ((a_l d2)∧∃s2:D,∃i2 off2:Nat,(d2=(.el s2 i2 off2:D))∧a_d [.bool true] Z3 s2 i2 (off2+1) (fun Z4=>(([[iD 0,iD 0, .nils, .nils, .nils, .bool false]]:List (List D)) =([[iD 0,iD 0, .nils, .nils, .nils, .bool false]]:List (List D)))∧R1 Z4)) ((pre [iA n,iA 0,iA 1] Z3)∧∀r1:RV,∀s2:Store,(post [iA n,iA 0,iA 1] Z3 r1 s2)→∃b1:Bool,(r1=(.a (bA b1) :RV))∧a_c (!b1) ((a_l d2)∧∃s3:D,∃i2 off2:Nat,(d2=(.el s3 i2 off2:D))∧a_d [.bool true] s2 s3 i2 (off2+1) (fun Z4=>(([[iD 0,iD 0, .nils, .nils, .nils, .bool false]]:List (List D)) =([[iD 0,iD 0, .nils, .nils, .nils, .bool false]]:List (List D)))∧R1 Z4)) (∃row4:List D,(Row s2 (.osl id 0 1) 0 row4)∧∃d4:D,((List.take 1 row4) =([d4]:List D))∧DCalls prog a_3 [.one d4] s2 (fun r2 Z4=>∃s3:ByteArray,(r2=(.a (.one (.str s3)) :RV))∧(a_l d2)∧∃s4:D,∃i2 off2:Nat,(d2=(.el s4 i2 off2:D))∧a_d [.bool (!((ByteArray.toList s3) ==(ByteArray.toList (ByteArray.mk (List.toArray [112,97,116,104])))))] Z4 s4 i2 (off2+1) (fun Z5=>(([[iD 0,iD 0, .nils, .nils, .nils, .bool false]]:List (List D)) =([[iD 0,iD 0, .nils, .nils, .nils, .bool false]]:List (List D)))∧R1 Z5)))))∧∃row1:List D,(Row Z3 (.osl id 0 1) 0 row1)∧∃d2:D,((List.take 1 row1) =([d2]:List D))∧(a_l d2)∧∃s1:D,∃i1 off1:Nat,(d2=(.el s1 i1 off1:D))∧∃row2:List D,(Row Z3 s1 i1 row2)∧∃b:Bool,((List.take 1 (List.drop (off1+1) row2)) =([.bool b]:List D))∧a_c b (∃row3:List D,(Row Z3 (.osl id 0 1) 0 row3)∧∃d3:D,((List.take 1 row3) =([d3]:List D))∧(a_l d3)∧∃s2:D,∃i2 off2:Nat,(d3=(.el s2 i2 off2:D))∧a_d [.bool true] Z3 s2 i2 (off2+1) (fun Z4=>(([[iD 0,iD 0, .nils, .nils, .nils, .bool false]]:List (List D)) =([[iD 0,iD 0, .nils, .nils, .nils, .bool false]]:List (List D)))∧R1 Z4)) (DCalls prog b_o [iA n,iA 0,iA 1] Z3 (fun r1 Z4=>∃b1:Bool,(r1=(.a (bA b1) :RV))∧a_c (!b1) (∃row3:List D,(Row Z4 (.osl id 0 1) 0 row3)∧∃d3:D,((List.take 1 row3) =([d3]:List D))∧(a_l d3)∧∃s2:D,∃i2 off2:Nat,(d3=(.el s2 i2 off2:D))∧a_d [.bool true] Z4 s2 i2 (off2+1) (fun Z5=>(([[iD 0,iD 0, .nils, .nils, .nils, .bool false]]:List (List D)) =([[iD 0,iD 0, .nils, .nils, .nils, .bool false]]:List (List D)))∧R1 Z5)) (∃row3:List D,(Row Z4 (.osl id 0 1) 0 row3)∧∃d3:D,((List.take 1 row3) =([d3]:List D))∧DCalls prog a_3 [.one d3] Z4 (fun r2 Z5=>∃s2:ByteArray,(r2=(.a (.one (.str s2)) :RV))∧∃row4:List D,(Row Z5 (.osl id 0 1) 0 row4)∧∃d4:D,((List.take 1 row4) =([d4]:List D))∧(a_l d4)∧∃s3:D,∃i2 off2:Nat,(d4=(.el s3 i2 off2:D))∧a_d [.bool (!((ByteArray.toList s2) ==(ByteArray.toList (ByteArray.mk (List.toArray [112,97,116,104])))))] Z5 s3 i2 (off2+1) (fun Z6=>(([[iD 0,iD 0, .nils, .nils, .nils, .bool false]]:List (List D)) =([[iD 0,iD 0, .nils, .nils, .nils, .bool false]]:List (List D)))∧R1 Z6))))))))→R d Z1)→(((∃row:List D,(Row Z (.osl id 0 1) 0 row)∧∃d:D,((List.take 1 row) =([d]:List D))∧∃row1:List D,(Row Z (.osl id 0 1) 0 row1)∧∃d1:D,((List.take 1 row1) =([d1]:List D))∧DCalls prog a_a [.one d] Z (fun r Z1=>∃n:Int,(r=(.a (iA n) :RV))∧DCalls prog a_a [.one d1] Z1 (fun r1 Z2=>∃n1:Int,(r1=(.a (iA n1) :RV))∧Fw.newObj Z2 (.live a_w [[iD 0,iD 0, .nils, .nils, .nils, .bool false]]) (fun id1 Z3=>a_d [iD n,iD n1, .nils, .nils, .nils, .bool false] Z3 (.osl id1 0 1) 0 0 (fun Z4=>(([[iD 0,iD 0, .nils, .nils, .nils, .bool false]]:List (List D)) =([[iD 0,iD 0, .nils, .nils, .nils, .bool false]]:List (List D)))∧R (.el (.osl id1 0 1) 0 0) Z4)))))∧∃row:List D,(Row Z (.osl id 0 1) 0 row)∧∃d:D,((List.take 1 row) =([d]:List D))∧∃row1:List D,(Row Z (.osl id 0 1) 0 row1)∧∃d1:D,((List.take 1 row1) =([d1]:List D))∧DCalls prog a_a [.one d] Z (fun r Z1=>∃n:Int,(r=(.a (iA n) :RV))∧Fw.newObj Z1 (.live a_w [[iD 0,iD 0, .nils, .nils, .nils, .bool false]]) (fun id1 Z2=>DCalls prog a_a [.one d1] Z2 (fun r1 Z3=>∃n1:Int,(r1=(.a (iA n1) :RV))∧a_d [iD n,iD n1, .nils, .nils, .nils, .bool false] Z3 (.osl id1 0 1) 0 0 (fun Z4=>(([[iD 0,iD 0, .nils, .nils, .nils, .bool false]]:List (List D)) =([[iD 0,iD 0, .nils, .nils, .nils, .bool false]]:List (List D)))∧R (.el (.osl id1 0 1) 0 0) Z4)))))∧∃row:List D,(Row Z (.osl id 0 1) 0 row)∧∃d:D,((List.take 1 row) =([d]:List D))∧∃row1:List D,(Row Z (.osl id 0 1) 0 row1)∧∃d1:D,((List.take 1 row1) =([d1]:List D))∧Fw.newObj Z (.live a_w [[iD 0,iD 0, .nils, .nils, .nils, .bool false]]) (fun id1 Z1=>DCalls prog a_a [.one d] Z1 (fun r Z2=>∃n:Int,(r=(.a (iA n) :RV))∧DCalls prog a_a [.one d1] Z2 (fun r1 Z3=>∃n1:Int,(r1=(.a (iA n1) :RV))∧a_d [iD n,iD n1, .nils, .nils, .nils, .bool false] Z3 (.osl id1 0 1) 0 0 (fun Z4=>(([[iD 0,iD 0, .nils, .nils, .nils, .bool false]]:List (List D)) =([[iD 0,iD 0, .nils, .nils, .nils, .bool false]]:List (List D)))∧R (.el (.osl id1 0 1) 0 0) Z4)))))∧((∃row:List D,(Row Z (.osl id 0 1) 0 row)∧∃d:D,((List.take 1 row) =([d]:List D))∧DCalls prog a_a [.one d] Z (fun r Z1=>∃n:Int,(r=(.a (iA n) :RV))∧∃row1:List D,(Row Z1 (.osl id 0 1) 0 row1)∧∃d1:D,((List.take 1 row1) =([d1]:List D))∧DCalls prog a_a [.one d1] Z1 (fun r1 Z2=>∃n1:Int,(r1=(.a (iA n1) :RV))∧Fw.newObj Z2 (.live a_w [[iD 0,iD 0, .nils, .nils, .nils, .bool false]]) (fun id1 Z3=>a_d [iD n,iD n1, .nils, .nils, .nils, .bool false] Z3 (.osl id1 0 1) 0 0 (fun Z4=>(([[iD 0,iD 0, .nils, .nils, .nils, .bool false]]:List (List D)) =([[iD 0,iD 0, .nils, .nils, .nils, .bool false]]:List (List D)))∧R (.el (.osl id1 0 1) 0 0) Z4)))))∧∃row:List D,(Row Z (.osl id 0 1) 0 row)∧∃d:D,((List.take 1 row) =([d]:List D))∧DCalls prog a_a [.one d] Z (fun r Z1=>∃n:Int,(r=(.a (iA n) :RV))∧∃row1:List D,(Row Z1 (.osl id 0 1) 0 row1)∧∃d1:D,((List.take 1 row1) =([d1]:List D))∧Fw.newObj Z1 (.live a_w [[iD 0,iD 0, .nils, .nils, .nils, .bool false]]) (fun id1 Z2=>DCalls prog a_a [.one d1] Z2 (fun r1 Z3=>∃n1:Int,(r1=(.a (iA n1) :RV))∧a_d [iD n,iD n1, .nils, .nils, .nils, .bool false] Z3 (.osl id1 0 1) 0 0 (fun Z4=>(([[iD 0,iD 0, .nils, .nils, .nils, .bool false]]:List (List D)) =([[iD 0,iD 0, .nils, .nils, .nils, .bool false]]:List (List D)))∧R (.el (.osl id1 0 1) 0 0) Z4)))))∧∃row:List D,(Row Z (.osl id 0 1) 0 row)∧∃d:D,((List.take 1 row) =([d]:List D))∧Fw.newObj Z (.live a_w [[iD 0,iD 0, .nils, .nils, .nils, .bool false]]) (fun id1 Z1=>DCalls prog a_a [.one d] Z1 (fun r Z2=>∃n:Int,(r=(.a (iA n) :RV))∧∃row1:List D,(Row Z2 (.osl id 0 1) 0 row1)∧∃d1:D,((List.take 1 row1) =([d1]:List D))∧DCalls prog a_a [.one d1] Z2 (fun r1 Z3=>∃n1:Int,(r1=(.a (iA n1) :RV))∧a_d [iD n,iD n1, .nils, .nils, .nils, .bool false] Z3 (.osl id1 0 1) 0 0 (fun Z4=>(([[iD 0,iD 0, .nils, .nils, .nils, .bool false]]:List (List D)) =([[iD 0,iD 0, .nils, .nils, .nils, .bool false]]:List (List D)))∧R (.el (.osl id1 0 1) 0 0) Z4)))))
theorem q_w (w:D)(σ:Store)(Qp:RV→Store→Prop)(h:p_7 w σ Qp) :DCalls prog c_1 [.one w] σ Qp:=
 a_b mixed (by kernel_rfl) Tryz.func91 o_x (Eq.mp (by kernel_rfl) h)
def k_z:Ann:= { loops:= [(2,{ mods:= [(8,s6)],keep:= [0,1,7] })] }
def l_z (s f:D)(σ:Store)(Qp:RV→Store→Prop) :Prop:=
 ∃len:Nat,(Len s len)∧∃I:Int→Store→Prop,∃μ:Int→Store→Nat,(I 0 σ)∧∀n:Int,∀Z,(I n Z)→a_c (decide (n < (len:Int))) (∃len1:Nat,(Idx prog Z s 1 len1)∧((0:Int)≤n)∧(n < (len1:Int))∧∃row:List D,(Row Z s (Int.toNat n) row)∧∃n1:Int,((List.take 1 row) =([iD n1]:List D))∧∃f1:FuncId,∃a:List (Bool × (List D)),∃b:List (Bool × (List D)),∃as0':List A,∃bs:List A,(f=(.fn f1 a b:D))∧((e_7 a) =(Option.some as0'))∧((e_7 b) =(Option.some bs))∧DCalls prog f1 (HAppend.hAppend (HAppend.hAppend as0' [iA n1]) bs) Z (fun r Z1=>∃b1:Bool,(r=(.a (bA b1) :RV))∧a_c b1 (Qp (.a (iA n)) Z1) ((I (w64 (n+1)) Z1)∧((μ (w64 (n+1)) Z1) < (μ n Z))))) (Qp (.a (iA (-1))) Z)
theorem l_i (s f:D)(σ:Store)(Qp:RV→Store→Prop)(h:l_z s f σ Qp) :DCalls prog d_4 [.one s, .one f] σ Qp:=
 a_b mixed (by kernel_rfl) Tryz.func98 k_z (Eq.mp (by kernel_rfl) h)
def o_c:Ann:= { cbs:= [2] }
def p_f (n0 n1:Int)(a1:D)(σ:Store)(Qp:RV→Store→Prop) :Prop:=
 ∃s:D,∃i off:Nat,(a1=(.el s i off:D))∧∃row:List D,(Row σ s i row)∧∃n:Int,((List.take 1 (List.drop off row)) =([iD n]:List D))∧Qp (.a (bA (n0 == n))) σ
theorem o_1 (n0 n1:Int)(a1:D)(σ:Store)(Qp:RV→Store→Prop)(h:p_f n0 n1 a1 σ Qp) :DCalls prog e_1 [.agg [iD n0,iD n1], .one a1] σ Qp:=
 a_b mixed (by kernel_rfl) Tryz.func102 o_c (Eq.mp (by kernel_rfl) h)
def m_u:Ann:= { splits:= [(0,(DT.split 1 3 (DT.split 4 3 (DT.split 6 3 (DT.leaf { ord:= [0,1,2,4,6,3,5,7,8,9,10,11,12] }) (DT.split 6 5 (DT.leaf { ord:= [0,1,2,4,3,6,5,7,8,9,10,11,12] }) (DT.leaf { ord:= [0,1,2,4,3,5,6,7,8,9,10,11,12] }))) (DT.split 6 3 (DT.leaf { ord:= [0,1,2,6,3,4,5,7,8,9,10,11,12] }) (DT.split 6 5 (DT.leaf { ord:= [0,1,2,3,4,6,5,7,8,9,10,11,12] }) (DT.leaf { ord:= [0,1,2,3,4,5,6,7,8,9,10,11,12] })))) (DT.split 4 3 (DT.split 6 3 (DT.split 1 5 (DT.leaf { ord:= [0,2,4,6,3,1,5,7,8,9,10,11,12] }) (DT.split 1 7 (DT.leaf { ord:= [0,2,4,6,3,5,1,7,8,9,10,11,12] }) (DT.leaf { ord:= [0,2,4,6,3,5,7,1,8,9,10,11,12] }))) (DT.split 1 5 (DT.split 6 5 (DT.leaf { ord:= [0,2,4,3,1,6,5,7,8,9,10,11,12] }) (DT.leaf { ord:= [0,2,4,3,1,5,6,7,8,9,10,11,12] })) (DT.split 6 5 (DT.split 1 7 (DT.leaf { ord:= [0,2,4,3,6,5,1,7,8,9,10,11,12] }) (DT.leaf { ord:= [0,2,4,3,6,5,7,1,8,9,10,11,12] })) (DT.split 1 7 (DT.leaf { ord:= [0,2,4,3,5,1,6,7,8,9,10,11,12] }) (DT.leaf { ord:= [0,2,4,3,5,6,7,1,8,9,10,11,12] }))))) (DT.split 6 3 (DT.split 1 5 (DT.leaf { ord:= [0,2,6,3,1,4,5,7,8,9,10,11,12] }) (DT.split 1 7 (DT.leaf { ord:= [0,2,6,3,4,5,1,7,8,9,10,11,12] }) (DT.leaf { ord:= [0,2,6,3,4,5,7,1,8,9,10,11,12] }))) (DT.split 1 5 (DT.split 6 5 (DT.leaf { ord:= [0,2,3,1,4,6,5,7,8,9,10,11,12] }) (DT.leaf { ord:= [0,2,3,1,4,5,6,7,8,9,10,11,12] })) (DT.split 6 5 (DT.split 1 7 (DT.leaf { ord:= [0,2,3,4,6,5,1,7,8,9,10,11,12] }) (DT.leaf { ord:= [0,2,3,4,6,5,7,1,8,9,10,11,12] })) (DT.split 1 7 (DT.leaf { ord:= [0,2,3,4,5,1,6,7,8,9,10,11,12] }) (DT.leaf { ord:= [0,2,3,4,5,6,7,1,8,9,10,11,12] }))))))))] }
def n_9 (a0 a1:D)(σ:Store)(Qp:RV→Store→Prop) :Prop:=
 (((∃s:D,∃i off:Nat,(a0=(.el s i off:D))∧∃row:List D,(Row σ s i row)∧∃d:D,((List.take 1 (List.drop (off+2) row)) =([d]:List D))∧∃s1:D,∃i1 off1:Nat,(a1=(.el s1 i1 off1:D))∧∃row1:List D,(Row σ s1 i1 row1)∧∃d1:D,((List.take 1 (List.drop off1 row1)) =([d1]:List D))∧∃s2:D,∃i2 off2:Nat,(a1=(.el s2 i2 off2:D))∧∃row2:List D,(Row σ s2 i2 row2)∧∃d2:D,((List.take 1 (List.drop off2 row2)) =([d2]:List D))∧∃s3:D,∃i3 off3:Nat,(a1=(.el s3 i3 off3:D))∧∃row3:List D,(Row σ s3 i3 row3)∧∃d3:D,((List.take 1 (List.drop off3 row3)) =([d3]:List D))∧DCalls prog a_a [.one d1] σ (fun r Z=>∃n:Int,(r=(.a (iA n) :RV))∧DCalls prog a_a [.one d2] Z (fun r1 Z1=>∃n1:Int,(r1=(.a (iA n1) :RV))∧DCalls prog a_a [.one d3] Z1 (fun r2 Z2=>∃n2:Int,(r2=(.a (iA n2) :RV))∧Fw.newObj Z2 (.live a_i [[iD n,iD n1,iD n2]]) (fun id Z3=>a_e prog Z3 a_i 24 d (.osl id 0 1) (fun d4 Z4=>∃s4:D,∃i4 off4:Nat,(a0=(.el s4 i4 off4:D))∧a_d [d4] Z4 s4 i4 (off4+2) (fun Z5=>Qp (.tup []) Z5)))))))∧(∃s:D,∃i off:Nat,(a0=(.el s i off:D))∧∃row:List D,(Row σ s i row)∧∃d:D,((List.take 1 (List.drop (off+2) row)) =([d]:List D))∧∃s1:D,∃i1 off1:Nat,(a1=(.el s1 i1 off1:D))∧∃row1:List D,(Row σ s1 i1 row1)∧∃d1:D,((List.take 1 (List.drop off1 row1)) =([d1]:List D))∧∃s2:D,∃i2 off2:Nat,(a1=(.el s2 i2 off2:D))∧∃row2:List D,(Row σ s2 i2 row2)∧∃d2:D,((List.take 1 (List.drop off2 row2)) =([d2]:List D))∧DCalls prog a_a [.one d1] σ (fun r Z=>∃n:Int,(r=(.a (iA n) :RV))∧∃s3:D,∃i3 off3:Nat,(a1=(.el s3 i3 off3:D))∧∃row3:List D,(Row Z s3 i3 row3)∧∃d3:D,((List.take 1 (List.drop off3 row3)) =([d3]:List D))∧DCalls prog a_a [.one d2] Z (fun r1 Z1=>∃n1:Int,(r1=(.a (iA n1) :RV))∧DCalls prog a_a [.one d3] Z1 (fun r2 Z2=>∃n2:Int,(r2=(.a (iA n2) :RV))∧Fw.newObj Z2 (.live a_i [[iD n,iD n1,iD n2]]) (fun id Z3=>a_e prog Z3 a_i 24 d (.osl id 0 1) (fun d4 Z4=>∃s4:D,∃i4 off4:Nat,(a0=(.el s4 i4 off4:D))∧a_d [d4] Z4 s4 i4 (off4+2) (fun Z5=>Qp (.tup []) Z5)))))))∧∃s:D,∃i off:Nat,(a0=(.el s i off:D))∧∃row:List D,(Row σ s i row)∧∃d:D,((List.take 1 (List.drop (off+2) row)) =([d]:List D))∧∃s1:D,∃i1 off1:Nat,(a1=(.el s1 i1 off1:D))∧∃row1:List D,(Row σ s1 i1 row1)∧∃d1:D,((List.take 1 (List.drop off1 row1)) =([d1]:List D))∧∃s2:D,∃i2 off2:Nat,(a1=(.el s2 i2 off2:D))∧∃row2:List D,(Row σ s2 i2 row2)∧∃d2:D,((List.take 1 (List.drop off2 row2)) =([d2]:List D))∧DCalls prog a_a [.one d1] σ (fun r Z=>∃n:Int,(r=(.a (iA n) :RV))∧DCalls prog a_a [.one d2] Z (fun r1 Z1=>∃n1:Int,(r1=(.a (iA n1) :RV))∧∃s3:D,∃i3 off3:Nat,(a1=(.el s3 i3 off3:D))∧∃row3:List D,(Row Z1 s3 i3 row3)∧∃d3:D,((List.take 1 (List.drop off3 row3)) =([d3]:List D))∧DCalls prog a_a [.one d3] Z1 (fun r2 Z2=>∃n2:Int,(r2=(.a (iA n2) :RV))∧Fw.newObj Z2 (.live a_i [[iD n,iD n1,iD n2]]) (fun id Z3=>a_e prog Z3 a_i 24 d (.osl id 0 1) (fun d4 Z4=>∃s4:D,∃i4 off4:Nat,(a0=(.el s4 i4 off4:D))∧a_d [d4] Z4 s4 i4 (off4+2) (fun Z5=>Qp (.tup []) Z5)))))))∧(∃s:D,∃i off:Nat,(a0=(.el s i off:D))∧∃row:List D,(Row σ s i row)∧∃d:D,((List.take 1 (List.drop (off+2) row)) =([d]:List D))∧∃s1:D,∃i1 off1:Nat,(a1=(.el s1 i1 off1:D))∧∃row1:List D,(Row σ s1 i1 row1)∧∃d1:D,((List.take 1 (List.drop off1 row1)) =([d1]:List D))∧∃s2:D,∃i2 off2:Nat,(a1=(.el s2 i2 off2:D))∧∃row2:List D,(Row σ s2 i2 row2)∧∃d2:D,((List.take 1 (List.drop off2 row2)) =([d2]:List D))∧DCalls prog a_a [.one d1] σ (fun r Z=>∃n:Int,(r=(.a (iA n) :RV))∧∃s3:D,∃i3 off3:Nat,(a1=(.el s3 i3 off3:D))∧∃row3:List D,(Row Z s3 i3 row3)∧∃d3:D,((List.take 1 (List.drop off3 row3)) =([d3]:List D))∧DCalls prog a_a [.one d3] Z (fun r1 Z1=>∃n1:Int,(r1=(.a (iA n1) :RV))∧DCalls prog a_a [.one d2] Z1 (fun r2 Z2=>∃n2:Int,(r2=(.a (iA n2) :RV))∧Fw.newObj Z2 (.live a_i [[iD n,iD n1,iD n2]]) (fun id Z3=>a_e prog Z3 a_i 24 d (.osl id 0 1) (fun d4 Z4=>∃s4:D,∃i4 off4:Nat,(a0=(.el s4 i4 off4:D))∧a_d [d4] Z4 s4 i4 (off4+2) (fun Z5=>Qp (.tup []) Z5)))))))∧(∃s:D,∃i off:Nat,(a0=(.el s i off:D))∧∃row:List D,(Row σ s i row)∧∃d:D,((List.take 1 (List.drop (off+2) row)) =([d]:List D))∧∃s1:D,∃i1 off1:Nat,(a1=(.el s1 i1 off1:D))∧∃row1:List D,(Row σ s1 i1 row1)∧∃d1:D,((List.take 1 (List.drop off1 row1)) =([d1]:List D))∧DCalls prog a_a [.one d1] σ (fun r Z=>∃n:Int,(r=(.a (iA n) :RV))∧∃s2:D,∃i2 off2:Nat,(a1=(.el s2 i2 off2:D))∧∃row2:List D,(Row Z s2 i2 row2)∧∃d2:D,((List.take 1 (List.drop off2 row2)) =([d2]:List D))∧∃s3:D,∃i3 off3:Nat,(a1=(.el s3 i3 off3:D))∧∃row3:List D,(Row Z s3 i3 row3)∧∃d3:D,((List.take 1 (List.drop off3 row3)) =([d3]:List D))∧DCalls prog a_a [.one d2] Z (fun r1 Z1=>∃n1:Int,(r1=(.a (iA n1) :RV))∧DCalls prog a_a [.one d3] Z1 (fun r2 Z2=>∃n2:Int,(r2=(.a (iA n2) :RV))∧Fw.newObj Z2 (.live a_i [[iD n,iD n1,iD n2]]) (fun id Z3=>a_e prog Z3 a_i 24 d (.osl id 0 1) (fun d4 Z4=>∃s4:D,∃i4 off4:Nat,(a0=(.el s4 i4 off4:D))∧a_d [d4] Z4 s4 i4 (off4+2) (fun Z5=>Qp (.tup []) Z5)))))))∧∃s:D,∃i off:Nat,(a0=(.el s i off:D))∧∃row:List D,(Row σ s i row)∧∃d:D,((List.take 1 (List.drop (off+2) row)) =([d]:List D))∧∃s1:D,∃i1 off1:Nat,(a1=(.el s1 i1 off1:D))∧∃row1:List D,(Row σ s1 i1 row1)∧∃d1:D,((List.take 1 (List.drop off1 row1)) =([d1]:List D))∧DCalls prog a_a [.one d1] σ (fun r Z=>∃n:Int,(r=(.a (iA n) :RV))∧∃s2:D,∃i2 off2:Nat,(a1=(.el s2 i2 off2:D))∧∃row2:List D,(Row Z s2 i2 row2)∧∃d2:D,((List.take 1 (List.drop off2 row2)) =([d2]:List D))∧DCalls prog a_a [.one d2] Z (fun r1 Z1=>∃n1:Int,(r1=(.a (iA n1) :RV))∧∃s3:D,∃i3 off3:Nat,(a1=(.el s3 i3 off3:D))∧∃row3:List D,(Row Z1 s3 i3 row3)∧∃d3:D,((List.take 1 (List.drop off3 row3)) =([d3]:List D))∧DCalls prog a_a [.one d3] Z1 (fun r2 Z2=>∃n2:Int,(r2=(.a (iA n2) :RV))∧Fw.newObj Z2 (.live a_i [[iD n,iD n1,iD n2]]) (fun id Z3=>a_e prog Z3 a_i 24 d (.osl id 0 1) (fun d4 Z4=>∃s4:D,∃i4 off4:Nat,(a0=(.el s4 i4 off4:D))∧a_d [d4] Z4 s4 i4 (off4+2) (fun Z5=>Qp (.tup []) Z5)))))))∧(((∃s:D,∃i off:Nat,(a0=(.el s i off:D))∧∃s1:D,∃i1 off1:Nat,(a1=(.el s1 i1 off1:D))∧∃row:List D,(Row σ s1 i1 row)∧∃d:D,((List.take 1 (List.drop off1 row)) =([d]:List D))∧∃s2:D,∃i2 off2:Nat,(a1=(.el s2 i2 off2:D))∧∃row1:List D,(Row σ s2 i2 row1)∧∃d1:D,((List.take 1 (List.drop off2 row1)) =([d1]:List D))∧∃s3:D,∃i3 off3:Nat,(a1=(.el s3 i3 off3:D))∧∃row2:List D,(Row σ s3 i3 row2)∧∃d2:D,((List.take 1 (List.drop off3 row2)) =([d2]:List D))∧DCalls prog a_a [.one d] σ (fun r Z=>∃n:Int,(r=(.a (iA n) :RV))∧∃row3:List D,(Row Z s i row3)∧∃d3:D,((List.take 1 (List.drop (off+2) row3)) =([d3]:List D))∧DCalls prog a_a [.one d1] Z (fun r1 Z1=>∃n1:Int,(r1=(.a (iA n1) :RV))∧DCalls prog a_a [.one d2] Z1 (fun r2 Z2=>∃n2:Int,(r2=(.a (iA n2) :RV))∧Fw.newObj Z2 (.live a_i [[iD n,iD n1,iD n2]]) (fun id Z3=>a_e prog Z3 a_i 24 d3 (.osl id 0 1) (fun d4 Z4=>∃s4:D,∃i4 off4:Nat,(a0=(.el s4 i4 off4:D))∧a_d [d4] Z4 s4 i4 (off4+2) (fun Z5=>Qp (.tup []) Z5)))))))∧(∃s:D,∃i off:Nat,(a0=(.el s i off:D))∧∃s1:D,∃i1 off1:Nat,(a1=(.el s1 i1 off1:D))∧∃row:List D,(Row σ s1 i1 row)∧∃d:D,((List.take 1 (List.drop off1 row)) =([d]:List D))∧∃s2:D,∃i2 off2:Nat,(a1=(.el s2 i2 off2:D))∧∃row1:List D,(Row σ s2 i2 row1)∧∃d1:D,((List.take 1 (List.drop off2 row1)) =([d1]:List D))∧∃s3:D,∃i3 off3:Nat,(a1=(.el s3 i3 off3:D))∧∃row2:List D,(Row σ s3 i3 row2)∧∃d2:D,((List.take 1 (List.drop off3 row2)) =([d2]:List D))∧DCalls prog a_a [.one d] σ (fun r Z=>∃n:Int,(r=(.a (iA n) :RV))∧DCalls prog a_a [.one d1] Z (fun r1 Z1=>∃n1:Int,(r1=(.a (iA n1) :RV))∧∃row3:List D,(Row Z1 s i row3)∧∃d3:D,((List.take 1 (List.drop (off+2) row3)) =([d3]:List D))∧DCalls prog a_a [.one d2] Z1 (fun r2 Z2=>∃n2:Int,(r2=(.a (iA n2) :RV))∧Fw.newObj Z2 (.live a_i [[iD n,iD n1,iD n2]]) (fun id Z3=>a_e prog Z3 a_i 24 d3 (.osl id 0 1) (fun d4 Z4=>∃s4:D,∃i4 off4:Nat,(a0=(.el s4 i4 off4:D))∧a_d [d4] Z4 s4 i4 (off4+2) (fun Z5=>Qp (.tup []) Z5)))))))∧∃s:D,∃i off:Nat,(a0=(.el s i off:D))∧∃s1:D,∃i1 off1:Nat,(a1=(.el s1 i1 off1:D))∧∃row:List D,(Row σ s1 i1 row)∧∃d:D,((List.take 1 (List.drop off1 row)) =([d]:List D))∧∃s2:D,∃i2 off2:Nat,(a1=(.el s2 i2 off2:D))∧∃row1:List D,(Row σ s2 i2 row1)∧∃d1:D,((List.take 1 (List.drop off2 row1)) =([d1]:List D))∧∃s3:D,∃i3 off3:Nat,(a1=(.el s3 i3 off3:D))∧∃row2:List D,(Row σ s3 i3 row2)∧∃d2:D,((List.take 1 (List.drop off3 row2)) =([d2]:List D))∧DCalls prog a_a [.one d] σ (fun r Z=>∃n:Int,(r=(.a (iA n) :RV))∧DCalls prog a_a [.one d1] Z (fun r1 Z1=>∃n1:Int,(r1=(.a (iA n1) :RV))∧DCalls prog a_a [.one d2] Z1 (fun r2 Z2=>∃n2:Int,(r2=(.a (iA n2) :RV))∧∃row3:List D,(Row Z2 s i row3)∧∃d3:D,((List.take 1 (List.drop (off+2) row3)) =([d3]:List D))∧Fw.newObj Z2 (.live a_i [[iD n,iD n1,iD n2]]) (fun id Z3=>a_e prog Z3 a_i 24 d3 (.osl id 0 1) (fun d4 Z4=>∃s4:D,∃i4 off4:Nat,(a0=(.el s4 i4 off4:D))∧a_d [d4] Z4 s4 i4 (off4+2) (fun Z5=>Qp (.tup []) Z5)))))))∧((∃s:D,∃i off:Nat,(a0=(.el s i off:D))∧∃s1:D,∃i1 off1:Nat,(a1=(.el s1 i1 off1:D))∧∃row:List D,(Row σ s1 i1 row)∧∃d:D,((List.take 1 (List.drop off1 row)) =([d]:List D))∧∃s2:D,∃i2 off2:Nat,(a1=(.el s2 i2 off2:D))∧∃row1:List D,(Row σ s2 i2 row1)∧∃d1:D,((List.take 1 (List.drop off2 row1)) =([d1]:List D))∧DCalls prog a_a [.one d] σ (fun r Z=>∃n:Int,(r=(.a (iA n) :RV))∧∃row2:List D,(Row Z s i row2)∧∃d2:D,((List.take 1 (List.drop (off+2) row2)) =([d2]:List D))∧∃s3:D,∃i3 off3:Nat,(a1=(.el s3 i3 off3:D))∧∃row3:List D,(Row Z s3 i3 row3)∧∃d3:D,((List.take 1 (List.drop off3 row3)) =([d3]:List D))∧DCalls prog a_a [.one d1] Z (fun r1 Z1=>∃n1:Int,(r1=(.a (iA n1) :RV))∧DCalls prog a_a [.one d3] Z1 (fun r2 Z2=>∃n2:Int,(r2=(.a (iA n2) :RV))∧Fw.newObj Z2 (.live a_i [[iD n,iD n1,iD n2]]) (fun id Z3=>a_e prog Z3 a_i 24 d2 (.osl id 0 1) (fun d4 Z4=>∃s4:D,∃i4 off4:Nat,(a0=(.el s4 i4 off4:D))∧a_d [d4] Z4 s4 i4 (off4+2) (fun Z5=>Qp (.tup []) Z5)))))))∧∃s:D,∃i off:Nat,(a0=(.el s i off:D))∧∃s1:D,∃i1 off1:Nat,(a1=(.el s1 i1 off1:D))∧∃row:List D,(Row σ s1 i1 row)∧∃d:D,((List.take 1 (List.drop off1 row)) =([d]:List D))∧∃s2:D,∃i2 off2:Nat,(a1=(.el s2 i2 off2:D))∧∃row1:List D,(Row σ s2 i2 row1)∧∃d1:D,((List.take 1 (List.drop off2 row1)) =([d1]:List D))∧DCalls prog a_a [.one d] σ (fun r Z=>∃n:Int,(r=(.a (iA n) :RV))∧∃row2:List D,(Row Z s i row2)∧∃d2:D,((List.take 1 (List.drop (off+2) row2)) =([d2]:List D))∧DCalls prog a_a [.one d1] Z (fun r1 Z1=>∃n1:Int,(r1=(.a (iA n1) :RV))∧∃s3:D,∃i3 off3:Nat,(a1=(.el s3 i3 off3:D))∧∃row3:List D,(Row Z1 s3 i3 row3)∧∃d3:D,((List.take 1 (List.drop off3 row3)) =([d3]:List D))∧DCalls prog a_a [.one d3] Z1 (fun r2 Z2=>∃n2:Int,(r2=(.a (iA n2) :RV))∧Fw.newObj Z2 (.live a_i [[iD n,iD n1,iD n2]]) (fun id Z3=>a_e prog Z3 a_i 24 d2 (.osl id 0 1) (fun d4 Z4=>∃s4:D,∃i4 off4:Nat,(a0=(.el s4 i4 off4:D))∧a_d [d4] Z4 s4 i4 (off4+2) (fun Z5=>Qp (.tup []) Z5)))))))∧((∃s:D,∃i off:Nat,(a0=(.el s i off:D))∧∃s1:D,∃i1 off1:Nat,(a1=(.el s1 i1 off1:D))∧∃row:List D,(Row σ s1 i1 row)∧∃d:D,((List.take 1 (List.drop off1 row)) =([d]:List D))∧∃s2:D,∃i2 off2:Nat,(a1=(.el s2 i2 off2:D))∧∃row1:List D,(Row σ s2 i2 row1)∧∃d1:D,((List.take 1 (List.drop off2 row1)) =([d1]:List D))∧DCalls prog a_a [.one d] σ (fun r Z=>∃n:Int,(r=(.a (iA n) :RV))∧∃s3:D,∃i3 off3:Nat,(a1=(.el s3 i3 off3:D))∧∃row2:List D,(Row Z s3 i3 row2)∧∃d2:D,((List.take 1 (List.drop off3 row2)) =([d2]:List D))∧DCalls prog a_a [.one d1] Z (fun r1 Z1=>∃n1:Int,(r1=(.a (iA n1) :RV))∧∃row3:List D,(Row Z1 s i row3)∧∃d3:D,((List.take 1 (List.drop (off+2) row3)) =([d3]:List D))∧DCalls prog a_a [.one d2] Z1 (fun r2 Z2=>∃n2:Int,(r2=(.a (iA n2) :RV))∧Fw.newObj Z2 (.live a_i [[iD n,iD n1,iD n2]]) (fun id Z3=>a_e prog Z3 a_i 24 d3 (.osl id 0 1) (fun d4 Z4=>∃s4:D,∃i4 off4:Nat,(a0=(.el s4 i4 off4:D))∧a_d [d4] Z4 s4 i4 (off4+2) (fun Z5=>Qp (.tup []) Z5)))))))∧∃s:D,∃i off:Nat,(a0=(.el s i off:D))∧∃s1:D,∃i1 off1:Nat,(a1=(.el s1 i1 off1:D))∧∃row:List D,(Row σ s1 i1 row)∧∃d:D,((List.take 1 (List.drop off1 row)) =([d]:List D))∧∃s2:D,∃i2 off2:Nat,(a1=(.el s2 i2 off2:D))∧∃row1:List D,(Row σ s2 i2 row1)∧∃d1:D,((List.take 1 (List.drop off2 row1)) =([d1]:List D))∧DCalls prog a_a [.one d] σ (fun r Z=>∃n:Int,(r=(.a (iA n) :RV))∧∃s3:D,∃i3 off3:Nat,(a1=(.el s3 i3 off3:D))∧∃row2:List D,(Row Z s3 i3 row2)∧∃d2:D,((List.take 1 (List.drop off3 row2)) =([d2]:List D))∧DCalls prog a_a [.one d1] Z (fun r1 Z1=>∃n1:Int,(r1=(.a (iA n1) :RV))∧DCalls prog a_a [.one d2] Z1 (fun r2 Z2=>∃n2:Int,(r2=(.a (iA n2) :RV))∧∃row3:List D,(Row Z2 s i row3)∧∃d3:D,((List.take 1 (List.drop (off+2) row3)) =([d3]:List D))∧Fw.newObj Z2 (.live a_i [[iD n,iD n1,iD n2]]) (fun id Z3=>a_e prog Z3 a_i 24 d3 (.osl id 0 1) (fun d4 Z4=>∃s4:D,∃i4 off4:Nat,(a0=(.el s4 i4 off4:D))∧a_d [d4] Z4 s4 i4 (off4+2) (fun Z5=>Qp (.tup []) Z5)))))))∧(∃s:D,∃i off:Nat,(a0=(.el s i off:D))∧∃s1:D,∃i1 off1:Nat,(a1=(.el s1 i1 off1:D))∧∃row:List D,(Row σ s1 i1 row)∧∃d:D,((List.take 1 (List.drop off1 row)) =([d]:List D))∧∃s2:D,∃i2 off2:Nat,(a1=(.el s2 i2 off2:D))∧∃row1:List D,(Row σ s2 i2 row1)∧∃d1:D,((List.take 1 (List.drop off2 row1)) =([d1]:List D))∧DCalls prog a_a [.one d] σ (fun r Z=>∃n:Int,(r=(.a (iA n) :RV))∧DCalls prog a_a [.one d1] Z (fun r1 Z1=>∃n1:Int,(r1=(.a (iA n1) :RV))∧∃row2:List D,(Row Z1 s i row2)∧∃d2:D,((List.take 1 (List.drop (off+2) row2)) =([d2]:List D))∧∃s3:D,∃i3 off3:Nat,(a1=(.el s3 i3 off3:D))∧∃row3:List D,(Row Z1 s3 i3 row3)∧∃d3:D,((List.take 1 (List.drop off3 row3)) =([d3]:List D))∧DCalls prog a_a [.one d3] Z1 (fun r2 Z2=>∃n2:Int,(r2=(.a (iA n2) :RV))∧Fw.newObj Z2 (.live a_i [[iD n,iD n1,iD n2]]) (fun id Z3=>a_e prog Z3 a_i 24 d2 (.osl id 0 1) (fun d4 Z4=>∃s4:D,∃i4 off4:Nat,(a0=(.el s4 i4 off4:D))∧a_d [d4] Z4 s4 i4 (off4+2) (fun Z5=>Qp (.tup []) Z5)))))))∧∃s:D,∃i off:Nat,(a0=(.el s i off:D))∧∃s1:D,∃i1 off1:Nat,(a1=(.el s1 i1 off1:D))∧∃row:List D,(Row σ s1 i1 row)∧∃d:D,((List.take 1 (List.drop off1 row)) =([d]:List D))∧∃s2:D,∃i2 off2:Nat,(a1=(.el s2 i2 off2:D))∧∃row1:List D,(Row σ s2 i2 row1)∧∃d1:D,((List.take 1 (List.drop off2 row1)) =([d1]:List D))∧DCalls prog a_a [.one d] σ (fun r Z=>∃n:Int,(r=(.a (iA n) :RV))∧DCalls prog a_a [.one d1] Z (fun r1 Z1=>∃n1:Int,(r1=(.a (iA n1) :RV))∧∃s3:D,∃i3 off3:Nat,(a1=(.el s3 i3 off3:D))∧∃row2:List D,(Row Z1 s3 i3 row2)∧∃d2:D,((List.take 1 (List.drop off3 row2)) =([d2]:List D))∧DCalls prog a_a [.one d2] Z1 (fun r2 Z2=>∃n2:Int,(r2=(.a (iA n2) :RV))∧∃row3:List D,(Row Z2 s i row3)∧∃d3:D,((List.take 1 (List.drop (off+2) row3)) =([d3]:List D))∧Fw.newObj Z2 (.live a_i [[iD n,iD n1,iD n2]]) (fun id Z3=>a_e prog Z3 a_i 24 d3 (.osl id 0 1) (fun d4 Z4=>∃s4:D,∃i4 off4:Nat,(a0=(.el s4 i4 off4:D))∧a_d [d4] Z4 s4 i4 (off4+2) (fun Z5=>Qp (.tup []) Z5)))))))∧((∃s:D,∃i off:Nat,(a0=(.el s i off:D))∧∃s1:D,∃i1 off1:Nat,(a1=(.el s1 i1 off1:D))∧∃row:List D,(Row σ s1 i1 row)∧∃d:D,((List.take 1 (List.drop off1 row)) =([d]:List D))∧∃s2:D,∃i2 off2:Nat,(a1=(.el s2 i2 off2:D))∧∃row1:List D,(Row σ s2 i2 row1)∧∃d1:D,((List.take 1 (List.drop off2 row1)) =([d1]:List D))∧DCalls prog a_a [.one d] σ (fun r Z=>∃n:Int,(r=(.a (iA n) :RV))∧∃row2:List D,(Row Z s i row2)∧∃d2:D,((List.take 1 (List.drop (off+2) row2)) =([d2]:List D))∧∃s3:D,∃i3 off3:Nat,(a1=(.el s3 i3 off3:D))∧∃row3:List D,(Row Z s3 i3 row3)∧∃d3:D,((List.take 1 (List.drop off3 row3)) =([d3]:List D))∧DCalls prog a_a [.one d3] Z (fun r1 Z1=>∃n1:Int,(r1=(.a (iA n1) :RV))∧DCalls prog a_a [.one d1] Z1 (fun r2 Z2=>∃n2:Int,(r2=(.a (iA n2) :RV))∧Fw.newObj Z2 (.live a_i [[iD n,iD n1,iD n2]]) (fun id Z3=>a_e prog Z3 a_i 24 d2 (.osl id 0 1) (fun d4 Z4=>∃s4:D,∃i4 off4:Nat,(a0=(.el s4 i4 off4:D))∧a_d [d4] Z4 s4 i4 (off4+2) (fun Z5=>Qp (.tup []) Z5)))))))∧(∃s:D,∃i off:Nat,(a0=(.el s i off:D))∧∃s1:D,∃i1 off1:Nat,(a1=(.el s1 i1 off1:D))∧∃row:List D,(Row σ s1 i1 row)∧∃d:D,((List.take 1 (List.drop off1 row)) =([d]:List D))∧∃s2:D,∃i2 off2:Nat,(a1=(.el s2 i2 off2:D))∧∃row1:List D,(Row σ s2 i2 row1)∧∃d1:D,((List.take 1 (List.drop off2 row1)) =([d1]:List D))∧DCalls prog a_a [.one d] σ (fun r Z=>∃n:Int,(r=(.a (iA n) :RV))∧∃s3:D,∃i3 off3:Nat,(a1=(.el s3 i3 off3:D))∧∃row2:List D,(Row Z s3 i3 row2)∧∃d2:D,((List.take 1 (List.drop off3 row2)) =([d2]:List D))∧DCalls prog a_a [.one d2] Z (fun r1 Z1=>∃n1:Int,(r1=(.a (iA n1) :RV))∧∃row3:List D,(Row Z1 s i row3)∧∃d3:D,((List.take 1 (List.drop (off+2) row3)) =([d3]:List D))∧DCalls prog a_a [.one d1] Z1 (fun r2 Z2=>∃n2:Int,(r2=(.a (iA n2) :RV))∧Fw.newObj Z2 (.live a_i [[iD n,iD n1,iD n2]]) (fun id Z3=>a_e prog Z3 a_i 24 d3 (.osl id 0 1) (fun d4 Z4=>∃s4:D,∃i4 off4:Nat,(a0=(.el s4 i4 off4:D))∧a_d [d4] Z4 s4 i4 (off4+2) (fun Z5=>Qp (.tup []) Z5)))))))∧∃s:D,∃i off:Nat,(a0=(.el s i off:D))∧∃s1:D,∃i1 off1:Nat,(a1=(.el s1 i1 off1:D))∧∃row:List D,(Row σ s1 i1 row)∧∃d:D,((List.take 1 (List.drop off1 row)) =([d]:List D))∧∃s2:D,∃i2 off2:Nat,(a1=(.el s2 i2 off2:D))∧∃row1:List D,(Row σ s2 i2 row1)∧∃d1:D,((List.take 1 (List.drop off2 row1)) =([d1]:List D))∧DCalls prog a_a [.one d] σ (fun r Z=>∃n:Int,(r=(.a (iA n) :RV))∧∃s3:D,∃i3 off3:Nat,(a1=(.el s3 i3 off3:D))∧∃row2:List D,(Row Z s3 i3 row2)∧∃d2:D,((List.take 1 (List.drop off3 row2)) =([d2]:List D))∧DCalls prog a_a [.one d2] Z (fun r1 Z1=>∃n1:Int,(r1=(.a (iA n1) :RV))∧DCalls prog a_a [.one d1] Z1 (fun r2 Z2=>∃n2:Int,(r2=(.a (iA n2) :RV))∧∃row3:List D,(Row Z2 s i row3)∧∃d3:D,((List.take 1 (List.drop (off+2) row3)) =([d3]:List D))∧Fw.newObj Z2 (.live a_i [[iD n,iD n1,iD n2]]) (fun id Z3=>a_e prog Z3 a_i 24 d3 (.osl id 0 1) (fun d4 Z4=>∃s4:D,∃i4 off4:Nat,(a0=(.el s4 i4 off4:D))∧a_d [d4] Z4 s4 i4 (off4+2) (fun Z5=>Qp (.tup []) Z5)))))))∧((∃s:D,∃i off:Nat,(a0=(.el s i off:D))∧∃s1:D,∃i1 off1:Nat,(a1=(.el s1 i1 off1:D))∧∃row:List D,(Row σ s1 i1 row)∧∃d:D,((List.take 1 (List.drop off1 row)) =([d]:List D))∧DCalls prog a_a [.one d] σ (fun r Z=>∃n:Int,(r=(.a (iA n) :RV))∧∃row1:List D,(Row Z s i row1)∧∃d1:D,((List.take 1 (List.drop (off+2) row1)) =([d1]:List D))∧∃s2:D,∃i2 off2:Nat,(a1=(.el s2 i2 off2:D))∧∃row2:List D,(Row Z s2 i2 row2)∧∃d2:D,((List.take 1 (List.drop off2 row2)) =([d2]:List D))∧∃s3:D,∃i3 off3:Nat,(a1=(.el s3 i3 off3:D))∧∃row3:List D,(Row Z s3 i3 row3)∧∃d3:D,((List.take 1 (List.drop off3 row3)) =([d3]:List D))∧DCalls prog a_a [.one d2] Z (fun r1 Z1=>∃n1:Int,(r1=(.a (iA n1) :RV))∧DCalls prog a_a [.one d3] Z1 (fun r2 Z2=>∃n2:Int,(r2=(.a (iA n2) :RV))∧Fw.newObj Z2 (.live a_i [[iD n,iD n1,iD n2]]) (fun id Z3=>a_e prog Z3 a_i 24 d1 (.osl id 0 1) (fun d4 Z4=>∃s4:D,∃i4 off4:Nat,(a0=(.el s4 i4 off4:D))∧a_d [d4] Z4 s4 i4 (off4+2) (fun Z5=>Qp (.tup []) Z5)))))))∧∃s:D,∃i off:Nat,(a0=(.el s i off:D))∧∃s1:D,∃i1 off1:Nat,(a1=(.el s1 i1 off1:D))∧∃row:List D,(Row σ s1 i1 row)∧∃d:D,((List.take 1 (List.drop off1 row)) =([d]:List D))∧DCalls prog a_a [.one d] σ (fun r Z=>∃n:Int,(r=(.a (iA n) :RV))∧∃row1:List D,(Row Z s i row1)∧∃d1:D,((List.take 1 (List.drop (off+2) row1)) =([d1]:List D))∧∃s2:D,∃i2 off2:Nat,(a1=(.el s2 i2 off2:D))∧∃row2:List D,(Row Z s2 i2 row2)∧∃d2:D,((List.take 1 (List.drop off2 row2)) =([d2]:List D))∧DCalls prog a_a [.one d2] Z (fun r1 Z1=>∃n1:Int,(r1=(.a (iA n1) :RV))∧∃s3:D,∃i3 off3:Nat,(a1=(.el s3 i3 off3:D))∧∃row3:List D,(Row Z1 s3 i3 row3)∧∃d3:D,((List.take 1 (List.drop off3 row3)) =([d3]:List D))∧DCalls prog a_a [.one d3] Z1 (fun r2 Z2=>∃n2:Int,(r2=(.a (iA n2) :RV))∧Fw.newObj Z2 (.live a_i [[iD n,iD n1,iD n2]]) (fun id Z3=>a_e prog Z3 a_i 24 d1 (.osl id 0 1) (fun d4 Z4=>∃s4:D,∃i4 off4:Nat,(a0=(.el s4 i4 off4:D))∧a_d [d4] Z4 s4 i4 (off4+2) (fun Z5=>Qp (.tup []) Z5)))))))∧((∃s:D,∃i off:Nat,(a0=(.el s i off:D))∧∃s1:D,∃i1 off1:Nat,(a1=(.el s1 i1 off1:D))∧∃row:List D,(Row σ s1 i1 row)∧∃d:D,((List.take 1 (List.drop off1 row)) =([d]:List D))∧DCalls prog a_a [.one d] σ (fun r Z=>∃n:Int,(r=(.a (iA n) :RV))∧∃s2:D,∃i2 off2:Nat,(a1=(.el s2 i2 off2:D))∧∃row1:List D,(Row Z s2 i2 row1)∧∃d1:D,((List.take 1 (List.drop off2 row1)) =([d1]:List D))∧∃s3:D,∃i3 off3:Nat,(a1=(.el s3 i3 off3:D))∧∃row2:List D,(Row Z s3 i3 row2)∧∃d2:D,((List.take 1 (List.drop off3 row2)) =([d2]:List D))∧DCalls prog a_a [.one d1] Z (fun r1 Z1=>∃n1:Int,(r1=(.a (iA n1) :RV))∧∃row3:List D,(Row Z1 s i row3)∧∃d3:D,((List.take 1 (List.drop (off+2) row3)) =([d3]:List D))∧DCalls prog a_a [.one d2] Z1 (fun r2 Z2=>∃n2:Int,(r2=(.a (iA n2) :RV))∧Fw.newObj Z2 (.live a_i [[iD n,iD n1,iD n2]]) (fun id Z3=>a_e prog Z3 a_i 24 d3 (.osl id 0 1) (fun d4 Z4=>∃s4:D,∃i4 off4:Nat,(a0=(.el s4 i4 off4:D))∧a_d [d4] Z4 s4 i4 (off4+2) (fun Z5=>Qp (.tup []) Z5)))))))∧∃s:D,∃i off:Nat,(a0=(.el s i off:D))∧∃s1:D,∃i1 off1:Nat,(a1=(.el s1 i1 off1:D))∧∃row:List D,(Row σ s1 i1 row)∧∃d:D,((List.take 1 (List.drop off1 row)) =([d]:List D))∧DCalls prog a_a [.one d] σ (fun r Z=>∃n:Int,(r=(.a (iA n) :RV))∧∃s2:D,∃i2 off2:Nat,(a1=(.el s2 i2 off2:D))∧∃row1:List D,(Row Z s2 i2 row1)∧∃d1:D,((List.take 1 (List.drop off2 row1)) =([d1]:List D))∧∃s3:D,∃i3 off3:Nat,(a1=(.el s3 i3 off3:D))∧∃row2:List D,(Row Z s3 i3 row2)∧∃d2:D,((List.take 1 (List.drop off3 row2)) =([d2]:List D))∧DCalls prog a_a [.one d1] Z (fun r1 Z1=>∃n1:Int,(r1=(.a (iA n1) :RV))∧DCalls prog a_a [.one d2] Z1 (fun r2 Z2=>∃n2:Int,(r2=(.a (iA n2) :RV))∧∃row3:List D,(Row Z2 s i row3)∧∃d3:D,((List.take 1 (List.drop (off+2) row3)) =([d3]:List D))∧Fw.newObj Z2 (.live a_i [[iD n,iD n1,iD n2]]) (fun id Z3=>a_e prog Z3 a_i 24 d3 (.osl id 0 1) (fun d4 Z4=>∃s4:D,∃i4 off4:Nat,(a0=(.el s4 i4 off4:D))∧a_d [d4] Z4 s4 i4 (off4+2) (fun Z5=>Qp (.tup []) Z5)))))))∧(∃s:D,∃i off:Nat,(a0=(.el s i off:D))∧∃s1:D,∃i1 off1:Nat,(a1=(.el s1 i1 off1:D))∧∃row:List D,(Row σ s1 i1 row)∧∃d:D,((List.take 1 (List.drop off1 row)) =([d]:List D))∧DCalls prog a_a [.one d] σ (fun r Z=>∃n:Int,(r=(.a (iA n) :RV))∧∃s2:D,∃i2 off2:Nat,(a1=(.el s2 i2 off2:D))∧∃row1:List D,(Row Z s2 i2 row1)∧∃d1:D,((List.take 1 (List.drop off2 row1)) =([d1]:List D))∧DCalls prog a_a [.one d1] Z (fun r1 Z1=>∃n1:Int,(r1=(.a (iA n1) :RV))∧∃row2:List D,(Row Z1 s i row2)∧∃d2:D,((List.take 1 (List.drop (off+2) row2)) =([d2]:List D))∧∃s3:D,∃i3 off3:Nat,(a1=(.el s3 i3 off3:D))∧∃row3:List D,(Row Z1 s3 i3 row3)∧∃d3:D,((List.take 1 (List.drop off3 row3)) =([d3]:List D))∧DCalls prog a_a [.one d3] Z1 (fun r2 Z2=>∃n2:Int,(r2=(.a (iA n2) :RV))∧Fw.newObj Z2 (.live a_i [[iD n,iD n1,iD n2]]) (fun id Z3=>a_e prog Z3 a_i 24 d2 (.osl id 0 1) (fun d4 Z4=>∃s4:D,∃i4 off4:Nat,(a0=(.el s4 i4 off4:D))∧a_d [d4] Z4 s4 i4 (off4+2) (fun Z5=>Qp (.tup []) Z5)))))))∧∃s:D,∃i off:Nat,(a0=(.el s i off:D))∧∃s1:D,∃i1 off1:Nat,(a1=(.el s1 i1 off1:D))∧∃row:List D,(Row σ s1 i1 row)∧∃d:D,((List.take 1 (List.drop off1 row)) =([d]:List D))∧DCalls prog a_a [.one d] σ (fun r Z=>∃n:Int,(r=(.a (iA n) :RV))∧∃s2:D,∃i2 off2:Nat,(a1=(.el s2 i2 off2:D))∧∃row1:List D,(Row Z s2 i2 row1)∧∃d1:D,((List.take 1 (List.drop off2 row1)) =([d1]:List D))∧DCalls prog a_a [.one d1] Z (fun r1 Z1=>∃n1:Int,(r1=(.a (iA n1) :RV))∧∃s3:D,∃i3 off3:Nat,(a1=(.el s3 i3 off3:D))∧∃row2:List D,(Row Z1 s3 i3 row2)∧∃d2:D,((List.take 1 (List.drop off3 row2)) =([d2]:List D))∧DCalls prog a_a [.one d2] Z1 (fun r2 Z2=>∃n2:Int,(r2=(.a (iA n2) :RV))∧∃row3:List D,(Row Z2 s i row3)∧∃d3:D,((List.take 1 (List.drop (off+2) row3)) =([d3]:List D))∧Fw.newObj Z2 (.live a_i [[iD n,iD n1,iD n2]]) (fun id Z3=>a_e prog Z3 a_i 24 d3 (.osl id 0 1) (fun d4 Z4=>∃s4:D,∃i4 off4:Nat,(a0=(.el s4 i4 off4:D))∧a_d [d4] Z4 s4 i4 (off4+2) (fun Z5=>Qp (.tup []) Z5))))))
theorem n_q (a0 a1:D)(σ:Store)(Qp:RV→Store→Prop)(h:n_9 a0 a1 σ Qp) :DCalls prog e_m [.one a0, .one a1] σ Qp:=
 a_b mixed (by kernel_rfl) Tryz.func115 m_u (Eq.mp (by kernel_rfl) h)
def z_d:Ann:= { cbs:= [2] }
def a_a3 (s0 s1 s2:Int)(a1:D)(σ:Store)(Qp:RV→Store→Prop) :Prop:=
 ∃s:D,∃i off:Nat,(a1=(.el s i off:D))∧∃row:List D,(Row σ s i row)∧∃n:Int,((List.take 1 (List.drop off row)) =([iD n]:List D))∧Qp (.a (bA (s0 == n))) σ
theorem a_bq (s0 s1 s2:Int)(a1:D)(σ:Store)(Qp:RV→Store→Prop)(h:a_a3 s0 s1 s2 a1 σ Qp) :DCalls prog r_6 [.agg [iD s0,iD s1,iD s2], .one a1] σ Qp:=
 a_b mixed (by kernel_rfl) Tryz.func132 z_d (Eq.mp (by kernel_rfl) h)
def p_e:Ann:= { }
def q_y (s sep:ByteArray)(σ:Store)(Qp:RV→Store→Prop) :Prop:=
 DCalls prog i_q [.one (.str s), .one (.str sep),iA 0] σ (fun r Z=>∃d:D,(r=(.a (.one d) :RV))∧Qp (.a (.one d)) Z)
theorem q_e (s sep:ByteArray)(σ:Store)(Qp:RV→Store→Prop)(h:q_y s sep σ Qp) :DCalls prog f_o [.one (.str s), .one (.str sep)] σ Qp:=
 a_b mixed (by kernel_rfl) Tryz.func51 p_e (Eq.mp (by kernel_rfl) h)
def g_w:Ann:= { }
def h_b (b:D)(s:ByteArray)(σ:Store)(Qp:RV→Store→Prop) :Prop:=
 DCalls prog b_5 [.one b] σ (fun r Z=>(r=(.tup []:RV))∧(a_l b)∧∃s1:D,∃i off:Nat,(b=(.el s1 i off:D))∧∃row:List D,(Row Z s1 i row)∧∃d:D,((List.take 1 (List.drop (off+1) row)) =([d]:List D))∧c_c prog Z 5 1 d (b_0 s) (fun d1 Z1=>(a_l b)∧∃s2:D,∃i1 off1:Nat,(b=(.el s2 i1 off1:D))∧a_d [d1] Z1 s2 i1 (off1+1) (fun Z2=>Qp (.tup [iA (ByteArray.size s:Int), .one (.ifc false)]) Z2)))
theorem h_f (b:D)(s:ByteArray)(σ:Store)(Qp:RV→Store→Prop)(h:h_b b s σ Qp) :DCalls prog b_u [.one b, .one (.str s)] σ Qp:=
 a_b mixed (by kernel_rfl) Tryz.func106 g_w (Eq.mp (by kernel_rfl) h)
end Go.Proofs.YtfdffboelecgoaaGreatDoor
end
section
set_option maxRecDepth 100000
namespace Go.Proofs.YtfdffboelecgoaaGreatDoor
open Go.Fw Go.Proofs
open Go.Proofs.Tryz (prog)
def s_b:Ann:= { cbs:= [2],draws:= [(1,{ ord:= [0,1,2,3,4,5,6,7,8,9,10,11,12,13,14,15,16,17,18,19,20,21,22,23,24,25,26,27,28,29] }),(3,{ ord:= [0,1,2,3,4,5,6,7,8,9,10,11] })] }
def t_v (c0 c1 c2 c3 c4:D)(c5 c6 c7 c8 r:Int)(σ:Store)(Qp:RV→Store→Prop) :Prop:=
 a_c (decide (r < 0)) (Qp (.a (iA (-1))) σ) (∃len:Nat,(Len c4 len)∧a_c (decide (r≥(len:Int))) (Qp (.a (iA (-1))) σ) (∃len1:Nat,(Idx prog σ c4 6 len1)∧((0:Int)≤r)∧(r < (len1:Int))∧∃row:List D,(Row σ c4 (Int.toNat r) row)∧∃n:Int,((List.take 1 row) =([iD n]:List D))∧a_c (decide (n < 0)) (Qp (.a (iA (-1))) σ) (∃len2:Nat,(Idx prog σ c4 6 len2)∧((0:Int)≤r)∧(r < (len2:Int))∧∃row1:List D,(Row σ c4 (Int.toNat r) row1)∧∃n1:Int,((List.take 1 row1) =([iD n1]:List D))∧∃len3:Nat,(Len c2 len3)∧a_c (decide (n1≥(len3:Int))) (Qp (.a (iA (-1))) σ) (∃len4:Nat,(Idx prog σ c4 6 len4)∧((0:Int)≤r)∧(r < (len4:Int))∧∃row2:List D,(Row σ c4 (Int.toNat r) row2)∧∃n2:Int,((List.take 1 row2) =([iD n2]:List D))∧∃len5:Nat,(Idx prog σ c2 2 len5)∧((0:Int)≤n2)∧(n2 < (len5:Int))∧∃row3:List D,(Row σ c2 (Int.toNat n2) row3)∧∃n3:Int,((List.take 1 row3) =([iD n3]:List D))∧Qp (.a (iA n3)) σ))))
theorem t_n (c0 c1 c2 c3 c4:D)(c5 c6 c7 c8 r:Int)(σ:Store)(Qp:RV→Store→Prop)(h:t_v c0 c1 c2 c3 c4 c5 c6 c7 c8 r σ Qp) :DCalls prog g_t [.agg [c0,c1,c2,c3,c4,iD c5,iD c6,iD c7,iD c8],iA r] σ Qp:=
 a_b mixed (by kernel_rfl) Tryz.func22 s_b (Eq.mp (by kernel_rfl) h)
def q_c:Ann:= { draws:= [(6,{ ord:= [0,1,2,3,4,5,6,7,8] })],loops:= [(4,{ mods:= [(13,s6)],keep:= [0,1,12] })] }
def r_3 (a b:D)(σ:Store)(Qp:RV→Store→Prop) :Prop:=
 ∃len:Nat,(Len a len)∧∃len1:Nat,(Len b len1)∧a_c ((len:Int) !=(len1:Int)) (Qp (.a (bA false)) σ) (∃len2:Nat,(Len a len2)∧∃I:Int→Store→Prop,∃μ:Int→Store→Nat,(I 0 σ)∧∀n:Int,∀Z,(I n Z)→a_c (decide (n < (len2:Int))) (∃len3:Nat,(Idx prog Z a 2 len3)∧((0:Int)≤n)∧(n < (len3:Int))∧∃row:List D,(Row Z a (Int.toNat n) row)∧∃n1 n2:Int,((List.take 2 row) =([iD n1,iD n2]:List D))∧∃len4:Nat,(Idx prog Z b 2 len4)∧((0:Int)≤n)∧(n < (len4:Int))∧∃row1:List D,(Row Z b (Int.toNat n) row1)∧∃n3 n4:Int,((List.take 2 row1) =([iD n3,iD n4]:List D))∧a_c (!((n1 == n3) && (n2 == n4))) (Qp (.a (bA false)) Z) ((I (w64 (n+1)) Z)∧((μ (w64 (n+1)) Z) < (μ n Z)))) (Qp (.a (bA true)) Z))
theorem s_g (a b:D)(σ:Store)(Qp:RV→Store→Prop)(h:r_3 a b σ Qp) :DCalls prog g_c [.one a, .one b] σ Qp:=
 a_b mixed (by kernel_rfl) Tryz.func26 q_c (Eq.mp (by kernel_rfl) h)
def t_h:Ann:= { cbs:= [2,3],joins:= [(3,{ keep:= [2,3] }),(8,{ mods:= [(9,s6)],keep:= [2,3,6,8] })] }
def v_a (c0 c1 c2 c3 c4:D)(c5 c6 c7 c8 r0 r1:Int)(r2 r3 r4:D)(r5:Bool)(σ:Store)(Qp:RV→Store→Prop) :Prop:=
 ∀R:Store→Prop,(∀Z,(∃len:Nat,(Idx prog Z c2 2 len)∧((0:Int)≤r1)∧(r1 < (len:Int))∧∃row:List D,(Row Z c2 (Int.toNat r1) row)∧∃n n1:Int,((List.take 2 row) =([iD n,iD n1]:List D))∧DCalls prog i_b [.one c1,iA n,iA n1] Z (fun r Z1=>∃n2 n3:Int,∃b:Bool,(r=(.tup [iA n2,iA n3,bA b]:RV))∧∀R1:Int→Store→Prop,(∀n4:Int,∀Z2,(a_c (!b) (Qp (.a (.one .nils)) Z2) (a_c (decide (n2 < 0)) (Qp (.a (.one .nils)) Z2) (∃len1:Nat,(Len c0 len1)∧a_c (decide (n2≥(len1:Int))) (Qp (.a (.one .nils)) Z2) (DCalls prog b_3 [.one r2] Z2 (fun r6 Z3=>∃d:D,(r6=(.a (.one d) :RV))∧DCalls prog c_3 [.one d,iA n2] Z3 (fun r7 Z4=>∃b1:Bool,(r7=(.a (bA b1) :RV))∧a_c b1 (Qp (.a (.one .nils)) Z4) (a_c (n2 == n4) (Qp (.a (.one .nils)) Z4) (∃len2:Nat,(Idx prog Z4 c0 3 len2)∧((0:Int)≤n2)∧(n2 < (len2:Int))∧∃row1:List D,(Row Z4 c0 (Int.toNat n2) row1)∧∃n5:Int,((List.take 1 (List.drop 2 row1)) =([iD n5]:List D))∧a_c (n5 != 0) (Qp (.a (.one .nils)) Z4) (Fw.newObj Z4 (.live t_int [[iD n2]]) (fun id Z5=>Qp (.a (.one (.osl id 0 1))) Z5))))))))))→R1 n4 Z2)→a_c (decide (r0≥0)) (∃len1:Nat,(Len c2 len1)∧a_c (decide (r0 < (len1:Int))) (∃len2:Nat,(Idx prog Z1 c2 2 len2)∧((0:Int)≤r0)∧(r0 < (len2:Int))∧∃row1:List D,(Row Z1 c2 (Int.toNat r0) row1)∧∃n4:Int,((List.take 1 row1) =([iD n4]:List D))∧R1 n4 Z1) (R1 (-1) Z1)) (R1 (-1) Z1)))→R Z)→a_c r5 (Qp (.a (.one .nils)) σ) (a_c (decide (r1 < 0)) (Qp (.a (.one .nils)) σ) (∃len:Nat,(Len c2 len)∧a_c (decide (r1≥(len:Int))) (Qp (.a (.one .nils)) σ) (R σ)))
theorem v_c (c0 c1 c2 c3 c4:D)(c5 c6 c7 c8 r0 r1:Int)(r2 r3 r4:D)(r5:Bool)(σ:Store)(Qp:RV→Store→Prop)(h:v_a c0 c1 c2 c3 c4 c5 c6 c7 c8 r0 r1 r2 r3 r4 r5 σ Qp) :DCalls prog h_r [.agg [c0,c1,c2,c3,c4,iD c5,iD c6,iD c7,iD c8], .agg [iD r0,iD r1,r2,r3,r4, .bool r5]] σ Qp:=
 a_b mixed (by kernel_rfl) Tryz.func30 t_h (Eq.mp (by kernel_rfl) h)
def m_5:Ann:= { cbs:= [1],draws:= [(6,{ ord:= [0,1,2,3,4,5,6] })],loops:= [(3,{ mods:= [(14,s6)],keep:= [1,3,12,13] })] }
def p_b (p0 p1 p2 p3 p4:D)(p5 p6 p7 p8:Int)(σ:Store)(Qp:RV→Store→Prop) :Prop:=
 Fw.newObj σ (.mp 0 []) (fun id Z=>∃len:Nat,(Len p2 len)∧∃I:Int→Store→Prop,∃μ:Int→Store→Nat,(I 0 Z)∧∀n:Int,∀Z1,(I n Z1)→a_c (decide (n < (len:Int))) (∃len1:Nat,(Idx prog Z1 p2 2 len1)∧((0:Int)≤n)∧(n < (len1:Int))∧∃row:List D,(Row Z1 p2 (Int.toNat n) row)∧∃n1 n2:Int,((List.take 2 row) =([iD n1,iD n2]:List D))∧DCalls prog e_v [.one p1,iA n1,iA n2] Z1 (fun r Z2=>∃n3 n4:Int,∃b:Bool,(r=(.tup [iA n3,iA n4,bA b]:RV))∧∃r1:Option A,(h_e prog b_b Z2 (.omap id) (.agg [iD n1,iD n2]) r1)∧∃n5:Int,((Option.getD r1 (iA 0)) =(iA n5:A))∧a_b4 prog b_b Z2 (.omap id) (.agg [iD n1,iD n2]) (iA 0) (fun (v:A)=>fun n6 Z3=>w_4 Z3 (.omap id) n6 (.one (iD (w64 (n5+1)))) (fun Z4=>a_c (!b) (Qp (.a (bA false)) Z4) (∃r2:Option A,(h_e prog b_b Z4 (.omap id) (.agg [iD n1,iD n2]) r2)∧∃n7:Int,((Option.getD r2 (iA 0)) =(iA n7:A))∧a_c (decide (n7 > 1)) (Qp (.a (bA false)) Z4) ((I (w64 (n+1)) Z4)∧((μ (w64 (n+1)) Z4) < (μ n Z1)))))))) (∃len1:Nat,(Len p2 len1)∧Qp (.a (.one (.bool (decide ((len1:Int)≤12))))) Z1))
theorem o_y (p0 p1 p2 p3 p4:D)(p5 p6 p7 p8:Int)(σ:Store)(Qp:RV→Store→Prop)(h:p_b p0 p1 p2 p3 p4 p5 p6 p7 p8 σ Qp) :DCalls prog e_4 [.agg [p0,p1,p2,p3,p4,iD p5,iD p6,iD p7,iD p8]] σ Qp:=
 a_b mixed (by kernel_rfl) Tryz.func38 m_5 (Eq.mp (by kernel_rfl) h)
def m_n:Ann:= { draws:= [(6,{ ord:= [0,1,2,3,4,5,6,7,8,9] }),(11,{ ord:= [0,1,2,3,4,5,6,7,8,9] })],loops:= [(4,{ mods:= [(3,s6)],keep:= [0] }),(9,{ mods:= [(3,s6),(5,s6)],keep:= [0,4] })] }
def n_k (s:D)(σ:Store)(Qp:RV→Store→Prop) :Prop:=
 ∃len:Nat,(Len s len)∧a_c (decide ((len:Int) < 2)) (Qp (.a (.one s)) σ) (∃I:Int→Store→Prop,∃μ:Int→Store→Nat,(I 1 σ)∧∀n:Int,∀Z,(I n Z)→∃len1:Nat,(Len s len1)∧a_c (decide (n < (len1:Int))) (∃len2:Nat,(Idx prog Z s 1 len2)∧((0:Int)≤n)∧(n < (len2:Int))∧∃row:List D,(Row Z s (Int.toNat n) row)∧∃n1:Int,((List.take 1 row) =([iD n1]:List D))∧∃len3:Nat,(Idx prog Z s 1 len3)∧((0:Int)≤(w64 (n - 1)))∧((w64 (n - 1)) < (len3:Int))∧∃row1:List D,(Row Z s (Int.toNat (w64 (n - 1))) row1)∧∃n2:Int,((List.take 1 row1) =([iD n2]:List D))∧a_c (n1 == n2) (∃len4:Nat,(IdxN prog Z s 1 len4)∧((0:Int)≤n)∧(n≤(len4:Int))∧∃I1:Int→Int→Store→Prop,∃μ1:Int→Int→Store→Nat,(I1 n 1 Z)∧∀n3 n4:Int,∀Z1,(I1 n3 n4 Z1)→∃len5:Nat,(Len (e_g s (Int.toNat n) len4) len5)∧a_c (decide (n4 < (len5:Int))) (∃len6:Nat,(Idx prog Z1 (e_g s (Int.toNat n) len4) 1 len6)∧((0:Int)≤n4)∧(n4 < (len6:Int))∧∃row2:List D,(Row Z1 (e_g s (Int.toNat n) len4) (Int.toNat n4) row2)∧∃n5:Int,((List.take 1 row2) =([iD n5]:List D))∧∃len7:Nat,(Idx prog Z1 (e_g s (Int.toNat n) len4) 1 len7)∧((0:Int)≤(w64 (n4 - 1)))∧((w64 (n4 - 1)) < (len7:Int))∧∃row3:List D,(Row Z1 (e_g s (Int.toNat n) len4) (Int.toNat (w64 (n4 - 1))) row3)∧∃n6:Int,((List.take 1 row3) =([iD n6]:List D))∧a_c (n5 != n6) (∃len8:Nat,(Idx prog Z1 (e_g s (Int.toNat n) len4) 1 len8)∧((0:Int)≤n4)∧(n4 < (len8:Int))∧∃row4:List D,(Row Z1 (e_g s (Int.toNat n) len4) (Int.toNat n4) row4)∧∃n7:Int,((List.take 1 row4) =([iD n7]:List D))∧∃len9:Nat,(Idx prog Z1 s 1 len9)∧((0:Int)≤n3)∧(n3 < (len9:Int))∧a_d [iD n7] Z1 s (Int.toNat n3) 0 (fun Z2=>(I1 (w64 (n3+1)) (w64 (n4+1)) Z2)∧((μ1 (w64 (n3+1)) (w64 (n4+1)) Z2) < (μ1 n3 n4 Z1)))) ((I1 n3 (w64 (n4+1)) Z1)∧((μ1 n3 (w64 (n4+1)) Z1) < (μ1 n3 n4 Z1)))) (∃len6:Nat,(IdxN prog Z1 s 1 len6)∧((0:Int)≤n3)∧(n3≤(len6:Int))∧∃rd:List (List D),(Fw.Rows prog Z1 t_int (e_g s (Int.toNat n3) len6) rd)∧(((rd=([]:List (List D)))∧∃len7:Nat,(IdxN prog Z1 s 1 len7)∧((0:Int)≤0)∧((0:Int)≤n3)∧(n3≤(len7:Int))∧Qp (.a (.one (e_g s 0 (Int.toNat n3)))) Z1)∨(∃id i0 len7:Nat,∃t:TypeId,∃rows:List (List D),((e_g s (Int.toNat n3) len6) =(.osl id i0 len7:D))∧((Z1 id) =(.live t rows:SO))∧∃len8:Nat,(IdxN prog (Store.set Z1 id (.live t (HAppend.hAppend (HAppend.hAppend (List.take i0 rows) (List.replicate len7 [iD 0])) (List.drop (i0+len7) rows)))) s 1 len8)∧((0:Int)≤0)∧((0:Int)≤n3)∧(n3≤(len8:Int))∧Qp (.a (.one (e_g s 0 (Int.toNat n3)))) (Store.set Z1 id (.live t (HAppend.hAppend (HAppend.hAppend (List.take i0 rows) (List.replicate len7 [iD 0])) (List.drop (i0+len7) rows)))))))) ((I (w64 (n+1)) Z)∧((μ (w64 (n+1)) Z) < (μ n Z)))) (Qp (.a (.one s)) Z))
theorem n_4 (s:D)(σ:Store)(Qp:RV→Store→Prop)(h:n_k s σ Qp) :DCalls prog d_h [.one s] σ Qp:=
 a_b mixed (by kernel_rfl) Tryz.func59 m_n (Eq.mp (by kernel_rfl) h)
def l_k:Ann:= { }
def m_j (s:D)(v:Int)(σ:Store)(Qp:RV→Store→Prop) :Prop:=
 DCalls prog d_6 [.one s,iA v] σ (fun r Z=>∃n:Int,(r=(.a (iA n) :RV))∧Qp (.a (.one (.bool (decide (n≥0))))) Z)
theorem m_k (s:D)(v:Int)(σ:Store)(Qp:RV→Store→Prop)(h:m_j s v σ Qp) :DCalls prog e_b [.one s,iA v] σ Qp:=
 a_b mixed (by kernel_rfl) Tryz.func63 l_k (Eq.mp (by kernel_rfl) h)
def y_l:Ann:= { cbs:= [2] }
def a_a4 (c0 c1 c2 c3 c4:D)(c5 c6 c7 c8 s:Int)(σ:Store)(Qp:RV→Store→Prop) :Prop:=
 a_c (decide (s < 0)) (Qp (.a (iA (-1))) σ) (∃len:Nat,(Len c0 len)∧a_c (decide (s≥(len:Int))) (Qp (.a (iA (-1))) σ) (∃len1:Nat,(Idx prog σ c0 3 len1)∧((0:Int)≤s)∧(s < (len1:Int))∧∃row:List D,(Row σ c0 (Int.toNat s) row)∧∃n:Int,((List.take 1 row) =([iD n]:List D))∧Qp (.a (iA n)) σ))
theorem a_b8 (c0 c1 c2 c3 c4:D)(c5 c6 c7 c8 s:Int)(σ:Store)(Qp:RV→Store→Prop)(h:a_a4 c0 c1 c2 c3 c4 c5 c6 c7 c8 s σ Qp) :DCalls prog i_d [.agg [c0,c1,c2,c3,c4,iD c5,iD c6,iD c7,iD c8],iA s] σ Qp:=
 a_b mixed (by kernel_rfl) Tryz.func67 y_l (Eq.mp (by kernel_rfl) h)
def a_cf:Ann:= { }
def a_ec (kind:Int)(σ:Store)(Qp:RV→Store→Prop) :Prop:=
 a_c (kind == 0) (Fw.newObj σ (.live b_m [[iD 0,iD 1,iD 0]]) (fun id Z=>Qp (.a (.one (.osl id 0 1))) Z)) (a_c (kind == 1) (Fw.newObj σ (.live b_m [[iD 0,iD 1,iD 1],[iD 0,iD 2,iD 2]]) (fun id Z=>Qp (.a (.one (.osl id 0 2))) Z)) (a_c (kind == 2) (Fw.newObj σ (.live b_m [[iD 0,iD 1,iD 0],[iD 2,iD 3,iD 0]]) (fun id Z=>Qp (.a (.one (.osl id 0 2))) Z)) (Qp (.a (.one .nils)) σ)))
theorem a_ex (kind:Int)(σ:Store)(Qp:RV→Store→Prop)(h:a_ec kind σ Qp) :DCalls prog j_y [iA kind] σ Qp:=
 a_b mixed (by kernel_rfl) Tryz.func71 a_cf (Eq.mp (by kernel_rfl) h)
def o_6:Ann:= { draws:= [(6,{ ord:= [0,1,2,3,4,5,6,7,8] })],loops:= [(4,{ mods:= [(13,s6)],keep:= [0,1,12] })] }
def q_s (s1 s2:D)(σ:Store)(Qp:RV→Store→Prop) :Prop:=
 ∃len:Nat,(Len s1 len)∧∃len1:Nat,(Len s2 len1)∧a_c ((len:Int) !=(len1:Int)) (Qp (.a (bA false)) σ) (∃len2:Nat,(Len s1 len2)∧∃I:Int→Store→Prop,∃μ:Int→Store→Nat,(I 0 σ)∧∀n:Int,∀Z,(I n Z)→a_c (decide (n < (len2:Int))) (∃len3:Nat,(Idx prog Z s1 1 len3)∧((0:Int)≤n)∧(n < (len3:Int))∧∃row:List D,(Row Z s1 (Int.toNat n) row)∧∃n1:Int,((List.take 1 row) =([iD n1]:List D))∧∃len4:Nat,(Idx prog Z s2 1 len4)∧((0:Int)≤n)∧(n < (len4:Int))∧∃row1:List D,(Row Z s2 (Int.toNat n) row1)∧∃n2:Int,((List.take 1 row1) =([iD n2]:List D))∧a_c (n1 != n2) (Qp (.a (bA false)) Z) ((I (w64 (n+1)) Z)∧((μ (w64 (n+1)) Z) < (μ n Z)))) (Qp (.a (bA true)) Z))
theorem q_h (s1 s2:D)(σ:Store)(Qp:RV→Store→Prop)(h:q_s s1 s2 σ Qp) :DCalls prog f_m [.one s1, .one s2] σ Qp:=
 a_b mixed (by kernel_rfl) Tryz.func80 o_6 (Eq.mp (by kernel_rfl) h)
def p_j:Ann:= { draws:= [(4,{ ord:= [0,1,2,3,4,5,6] })],loops:= [(2,{ mods:= [(15,s6)],keep:= [0,13,14] })] }
def q_z (p:D)(word:ByteArray)(list:D)(σ:Store)(Qp:RV→Store→Prop) :Prop:=
 (a_l p)∧∃s:D,∃i off:Nat,(p=(.el s i off:D))∧DCalls prog b_u [.one (.el s i (off+0)), .one (.str word)] σ (fun r Z=>∃n:Int,∃d:D,(r=(.tup [iA n, .one d]:RV))∧∃len:Nat,(Len list len)∧∃I:Int→Store→Prop,∃μ:Int→Store→Nat,(I 0 Z)∧∀n1:Int,∀Z1,(I n1 Z1)→a_c (decide (n1 < (len:Int))) (∃len1:Nat,(Idx prog Z1 list 1 len1)∧((0:Int)≤n1)∧(n1 < (len1:Int))∧∃row:List D,(Row Z1 list (Int.toNat n1) row)∧∃n2:Int,((List.take 1 row) =([iD n2]:List D))∧(a_l p)∧∃s1:D,∃i1 off1:Nat,(p=(.el s1 i1 off1:D))∧DCalls prog g_d [iA n2] Z1 (fun r1 Z2=>∃s2:ByteArray,(r1=(.a (.one (.str s2)) :RV))∧(((1:Int) + (ByteArray.size s2:Int))≤9223372036854775807)∧DCalls prog b_u [.one (.el s1 i1 (off1+0)), .one (.str (ByteArray.mk (Array.mk (HAppend.hAppend (Array.toList (ByteArray.data (ByteArray.mk (List.toArray [32])))) (Array.toList (ByteArray.data s2))))))] Z2 (fun r2 Z3=>∃n3:Int,∃d1:D,(r2=(.tup [iA n3, .one d1]:RV))∧(I (w64 (n1+1)) Z3)∧((μ (w64 (n1+1)) Z3) < (μ n1 Z1))))) (Qp (.tup []) Z1))
theorem q_i (p:D)(word:ByteArray)(list:D)(σ:Store)(Qp:RV→Store→Prop)(h:q_z p word list σ Qp) :DCalls prog a_6 [.one p, .one (.str word), .one list] σ Qp:=
 a_b mixed (by kernel_rfl) Tryz.func84 p_j (Eq.mp (by kernel_rfl) h)
def p_i:Ann:= { loops:= [(2,{ mods:= [(8,s6)],keep:= [0,1,7] })] }
def q_9 (s:D)(v:Int)(σ:Store)(Qp:RV→Store→Prop) :Prop:=
 ∃len:Nat,(Len s len)∧∃I:Int→Store→Prop,∃μ:Int→Store→Nat,(I 0 σ)∧∀n:Int,∀Z,(I n Z)→a_c (decide (n < (len:Int))) (∃len1:Nat,(Idx prog Z s 1 len1)∧((0:Int)≤n)∧(n < (len1:Int))∧∃row:List D,(Row Z s (Int.toNat n) row)∧∃n1:Int,((List.take 1 row) =([iD n1]:List D))∧a_c (v == n1) (Qp (.a (iA n)) Z) ((I (w64 (n+1)) Z)∧((μ (w64 (n+1)) Z) < (μ n Z)))) (Qp (.a (iA (-1))) Z)
theorem q_4 (s:D)(v:Int)(σ:Store)(Qp:RV→Store→Prop)(h:q_9 s v σ Qp) :DCalls prog d_6 [.one s,iA v] σ Qp:=
 a_b mixed (by kernel_rfl) Tryz.func99 p_i (Eq.mp (by kernel_rfl) h)
def y_s:Ann:= { }
def a_cl (kind:Int)(σ:Store)(Qp:RV→Store→Prop) :Prop:=
 a_c (kind == 0) (Fw.newObj σ (.live f_v [[iD 0,iD 1,iD 0]]) (fun id Z=>Qp (.a (.one (.osl id 0 1))) Z)) (a_c (kind == 1) (Fw.newObj σ (.live f_v [[iD 0,iD 1,iD 1],[iD 0,iD 2,iD 2]]) (fun id Z=>Qp (.a (.one (.osl id 0 2))) Z)) (a_c (kind == 2) (Fw.newObj σ (.live f_v [[iD 0,iD 1,iD 0],[iD 2,iD 3,iD 0]]) (fun id Z=>Qp (.a (.one (.osl id 0 2))) Z)) (Qp (.a (.one .nils)) σ)))
theorem a_b1 (kind:Int)(σ:Store)(Qp:RV→Store→Prop)(h:a_cl kind σ Qp) :DCalls prog l_5 [iA kind] σ Qp:=
 a_b mixed (by kernel_rfl) Tryz.func103 y_s (Eq.mp (by kernel_rfl) h)
def m_q:Ann:= { splits:= [(0,(DT.split 1 3 (DT.split 4 3 (DT.leaf { ord:= [0,1,2,4,3,5,6,7,8,9,10] }) (DT.leaf { ord:= [0,1,2,3,4,5,6,7,8,9,10] })) (DT.split 4 3 (DT.split 1 5 (DT.leaf { ord:= [0,2,4,3,1,5,6,7,8,9,10] }) (DT.leaf { ord:= [0,2,4,3,5,1,6,7,8,9,10] })) (DT.split 1 5 (DT.leaf { ord:= [0,2,3,1,4,5,6,7,8,9,10] }) (DT.leaf { ord:= [0,2,3,4,5,1,6,7,8,9,10] })))))] }
def n_t (a0 a1:D)(σ:Store)(Qp:RV→Store→Prop) :Prop:=
 ((∃s:D,∃i off:Nat,(a0=(.el s i off:D))∧∃row:List D,(Row σ s i row)∧∃d:D,((List.take 1 (List.drop (off+3) row)) =([d]:List D))∧∃s1:D,∃i1 off1:Nat,(a1=(.el s1 i1 off1:D))∧∃row1:List D,(Row σ s1 i1 row1)∧∃d1:D,((List.take 1 (List.drop off1 row1)) =([d1]:List D))∧∃s2:D,∃i2 off2:Nat,(a1=(.el s2 i2 off2:D))∧∃row2:List D,(Row σ s2 i2 row2)∧∃d2:D,((List.take 1 (List.drop off2 row2)) =([d2]:List D))∧DCalls prog a_a [.one d1] σ (fun r Z=>∃n:Int,(r=(.a (iA n) :RV))∧DCalls prog a_a [.one d2] Z (fun r1 Z1=>∃n1:Int,(r1=(.a (iA n1) :RV))∧Fw.newObj Z1 (.live a_r [[iD n,iD n1]]) (fun id Z2=>a_e prog Z2 a_r 16 d (.osl id 0 1) (fun d3 Z3=>∃s3:D,∃i3 off3:Nat,(a0=(.el s3 i3 off3:D))∧a_d [d3] Z3 s3 i3 (off3+3) (fun Z4=>Qp (.tup []) Z4))))))∧∃s:D,∃i off:Nat,(a0=(.el s i off:D))∧∃row:List D,(Row σ s i row)∧∃d:D,((List.take 1 (List.drop (off+3) row)) =([d]:List D))∧∃s1:D,∃i1 off1:Nat,(a1=(.el s1 i1 off1:D))∧∃row1:List D,(Row σ s1 i1 row1)∧∃d1:D,((List.take 1 (List.drop off1 row1)) =([d1]:List D))∧DCalls prog a_a [.one d1] σ (fun r Z=>∃n:Int,(r=(.a (iA n) :RV))∧∃s2:D,∃i2 off2:Nat,(a1=(.el s2 i2 off2:D))∧∃row2:List D,(Row Z s2 i2 row2)∧∃d2:D,((List.take 1 (List.drop off2 row2)) =([d2]:List D))∧DCalls prog a_a [.one d2] Z (fun r1 Z1=>∃n1:Int,(r1=(.a (iA n1) :RV))∧Fw.newObj Z1 (.live a_r [[iD n,iD n1]]) (fun id Z2=>a_e prog Z2 a_r 16 d (.osl id 0 1) (fun d3 Z3=>∃s3:D,∃i3 off3:Nat,(a0=(.el s3 i3 off3:D))∧a_d [d3] Z3 s3 i3 (off3+3) (fun Z4=>Qp (.tup []) Z4))))))∧((∃s:D,∃i off:Nat,(a0=(.el s i off:D))∧∃s1:D,∃i1 off1:Nat,(a1=(.el s1 i1 off1:D))∧∃row:List D,(Row σ s1 i1 row)∧∃d:D,((List.take 1 (List.drop off1 row)) =([d]:List D))∧∃s2:D,∃i2 off2:Nat,(a1=(.el s2 i2 off2:D))∧∃row1:List D,(Row σ s2 i2 row1)∧∃d1:D,((List.take 1 (List.drop off2 row1)) =([d1]:List D))∧DCalls prog a_a [.one d] σ (fun r Z=>∃n:Int,(r=(.a (iA n) :RV))∧∃row2:List D,(Row Z s i row2)∧∃d2:D,((List.take 1 (List.drop (off+3) row2)) =([d2]:List D))∧DCalls prog a_a [.one d1] Z (fun r1 Z1=>∃n1:Int,(r1=(.a (iA n1) :RV))∧Fw.newObj Z1 (.live a_r [[iD n,iD n1]]) (fun id Z2=>a_e prog Z2 a_r 16 d2 (.osl id 0 1) (fun d3 Z3=>∃s3:D,∃i3 off3:Nat,(a0=(.el s3 i3 off3:D))∧a_d [d3] Z3 s3 i3 (off3+3) (fun Z4=>Qp (.tup []) Z4))))))∧∃s:D,∃i off:Nat,(a0=(.el s i off:D))∧∃s1:D,∃i1 off1:Nat,(a1=(.el s1 i1 off1:D))∧∃row:List D,(Row σ s1 i1 row)∧∃d:D,((List.take 1 (List.drop off1 row)) =([d]:List D))∧∃s2:D,∃i2 off2:Nat,(a1=(.el s2 i2 off2:D))∧∃row1:List D,(Row σ s2 i2 row1)∧∃d1:D,((List.take 1 (List.drop off2 row1)) =([d1]:List D))∧DCalls prog a_a [.one d] σ (fun r Z=>∃n:Int,(r=(.a (iA n) :RV))∧DCalls prog a_a [.one d1] Z (fun r1 Z1=>∃n1:Int,(r1=(.a (iA n1) :RV))∧∃row2:List D,(Row Z1 s i row2)∧∃d2:D,((List.take 1 (List.drop (off+3) row2)) =([d2]:List D))∧Fw.newObj Z1 (.live a_r [[iD n,iD n1]]) (fun id Z2=>a_e prog Z2 a_r 16 d2 (.osl id 0 1) (fun d3 Z3=>∃s3:D,∃i3 off3:Nat,(a0=(.el s3 i3 off3:D))∧a_d [d3] Z3 s3 i3 (off3+3) (fun Z4=>Qp (.tup []) Z4))))))∧(∃s:D,∃i off:Nat,(a0=(.el s i off:D))∧∃s1:D,∃i1 off1:Nat,(a1=(.el s1 i1 off1:D))∧∃row:List D,(Row σ s1 i1 row)∧∃d:D,((List.take 1 (List.drop off1 row)) =([d]:List D))∧DCalls prog a_a [.one d] σ (fun r Z=>∃n:Int,(r=(.a (iA n) :RV))∧∃row1:List D,(Row Z s i row1)∧∃d1:D,((List.take 1 (List.drop (off+3) row1)) =([d1]:List D))∧∃s2:D,∃i2 off2:Nat,(a1=(.el s2 i2 off2:D))∧∃row2:List D,(Row Z s2 i2 row2)∧∃d2:D,((List.take 1 (List.drop off2 row2)) =([d2]:List D))∧DCalls prog a_a [.one d2] Z (fun r1 Z1=>∃n1:Int,(r1=(.a (iA n1) :RV))∧Fw.newObj Z1 (.live a_r [[iD n,iD n1]]) (fun id Z2=>a_e prog Z2 a_r 16 d1 (.osl id 0 1) (fun d3 Z3=>∃s3:D,∃i3 off3:Nat,(a0=(.el s3 i3 off3:D))∧a_d [d3] Z3 s3 i3 (off3+3) (fun Z4=>Qp (.tup []) Z4))))))∧∃s:D,∃i off:Nat,(a0=(.el s i off:D))∧∃s1:D,∃i1 off1:Nat,(a1=(.el s1 i1 off1:D))∧∃row:List D,(Row σ s1 i1 row)∧∃d:D,((List.take 1 (List.drop off1 row)) =([d]:List D))∧DCalls prog a_a [.one d] σ (fun r Z=>∃n:Int,(r=(.a (iA n) :RV))∧∃s2:D,∃i2 off2:Nat,(a1=(.el s2 i2 off2:D))∧∃row1:List D,(Row Z s2 i2 row1)∧∃d1:D,((List.take 1 (List.drop off2 row1)) =([d1]:List D))∧DCalls prog a_a [.one d1] Z (fun r1 Z1=>∃n1:Int,(r1=(.a (iA n1) :RV))∧∃row2:List D,(Row Z1 s i row2)∧∃d2:D,((List.take 1 (List.drop (off+3) row2)) =([d2]:List D))∧Fw.newObj Z1 (.live a_r [[iD n,iD n1]]) (fun id Z2=>a_e prog Z2 a_r 16 d2 (.osl id 0 1) (fun d3 Z3=>∃s3:D,∃i3 off3:Nat,(a0=(.el s3 i3 off3:D))∧a_d [d3] Z3 s3 i3 (off3+3) (fun Z4=>Qp (.tup []) Z4)))))
theorem n_8 (a0 a1:D)(σ:Store)(Qp:RV→Store→Prop)(h:n_t a0 a1 σ Qp) :DCalls prog e_j [.one a0, .one a1] σ Qp:=
 a_b mixed (by kernel_rfl) Tryz.func116 m_q (Eq.mp (by kernel_rfl) h)
def j_9:Ann:= { loops:= [(2,{ mods:= [(8,s6)],keep:= [0,1,7] })] }
def k_o (s f:D)(σ:Store)(Qp:RV→Store→Prop) :Prop:=
 ∃len:Nat,(Len s len)∧∃I:Int→Store→Prop,∃μ:Int→Store→Nat,(I 0 σ)∧∀n:Int,∀Z,(I n Z)→a_c (decide (n < (len:Int))) (∃len1:Nat,(Idx prog Z s 2 len1)∧((0:Int)≤n)∧(n < (len1:Int))∧∃row:List D,(Row Z s (Int.toNat n) row)∧∃n1 n2:Int,((List.take 2 row) =([iD n1,iD n2]:List D))∧∃f1:FuncId,∃a:List (Bool × (List D)),∃b:List (Bool × (List D)),∃as0':List A,∃bs:List A,(f=(.fn f1 a b:D))∧((e_7 a) =(Option.some as0'))∧((e_7 b) =(Option.some bs))∧DCalls prog f1 (HAppend.hAppend (HAppend.hAppend as0' [.agg [iD n1,iD n2]]) bs) Z (fun r Z1=>∃b1:Bool,(r=(.a (bA b1) :RV))∧a_c b1 (Qp (.a (iA n)) Z1) ((I (w64 (n+1)) Z1)∧((μ (w64 (n+1)) Z1) < (μ n Z))))) (Qp (.a (iA (-1))) Z)
theorem k_v (s f:D)(σ:Store)(Qp:RV→Store→Prop)(h:k_o s f σ Qp) :DCalls prog d_w [.one s, .one f] σ Qp:=
 a_b mixed (by kernel_rfl) Tryz.func133 j_9 (Eq.mp (by kernel_rfl) h)
def n_j:Ann:= { }
def p_c (s suffix:ByteArray)(σ:Store)(Qp:RV→Store→Prop) :Prop:=
 DCalls prog b_8 [.one (.str s), .one (.str suffix)] σ (fun r Z=>∃s1:ByteArray,∃b:Bool,(r=(.tup [.one (.str s1),bA b]:RV))∧Qp (.tup [.one (.str s1),bA b]) Z)
theorem o_7 (s suffix:ByteArray)(σ:Store)(Qp:RV→Store→Prop)(h:p_c s suffix σ Qp) :DCalls prog e_2 [.one (.str s), .one (.str suffix)] σ Qp:=
 a_b mixed (by kernel_rfl) Tryz.func50 n_j (Eq.mp (by kernel_rfl) h)
def o_5:Ann:= { esc:= [4,3,5] }
def r_a (s sep:ByteArray)(sepSave:Int)(σ:Store)(Qp:RV→Store→Prop) :Prop:=
 Fw.newObj σ (.live c_g [[.str s]]) (fun id Z=>Fw.newObj Z (.live c_g [[.str sep]]) (fun id1 Z1=>Fw.newObj Z1 (.live t_int [[iD sepSave]]) (fun id2 Z2=>Qp (.a (.one (.fn d_i [] [(false,[.el (.osl id1 0 1) 0 0]),(false,[.el (.osl id 0 1) 0 0]),(false,[.el (.osl id2 0 1) 0 0])]))) Z2)))
theorem p_1 (s sep:ByteArray)(sepSave:Int)(σ:Store)(Qp:RV→Store→Prop)(h:r_a s sep sepSave σ Qp) :DCalls prog i_q [.one (.str s), .one (.str sep),iA sepSave] σ Qp:=
 a_b mixed (by kernel_rfl) Tryz.func87 o_5 (Eq.mp (by kernel_rfl) h)
end Go.Proofs.YtfdffboelecgoaaGreatDoor
end
section
set_option maxRecDepth 100000
namespace Go.Proofs.YtfdffboelecgoaaGreatDoor
open Go.Fw Go.Proofs
open Go.Proofs.Tryz (prog)
def x_g:Ann:= { frz:= [19] }
def y_z (σ:Store)(Qp:RV→Store→Prop) :Prop:=
 DCalls prog k_e [] σ (fun r Z=>∃d d1 d2 d3 d4:D,∃n n1 n2 n3:Int,(r=(.a (.agg [d,d1,d2,d3,d4,iD n,iD n1,iD n2,iD n3]) :RV))∧DCalls prog b_9 [.agg [d,d1,d2,d3,d4,iD n,iD n1,iD n2,iD n3],iA 0] Z (fun r1 Z1=>∃d5:D,(r1=(.a (.one d5) :RV))∧DCalls prog n_o [.agg [d,d1,d2,d3,d4,iD n,iD n1,iD n2,iD n3]] Z1 (fun r2 Z2=>∃s:ByteArray,(r2=(.a (.one (.str s)) :RV))∧DCalls prog j_o [.one (.str s)] Z2 (fun r3 Z3=>∃d6 d7 d8 d9 d10:D,∃n4 n5 n6 n7 n8:Int,(r3=(.tup [.agg [d6,d7,d8,d9,d10,iD n4,iD n5,iD n6,iD n7],iA n8]:RV))∧DCalls prog m_b [.agg [d,d1,d2,d3,d4,iD n,iD n1,iD n2,iD n3]] Z3 (fun r4 Z4=>∃n9:Int,(r4=(.a (iA n9) :RV))∧a_c (n9 == 0) (DCalls prog d_t [.one d5, .one (.sl 1 [[iD 1],[iD 2]])] Z4 (fun r5 Z5=>∃b:Bool,(r5=(.a (bA b) :RV))∧a_c b (a_c (n8 == 0) (DCalls prog l_n [.agg [d6,d7,d8,d9,d10,iD n4,iD n5,iD n6,iD n7], .agg [d,d1,d2,d3,d4,iD n,iD n1,iD n2,iD n3]] Z5 (fun r6 Z6=>∃b1:Bool,(r6=(.a (bA b1) :RV))∧a_c b1 (DCalls prog f_j [.agg [d,d1,d2,d3,d4,iD n,iD n1,iD n2,iD n3],iA 0] Z6 (fun r7 Z7=>∃n10:Int,(r7=(.a (iA n10) :RV))∧a_c (n10 == 0) (DCalls prog f_g [.agg [d,d1,d2,d3,d4,iD n,iD n1,iD n2,iD n3],iA 0,iA 0] Z7 (fun r8 Z8=>∃b2:Bool,(r8=(.a (bA b2) :RV))∧Qp (.a (bA b2)) Z8)) (Qp (.a (bA false)) Z7))) (Qp (.a (bA false)) Z6))) (Qp (.a (bA false)) Z5)) (Qp (.a (bA false)) Z5))) (Qp (.a (bA false)) Z4))))))
theorem y_o (σ:Store)(Qp:RV→Store→Prop)(h:y_z σ Qp) :DCalls prog j_8 [] σ Qp:=
 a_b mixed (by kernel_rfl) Tryz.func10 x_g (Eq.mp (by kernel_rfl) h)
def a_az:Ann:= { esc:= [15],cbs:= [1],loops:= [(3,{ mods:= [(19,s6)],keep:= [1,3,17,18] }),(8,{ mods:= [(36,s6)],keep:= [1,3,34,35] }),(13,{ mods:= [(55,s6)],keep:= [1,3,53,54] }),(18,{ mods:= [(70,s6)],keep:= [1,3,68,69] }),(23,{ mods:= [(82,s6)],keep:= [1,3,80,81] })] }
def a_fp (c0 c1 c2 c3 c4:D)(c5 c6 c7 c8:Int)(σ:Store)(Qp:RV→Store→Prop) :Prop:=
 Fw.newObj σ (.live b_z [[.nilp, .nils]]) (fun id Z=>∃len:Nat,(Len c0 len)∧∃I:Int→Store→Prop,∃μ:Int→Store→Nat,(I 0 Z)∧∀n:Int,∀Z1,(I n Z1)→a_c (decide (n < (len:Int))) (∃len1:Nat,(Idx prog Z1 c0 3 len1)∧((0:Int)≤n)∧(n < (len1:Int))∧∃row:List D,(Row Z1 c0 (Int.toNat n) row)∧∃n1 n2 n3:Int,((List.take 3 row) =([iD n1,iD n2,iD n3]:List D))∧Fw.newObj Z1 (.live t_int [[iD n1],[iD n2],[iD n3]]) (fun id1 Z2=>DCalls prog b_a [.one (.el (.osl id 0 1) 0 0), .one (.str (ByteArray.mk (List.toArray [115,101,99,116,105,111,110]))), .one (.osl id1 0 3)] Z2 (fun r Z3=>(r=(.tup []:RV))∧(I (w64 (n+1)) Z3)∧((μ (w64 (n+1)) Z3) < (μ n Z1))))) (∃len1:Nat,(Len c1 len1)∧∃I1:Int→Store→Prop,∃μ1:Int→Store→Nat,(I1 0 Z1)∧∀n1:Int,∀Z2,(I1 n1 Z2)→a_c (decide (n1 < (len1:Int))) (∃len2:Nat,(Idx prog Z2 c1 4 len2)∧((0:Int)≤n1)∧(n1 < (len2:Int))∧∃row:List D,(Row Z2 c1 (Int.toNat n1) row)∧∃n2 n3 n4 n5:Int,((List.take 4 row) =([iD n2,iD n3,iD n4,iD n5]:List D))∧Fw.newObj Z2 (.live t_int [[iD n2],[iD n3],[iD n4],[iD n5]]) (fun id1 Z3=>DCalls prog b_a [.one (.el (.osl id 0 1) 0 0), .one (.str (ByteArray.mk (List.toArray [106,111,105,110,116]))), .one (.osl id1 0 4)] Z3 (fun r Z4=>(r=(.tup []:RV))∧(I1 (w64 (n1+1)) Z4)∧((μ1 (w64 (n1+1)) Z4) < (μ1 n1 Z2))))) (∃len2:Nat,(Len c2 len2)∧∃I2:Int→Store→Prop,∃μ2:Int→Store→Nat,(I2 0 Z2)∧∀n2:Int,∀Z3,(I2 n2 Z3)→a_c (decide (n2 < (len2:Int))) (∃len3:Nat,(Idx prog Z3 c2 2 len3)∧((0:Int)≤n2)∧(n2 < (len3:Int))∧∃row:List D,(Row Z3 c2 (Int.toNat n2) row)∧∃n3 n4:Int,((List.take 2 row) =([iD n3,iD n4]:List D))∧Fw.newObj Z3 (.live t_int [[iD n3],[iD n4]]) (fun id1 Z4=>DCalls prog b_a [.one (.el (.osl id 0 1) 0 0), .one (.str (ByteArray.mk (List.toArray [115,105,103,110,97,108]))), .one (.osl id1 0 2)] Z4 (fun r Z5=>(r=(.tup []:RV))∧(I2 (w64 (n2+1)) Z5)∧((μ2 (w64 (n2+1)) Z5) < (μ2 n2 Z3))))) (∃len3:Nat,(Len c3 len3)∧∃I3:Int→Store→Prop,∃μ3:Int→Store→Nat,(I3 0 Z3)∧∀n3:Int,∀Z4,(I3 n3 Z4)→a_c (decide (n3 < (len3:Int))) (∃len4:Nat,(Idx prog Z4 c3 1 len4)∧((0:Int)≤n3)∧(n3 < (len4:Int))∧∃row:List D,(Row Z4 c3 (Int.toNat n3) row)∧∃n4:Int,((List.take 1 row) =([iD n4]:List D))∧Fw.newObj Z4 (.live t_int [[iD n4]]) (fun id1 Z5=>DCalls prog b_a [.one (.el (.osl id 0 1) 0 0), .one (.str (ByteArray.mk (List.toArray [99,114,111,115,115,105,110,103]))), .one (.osl id1 0 1)] Z5 (fun r Z6=>(r=(.tup []:RV))∧(I3 (w64 (n3+1)) Z6)∧((μ3 (w64 (n3+1)) Z6) < (μ3 n3 Z4))))) (∃len4:Nat,(Len c4 len4)∧∃I4:Int→Store→Prop,∃μ4:Int→Store→Nat,(I4 0 Z4)∧∀n4:Int,∀Z5,(I4 n4 Z5)→a_c (decide (n4 < (len4:Int))) (∃len5:Nat,(Idx prog Z5 c4 6 len5)∧((0:Int)≤n4)∧(n4 < (len5:Int))∧∃row:List D,(Row Z5 c4 (Int.toNat n4) row)∧∃n5 n6:Int,∃d d1 d2:D,∃b:Bool,((List.take 6 row) =([iD n5,iD n6,d,d1,d2, .bool b]:List D))∧DCalls prog e_o [.one (.el (.osl id 0 1) 0 0), .agg [iD n5,iD n6,d,d1,d2, .bool b]] Z5 (fun r Z6=>(r=(.tup []:RV))∧(I4 (w64 (n4+1)) Z6)∧((μ4 (w64 (n4+1)) Z6) < (μ4 n4 Z5)))) (Fw.newObj Z5 (.live t_int [[iD c5],[iD c6],[iD c7],[iD c8]]) (fun id1 Z6=>DCalls prog b_a [.one (.el (.osl id 0 1) 0 0), .one (.str (ByteArray.mk (List.toArray [116,105,109,105,110,103]))), .one (.osl id1 0 4)] Z6 (fun r Z7=>(r=(.tup []:RV))∧DCalls prog d_l [.one (.el (.osl id 0 1) 0 0)] Z7 (fun r1 Z8=>∃s:ByteArray,(r1=(.a (.one (.str s)) :RV))∧Qp (.a (.one (.str s))) Z8)))))))))
theorem a_fg (c0 c1 c2 c3 c4:D)(c5 c6 c7 c8:Int)(σ:Store)(Qp:RV→Store→Prop)(h:a_fp c0 c1 c2 c3 c4 c5 c6 c7 c8 σ Qp) :DCalls prog n_o [.agg [c0,c1,c2,c3,c4,iD c5,iD c6,iD c7,iD c8]] σ Qp:=
 a_b mixed (by kernel_rfl) Tryz.func14 a_az (Eq.mp (by kernel_rfl) h)
def r_g:Ann:= { draws:= [(6,{ ord:= [0,1,2,3,4,5,6,7,8] })],loops:= [(4,{ mods:= [(13,s6)],keep:= [0,1,12] })] }
def t_s (a b:D)(σ:Store)(Qp:RV→Store→Prop) :Prop:=
 ∃len:Nat,(Len a len)∧∃len1:Nat,(Len b len1)∧a_c ((len:Int) !=(len1:Int)) (Qp (.a (bA false)) σ) (∃len2:Nat,(Len a len2)∧∃I:Int→Store→Prop,∃μ:Int→Store→Nat,(I 0 σ)∧∀n:Int,∀Z,(I n Z)→a_c (decide (n < (len2:Int))) (∃len3:Nat,(Idx prog Z a 1 len3)∧((0:Int)≤n)∧(n < (len3:Int))∧∃row:List D,(Row Z a (Int.toNat n) row)∧∃n1:Int,((List.take 1 row) =([iD n1]:List D))∧∃len4:Nat,(Idx prog Z b 1 len4)∧((0:Int)≤n)∧(n < (len4:Int))∧∃row1:List D,(Row Z b (Int.toNat n) row1)∧∃n2:Int,((List.take 1 row1) =([iD n2]:List D))∧a_c (n1 != n2) (Qp (.a (bA false)) Z) ((I (w64 (n+1)) Z)∧((μ (w64 (n+1)) Z) < (μ n Z)))) (Qp (.a (bA true)) Z))
theorem s_2 (a b:D)(σ:Store)(Qp:RV→Store→Prop)(h:t_s a b σ Qp) :DCalls prog d_t [.one a, .one b] σ Qp:=
 a_b mixed (by kernel_rfl) Tryz.func19 r_g (Eq.mp (by kernel_rfl) h)
def t_x:Ann:= { esc:= [7],cbs:= [3] }
def v_e (c0 c1 c2 c3 c4:D)(c5 c6 c7 c8 a b:Int)(σ:Store)(Qp:RV→Store→Prop) :Prop:=
 DCalls prog b_9 [.agg [c0,c1,c2,c3,c4,iD c5,iD c6,iD c7,iD c8],iA b] σ (fun r Z=>∃d:D,(r=(.a (.one d) :RV))∧Fw.newObj Z (.live a_c0 [[.nils]]) (fun id Z1=>a_d [d] Z1 (.osl id 0 1) 0 0 (fun Z2=>DCalls prog b_9 [.agg [c0,c1,c2,c3,c4,iD c5,iD c6,iD c7,iD c8],iA a] Z2 (fun r1 Z3=>∃d1:D,(r1=(.a (.one d1) :RV))∧DCalls prog d_a [.one d1, .one (.fn f_7 [] [(false,[.el (.osl id 0 1) 0 0])])] Z3 (fun r2 Z4=>∃b1:Bool,(r2=(.a (bA b1) :RV))∧Qp (.a (bA b1)) Z4)))))
theorem v_j (c0 c1 c2 c3 c4:D)(c5 c6 c7 c8 a b:Int)(σ:Store)(Qp:RV→Store→Prop)(h:v_e c0 c1 c2 c3 c4 c5 c6 c7 c8 a b σ Qp) :DCalls prog f_g [.agg [c0,c1,c2,c3,c4,iD c5,iD c6,iD c7,iD c8],iA a,iA b] σ Qp:=
 a_b mixed (by kernel_rfl) Tryz.func23 t_x (Eq.mp (by kernel_rfl) h)
def y_q:Ann:= { cbs:= [3] }
def a_cn (c0 c1 c2 c3 c4:D)(c5 c6 c7 c8 approach:Int)(path:D)(σ:Store)(Qp:RV→Store→Prop) :Prop:=
 DCalls prog d_j [.agg [c0,c1,c2,c3,c4,iD c5,iD c6,iD c7,iD c8],iA approach, .one path] σ (fun r Z=>∃d:D,(r=(.a (.one d) :RV))∧Qp (.a (.one d)) Z)
theorem a_cd (c0 c1 c2 c3 c4:D)(c5 c6 c7 c8 approach:Int)(path:D)(σ:Store)(Qp:RV→Store→Prop)(h:a_cn c0 c1 c2 c3 c4 c5 c6 c7 c8 approach path σ Qp) :DCalls prog l_w [.agg [c0,c1,c2,c3,c4,iD c5,iD c6,iD c7,iD c8],iA approach, .one path] σ Qp:=
 a_b mixed (by kernel_rfl) Tryz.func27 y_q (Eq.mp (by kernel_rfl) h)
def q_8:Ann:= { draws:= [(6,{ ord:= [0,1,2,3,4,5,6,7,8] })],loops:= [(4,{ mods:= [(13,s6)],keep:= [0,1,12] })] }
def r_l (a b:D)(σ:Store)(Qp:RV→Store→Prop) :Prop:=
 ∃len:Nat,(Len a len)∧∃len1:Nat,(Len b len1)∧a_c ((len:Int) !=(len1:Int)) (Qp (.a (bA false)) σ) (∃len2:Nat,(Len a len2)∧∃I:Int→Store→Prop,∃μ:Int→Store→Nat,(I 0 σ)∧∀n:Int,∀Z,(I n Z)→a_c (decide (n < (len2:Int))) (∃len3:Nat,(Idx prog Z a 3 len3)∧((0:Int)≤n)∧(n < (len3:Int))∧∃row:List D,(Row Z a (Int.toNat n) row)∧∃n1 n2 n3:Int,((List.take 3 row) =([iD n1,iD n2,iD n3]:List D))∧∃len4:Nat,(Idx prog Z b 3 len4)∧((0:Int)≤n)∧(n < (len4:Int))∧∃row1:List D,(Row Z b (Int.toNat n) row1)∧∃n4 n5 n6:Int,((List.take 3 row1) =([iD n4,iD n5,iD n6]:List D))∧a_c (!((n1 == n4) && ((n2 == n5) && (n3 == n6)))) (Qp (.a (bA false)) Z) ((I (w64 (n+1)) Z)∧((μ (w64 (n+1)) Z) < (μ n Z)))) (Qp (.a (bA true)) Z))
theorem r_y (a b:D)(σ:Store)(Qp:RV→Store→Prop)(h:r_l a b σ Qp) :DCalls prog f_2 [.one a, .one b] σ Qp:=
 a_b mixed (by kernel_rfl) Tryz.func31 q_8 (Eq.mp (by kernel_rfl) h)
def y_c:Ann:= { frz:= [6,11,14,17,20,22] }
def y_u (σ:Store)(Qp:RV→Store→Prop) :Prop:=
 Qp (.a (.agg [.sl 3 [[iD 0,iD 0,iD 0],[iD 1,iD 0,iD 0],[iD 0,iD 0,iD 0],[iD 0,iD 0,iD 0],[iD 0,iD 0,iD 1]], .sl 4 [[iD 0,iD 1,iD 1,iD 0],[iD 1,iD 1,iD 2,iD 0],[iD 1,iD 2,iD 3,iD 0],[iD 2,iD 1,iD 4,iD 0]], .sl 2 [[iD 0,iD 1],[iD 2,iD 1]], .nils, .sl 6 [[iD 0,iD 1, .sl 3 [[iD 1,iD 0,iD 1],[iD 2,iD 0,iD 1]], .nils, .nils, .bool false],[iD 1,iD (-1), .sl 3 [[iD 4,iD 0,iD 1]], .nils, .nils, .bool false]],iD 2,iD 1,iD 4,iD 1000])) σ
theorem z_b (σ:Store)(Qp:RV→Store→Prop)(h:y_u σ Qp) :DCalls prog k_e [] σ Qp:=
 a_b mixed (by kernel_rfl) Tryz.func35 y_c (Eq.mp (by kernel_rfl) h)
def l_4:Ann:= { cbs:= [1],loops:= [(3,{ mods:= [(13,s6)],keep:= [1,3,11,12] })] }
def m_p (p0 p1 p2 p3 p4:D)(p5 p6 p7 p8:Int)(σ:Store)(Qp:RV→Store→Prop) :Prop:=
 Fw.newObj σ (.mp 0 []) (fun id Z=>∃len:Nat,(Len p3 len)∧∃I:Int→Store→Prop,∃μ:Int→Store→Nat,(I 0 Z)∧∀n:Int,∀Z1,(I n Z1)→a_c (decide (n < (len:Int))) (∃len1:Nat,(Idx prog Z1 p3 1 len1)∧((0:Int)≤n)∧(n < (len1:Int))∧∃row:List D,(Row Z1 p3 (Int.toNat n) row)∧∃n1:Int,((List.take 1 row) =([iD n1]:List D))∧DCalls prog b_r [.agg [p0,p1,p2,p3,p4,iD p5,iD p6,iD p7,iD p8],iA n1] Z1 (fun r Z2=>∃n2 n3 n4:Int,∃b:Bool,(r=(.tup [.agg [iD n2,iD n3,iD n4],bA b]:RV))∧∃r1:Option A,(h_e prog t_int Z2 (.omap id) (iA n1) r1)∧∃n5:Int,((Option.getD r1 (iA 0)) =(iA n5:A))∧MPut prog t_int Z2 (.omap id) (iA n1) (.one (iD (w64 (n5+1)))) (fun Z3=>a_c (!b) (Qp (.a (bA false)) Z3) (a_c (n4 != 0) (Qp (.a (bA false)) Z3) (∃r2:Option A,(h_e prog t_int Z3 (.omap id) (iA n1) r2)∧∃n6:Int,((Option.getD r2 (iA 0)) =(iA n6:A))∧a_c (decide (n6 > 1)) (Qp (.a (bA false)) Z3) ((I (w64 (n+1)) Z3)∧((μ (w64 (n+1)) Z3) < (μ n Z1)))))))) (∃len1:Nat,(Len p3 len1)∧Qp (.a (.one (.bool (decide ((len1:Int)≤4))))) Z1))
theorem m_s (p0 p1 p2 p3 p4:D)(p5 p6 p7 p8:Int)(σ:Store)(Qp:RV→Store→Prop)(h:m_p p0 p1 p2 p3 p4 p5 p6 p7 p8 σ Qp) :DCalls prog e_d [.agg [p0,p1,p2,p3,p4,iD p5,iD p6,iD p7,iD p8]] σ Qp:=
 a_b mixed (by kernel_rfl) Tryz.func39 l_4 (Eq.mp (by kernel_rfl) h)
def m_8:Ann:= { }
def o_4 (p:D)(word:ByteArray)(list:D)(σ:Store)(Qp:RV→Store→Prop) :Prop:=
 DCalls prog a_6 [.one p, .one (.str word), .one list] σ (fun r Z=>(r=(.tup []:RV))∧(a_l p)∧∃s:D,∃i off:Nat,(p=(.el s i off:D))∧DCalls prog c_y [.one (.el s i (off+0)), .one (.int .u8 10)] Z (fun r1 Z1=>∃d:D,(r1=(.a (.one d) :RV))∧Qp (.tup []) Z1))
theorem o_3 (p:D)(word:ByteArray)(list:D)(σ:Store)(Qp:RV→Store→Prop)(h:o_4 p word list σ Qp) :DCalls prog b_a [.one p, .one (.str word), .one list] σ Qp:=
 a_b mixed (by kernel_rfl) Tryz.func47 m_8 (Eq.mp (by kernel_rfl) h)
def m_o:Ann:= { cbs:= [2,3] }
def m_2 (p0 p1 p2 p3 p4:D)(p5 p6 p7 p8 r0 r1:Int)(r2 r3 r4:D)(r5:Bool)(σ:Store)(Qp:RV→Store→Prop) :Prop:=
 DCalls prog c_k [.agg [p0,p1,p2,p3,p4,iD p5,iD p6,iD p7,iD p8],iA r0] σ (fun r Z=>∃n n1:Int,∃b:Bool,(r=(.tup [.agg [iD n,iD n1],bA b]:RV))∧a_c (!b) (Qp (.a (iA (-1))) Z) (Qp (.a (iA n)) Z))
theorem n_w (p0 p1 p2 p3 p4:D)(p5 p6 p7 p8 r0 r1:Int)(r2 r3 r4:D)(r5:Bool)(σ:Store)(Qp:RV→Store→Prop)(h:m_2 p0 p1 p2 p3 p4 p5 p6 p7 p8 r0 r1 r2 r3 r4 r5 σ Qp) :DCalls prog c_q [.agg [p0,p1,p2,p3,p4,iD p5,iD p6,iD p7,iD p8], .agg [iD r0,iD r1,r2,r3,r4, .bool r5]] σ Qp:=
 a_b mixed (by kernel_rfl) Tryz.func60 m_o (Eq.mp (by kernel_rfl) h)
def a_fn:Ann:= { loops:= [(2,{ mods:= [(9,s6)],keep:= [1,7,8] })] }
def a_f4 (l:D)(n:Int)(σ:Store)(Qp:RV→Store→Prop) :Prop:=
 ∃len:Nat,(Len l len)∧∃I:Int→Store→Prop,∃μ:Int→Store→Nat,(I 0 σ)∧∀n1:Int,∀Z,(I n1 Z)→a_c (decide (n1 < (len:Int))) (∃len1:Nat,(Idx prog Z l 1 len1)∧((0:Int)≤n1)∧(n1 < (len1:Int))∧∃row:List D,(Row Z l (Int.toNat n1) row)∧∃n2:Int,((List.take 1 row) =([iD n2]:List D))∧a_c (n2 == n) (Qp (.a (bA true)) Z) ((I (w64 (n1+1)) Z)∧((μ (w64 (n1+1)) Z) < (μ n1 Z)))) (Qp (.a (bA false)) Z)
theorem a_g1 (l:D)(n:Int)(σ:Store)(Qp:RV→Store→Prop)(h:a_f4 l n σ Qp) :DCalls prog c_3 [.one l,iA n] σ Qp:=
 a_b mixed (by kernel_rfl) Tryz.func64 a_fn (Eq.mp (by kernel_rfl) h)
def y_5:Ann:= { loops:= [(3,{ mods:= [(3,s6),(9,s6)],keep:= [7,8] })] }
def a_au (kind:Int)(σ:Store)(Qp:RV→Store→Prop) :Prop:=
 DCalls prog l_5 [iA kind] σ (fun r Z=>∃d:D,(r=(.a (.one d) :RV))∧∃len:Nat,(Len d len)∧∃I:Int→Int→Store→Prop,∃μ:Int→Int→Store→Nat,(I 0 0 Z)∧∀n n1:Int,∀Z1,(I n n1 Z1)→a_c (decide (n1 < (len:Int))) (∃len1:Nat,(Idx prog Z1 d 3 len1)∧((0:Int)≤n1)∧(n1 < (len1:Int))∧∃row:List D,(Row Z1 d (Int.toNat n1) row)∧∃n2 n3 n4:Int,((List.take 3 row) =([iD n2,iD n3,iD n4]:List D))∧(I (ite ((w64 (n3+1)) > (ite ((w64 (n2+1)) > n) (w64 (n2+1)) n)) (w64 (n3+1)) (ite ((w64 (n2+1)) > n) (w64 (n2+1)) n)) (w64 (n1+1)) Z1)∧((μ (ite ((w64 (n3+1)) > (ite ((w64 (n2+1)) > n) (w64 (n2+1)) n)) (w64 (n3+1)) (ite ((w64 (n2+1)) > n) (w64 (n2+1)) n)) (w64 (n1+1)) Z1) < (μ n n1 Z1))) (Qp (.a (iA n)) Z1))
theorem a_at (kind:Int)(σ:Store)(Qp:RV→Store→Prop)(h:a_au kind σ Qp) :DCalls prog l_p [iA kind] σ Qp:=
 a_b mixed (by kernel_rfl) Tryz.func68 y_5 (Eq.mp (by kernel_rfl) h)
def m_4:Ann:= { cbs:= [2] }
def o_z (p0 p1 p2 p3 p4:D)(p5 p6 p7 p8 s:Int)(σ:Store)(Qp:RV→Store→Prop) :Prop:=
 a_c (decide (s < 0)) (Qp (.tup [.agg [iD 0,iD 0,iD 0],bA false]) σ) (∃len:Nat,(Len p0 len)∧a_c (decide (s≥(len:Int))) (Qp (.tup [.agg [iD 0,iD 0,iD 0],bA false]) σ) (∃len1:Nat,(Idx prog σ p0 3 len1)∧((0:Int)≤s)∧(s < (len1:Int))∧∃row:List D,(Row σ p0 (Int.toNat s) row)∧∃n n1 n2:Int,((List.take 3 row) =([iD n,iD n1,iD n2]:List D))∧Qp (.tup [.agg [iD n,iD n1,iD n2],bA true]) σ))
theorem p_d (p0 p1 p2 p3 p4:D)(p5 p6 p7 p8 s:Int)(σ:Store)(Qp:RV→Store→Prop)(h:o_z p0 p1 p2 p3 p4 p5 p6 p7 p8 s σ Qp) :DCalls prog b_r [.agg [p0,p1,p2,p3,p4,iD p5,iD p6,iD p7,iD p8],iA s] σ Qp:=
 a_b mixed (by kernel_rfl) Tryz.func77 m_4 (Eq.mp (by kernel_rfl) h)
def p_9:Ann:= { }
def r_8 (w:D)(σ:Store)(Qp:RV→Store→Prop) :Prop:=
 (a_l w)∧∃s:D,∃i off:Nat,(w=(.el s i off:D))∧∃row:List D,(Row σ s i row)∧∃d:D,((List.take 1 (List.drop (off+0) row)) =([d]:List D))∧∃len:Nat,(Len d len)∧a_c ((len:Int) == 0) ((a_l w)∧∃s1:D,∃i1 off1:Nat,(w=(.el s1 i1 off1:D))∧a_d [.bool true] σ s1 i1 (off1+1) (fun Z=>Qp (.a (.one (.str (ByteArray.mk (List.toArray []))))) Z)) ((a_l w)∧∃s1:D,∃i1 off1:Nat,(w=(.el s1 i1 off1:D))∧∃row1:List D,(Row σ s1 i1 row1)∧∃d1:D,((List.take 1 (List.drop (off1+0) row1)) =([d1]:List D))∧∃len1:Nat,(Idx prog σ d1 1 len1)∧((0:Int)≤0)∧((0:Int) < (len1:Int))∧∃row2:List D,(Row σ d1 0 row2)∧∃s2:ByteArray,((List.take 1 row2) =([.str s2]:List D))∧(a_l w)∧∃s3:D,∃i2 off2:Nat,(w=(.el s3 i2 off2:D))∧∃row3:List D,(Row σ s3 i2 row3)∧∃d2:D,((List.take 1 (List.drop (off2+0) row3)) =([d2]:List D))∧∃len2:Nat,(IdxN prog σ d2 1 len2)∧((0:Int)≤1)∧((1:Int)≤(len2:Int))∧(a_l w)∧∃s4:D,∃i3 off3:Nat,(w=(.el s4 i3 off3:D))∧a_d [e_g d2 1 len2] σ s4 i3 (off3+0) (fun Z=>Qp (.a (.one (.str s2))) Z))
theorem r_n (w:D)(σ:Store)(Qp:RV→Store→Prop)(h:r_8 w σ Qp) :DCalls prog a_3 [.one w] σ Qp:=
 a_b mixed (by kernel_rfl) Tryz.func89 p_9 (Eq.mp (by kernel_rfl) h)
def a_c5:Ann:= { esc:= [3] }
def a_hd (path:D)(section_:Int)(σ:Store)(Qp:RV→Store→Prop) :Prop:=
 Fw.newObj σ (.live t_int [[iD section_]]) (fun id Z=>DCalls prog c_4 [.one path, .one (.fn r_6 [] [(false,[.el (.osl id 0 1) 0 0])])] Z (fun r Z1=>∃b:Bool,(r=(.a (bA b) :RV))∧Qp (.a (bA b)) Z1))
theorem a_gh (path:D)(section_:Int)(σ:Store)(Qp:RV→Store→Prop)(h:a_hd path section_ σ Qp) :DCalls prog l_o [.one path,iA section_] σ Qp:=
 a_b mixed (by kernel_rfl) Tryz.func100 a_c5 (Eq.mp (by kernel_rfl) h)
def j_i:Ann:= { cbs:= [3] }
def k_k (s:D)(v0 v1:Int)(σ:Store)(Qp:RV→Store→Prop) :Prop:=
 DCalls prog e_c [.one s, .agg [iD v0,iD v1]] σ (fun r Z=>∃n:Int,(r=(.a (iA n) :RV))∧Qp (.a (.one (.bool (decide (n≥0))))) Z)
theorem k_c (s:D)(v0 v1:Int)(σ:Store)(Qp:RV→Store→Prop)(h:k_k s v0 v1 σ Qp) :DCalls prog d_k [.one s, .agg [iD v0,iD v1]] σ Qp:=
 a_b mixed (by kernel_rfl) Tryz.func105 j_i (Eq.mp (by kernel_rfl) h)
def m_m:Ann:= { splits:= [(0,(DT.split 1 3 (DT.leaf { ord:= [0,1,2,3,4,5,6,7] }) (DT.leaf { ord:= [0,2,3,1,4,5,6,7] })))] }
def o_f (a0 a1:D)(σ:Store)(Qp:RV→Store→Prop) :Prop:=
 (∃s:D,∃i off:Nat,(a0=(.el s i off:D))∧∃row:List D,(Row σ s i row)∧∃d:D,((List.take 1 (List.drop (off+4) row)) =([d]:List D))∧∃s1:D,∃i1 off1:Nat,(a1=(.el s1 i1 off1:D))∧∃row1:List D,(Row σ s1 i1 row1)∧∃d1:D,((List.take 1 (List.drop off1 row1)) =([d1]:List D))∧DCalls prog a_a [.one d1] σ (fun r Z=>∃n:Int,(r=(.a (iA n) :RV))∧Fw.newObj Z (.live t_int [[iD n]]) (fun id Z1=>a_e prog Z1 t_int 8 d (.osl id 0 1) (fun d2 Z2=>∃s2:D,∃i2 off2:Nat,(a0=(.el s2 i2 off2:D))∧a_d [d2] Z2 s2 i2 (off2+4) (fun Z3=>Qp (.tup []) Z3)))))∧∃s:D,∃i off:Nat,(a0=(.el s i off:D))∧∃s1:D,∃i1 off1:Nat,(a1=(.el s1 i1 off1:D))∧∃row:List D,(Row σ s1 i1 row)∧∃d:D,((List.take 1 (List.drop off1 row)) =([d]:List D))∧DCalls prog a_a [.one d] σ (fun r Z=>∃n:Int,(r=(.a (iA n) :RV))∧∃row1:List D,(Row Z s i row1)∧∃d1:D,((List.take 1 (List.drop (off+4) row1)) =([d1]:List D))∧Fw.newObj Z (.live t_int [[iD n]]) (fun id Z1=>a_e prog Z1 t_int 8 d1 (.osl id 0 1) (fun d2 Z2=>∃s2:D,∃i2 off2:Nat,(a0=(.el s2 i2 off2:D))∧a_d [d2] Z2 s2 i2 (off2+4) (fun Z3=>Qp (.tup []) Z3))))
theorem n_i (a0 a1:D)(σ:Store)(Qp:RV→Store→Prop)(h:o_f a0 a1 σ Qp) :DCalls prog e_n [.one a0, .one a1] σ Qp:=
 a_b mixed (by kernel_rfl) Tryz.func117 m_m (Eq.mp (by kernel_rfl) h)
def l_q:Ann:= { cbs:= [3],draws:= [(4,{ ord:= [0,1,2,3,4,5] })],loops:= [(2,{ mods:= [(8,s6)],keep:= [0,3,7] })] }
def m_v (s:D)(v0 v1:Int)(σ:Store)(Qp:RV→Store→Prop) :Prop:=
 ∃len:Nat,(Len s len)∧∃I:Int→Store→Prop,∃μ:Int→Store→Nat,(I 0 σ)∧∀n:Int,∀Z,(I n Z)→a_c (decide (n < (len:Int))) (∃len1:Nat,(Idx prog Z s 2 len1)∧((0:Int)≤n)∧(n < (len1:Int))∧∃row:List D,(Row Z s (Int.toNat n) row)∧∃n1 n2:Int,((List.take 2 row) =([iD n1,iD n2]:List D))∧a_c ((v0 == n1) && (v1 == n2)) (Qp (.a (iA n)) Z) ((I (w64 (n+1)) Z)∧((μ (w64 (n+1)) Z) < (μ n Z)))) (Qp (.a (iA (-1))) Z)
theorem m_l (s:D)(v0 v1:Int)(σ:Store)(Qp:RV→Store→Prop)(h:m_v s v0 v1 σ Qp) :DCalls prog e_c [.one s, .agg [iD v0,iD v1]] σ Qp:=
 a_b mixed (by kernel_rfl) Tryz.func135 l_q (Eq.mp (by kernel_rfl) h)
def f_1:Ann:= { }
def g_k (s suffix:ByteArray)(σ:Store)(Qp:RV→Store→Prop) :Prop:=
 DCalls prog c_b [.one (.str s), .one (.str suffix)] σ (fun r Z=>∃b:Bool,(r=(.a (bA b) :RV))∧a_c (!b) (Qp (.tup [.one (.str s),bA false]) Z) (((0:Int)≤0)∧((0:Int)≤(w64 ((ByteArray.size s:Int) - (ByteArray.size suffix:Int))))∧((w64 ((ByteArray.size s:Int) - (ByteArray.size suffix:Int)))≤(ByteArray.size s:Int))∧Qp (.tup [.one (.str (ByteArray.extract s 0 (Int.toNat (w64 ((ByteArray.size s:Int) - (ByteArray.size suffix:Int)))))),bA true]) Z))
theorem g_n (s suffix:ByteArray)(σ:Store)(Qp:RV→Store→Prop)(h:g_k s suffix σ Qp) :DCalls prog b_8 [.one (.str s), .one (.str suffix)] σ Qp:=
 a_b mixed (by kernel_rfl) Tryz.func86 f_1 (Eq.mp (by kernel_rfl) h)
def t_u:Ann:= { }
def u_6 (s sep:ByteArray)(σ:Store)(Qp:RV→Store→Prop) :Prop:=
 DCalls prog i_w [.one (.str s), .one (.str sep),iA 0,iA (-1)] σ (fun r Z=>∃d:D,(r=(.a (.one d) :RV))∧Qp (.a (.one d)) Z)
theorem v_g (s sep:ByteArray)(σ:Store)(Qp:RV→Store→Prop)(h:u_6 s sep σ Qp) :DCalls prog h_w [.one (.str s), .one (.str sep)] σ Qp:=
 a_b mixed (by kernel_rfl) Tryz.func52 t_u (Eq.mp (by kernel_rfl) h)
end Go.Proofs.YtfdffboelecgoaaGreatDoor
end
