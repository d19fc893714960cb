/-
  Proofs that the statement of this claim leans on: part 3.
-/
import Derived.Test.YtaklhjodjbgmgaaGreatP2
set_option linter.unusedVariables false
set_option linter.unusedSimpArgs false
namespace Go.Fw
section
abbrev w64 (n:Int) :Int:=IntKind.i64.wrap n
inductive Fz (P:Program) (σ:Store) (S:Nat->Prop) :D->D->Prop
 | int (q n) :Fz P σ S (.int q n) (.int q n)
 | bool (b) :Fz P σ S (.bool b) (.bool b)
 | str (s) :Fz P σ S (.str s) (.str s)
 | nils:Fz P σ S .nils .nils
 | zsl:Fz P σ S .zsl .zsl
 | sl (es : Nat) (rows rows' : List (List D)) (hl : rows'.length = rows.length) (hr : ∀ (i : Nat) row row', rows[i]? = some row -> rows'[i]? = some row' -> row'.length = row.length)
     (hc:∀(i:Nat) row row' (j:Nat) d d',rows[i]? =some row->rows'[i]? =some row'->row[j]? =some d->row'[j]? =some d'->Fz P σ S d d') :Fz P σ S (.sl es rows) (.sl es rows')
 | keep (id i len) (h:S id) :Fz P σ S (.osl id i len) (.osl id i len)
 | osl (id i len : Nat) (t : TypeId) (rows rows' : List (List D)) (hn : ¬ S id) (hs : σ id = .live t rows) (hi : i + len <= rows.length) (hl : rows'.length = len)
     (hr:∀(j:Nat) row row',rows[i+j]? =some row->rows'[j]? =some row'->row'.length=row.length)
     (hc:∀(j:Nat) row row' (m:Nat) d d',rows[i+j]? =some row->rows'[j]? =some row'->row[m]? =some d->row'[m]? =some d'->Fz P σ S d d') :Fz P σ S (.osl id i len) (.sl (P.cellsOf t) rows')
 | nilp:Fz P σ S .nilp .nilp
 | el (s i off) (h:Fz P σ S s s) :Fz P σ S (.el s i off) (.el s i off)
 | nilf:Fz P σ S .nilf .nilf
 | fn0 (f) :Fz P σ S (.fn f [] []) (.fn f [] [])
 | nilm:Fz P σ S .nilm .nilm
 | omap (id) (h:S id) :Fz P σ S (.omap id) (.omap id)
def FzL (P:Program)(σ:Store)(S:Nat->Prop)(ds ds':List D) :Prop:=
 ds'.length=ds.length/\∀(i:Nat) d d',ds[i]? =some d->ds'[i]? =some d'->Fz P σ S d d'
def FzA (P:Program)(σ:Store)(S:Nat->Prop) :A->A->Prop
 | .one d, .one d'=>Fz P σ S d d'
 | .agg cs, .agg cs'=>FzL P σ S cs cs'
 | _,_=>False
def FzR (P:Program)(σ:Store)(S:Nat->Prop) :RV->RV->Prop
 | .a x, .a y=>FzA P σ S x y
 | .tup xs, .tup ys=>ys.length=xs.length/\∀(i:Nat) x y,xs[i]? =some x->ys[i]? =some y->FzA P σ S x y
 | _,_=>False
def FzO (P:Program)(σ0 σ:Store)(S:Nat->Prop)(i:Nat)(so':SO) :Prop:=
 (so'=σ i/\σ i=σ0 i)\/
 match σ i,so' with
 | .free, .free=>True
 | .dead, .dead=>True
 | .live t rows, .live t' rows'=>t'=t/\rows'.length=rows.length/\∀(j:Nat) row row',rows[j]? =some row->rows'[j]? =some row'->FzL P σ S row row'
 | .mp c es, .mp c' es'=>c'=c/\es'.length=es.length/\∀(j:Nat) e e',es[j]? =some e->es'[j]? =some e'->e'.1=e.1/\FzA P σ S e.2.1 e'.2.1/\FzA P σ S e.2.2 e'.2.2
 | _,_=>False
def Ret (P:Program)(σ0 σ:Store)(r:RV)(σ':Store)(r':RV) :Prop:=
 ∃S:Nat->Prop,(∀i,σ0 i≠ .free->S i)/\(∀i,¬S i->σ' i= .free)/\(∀i,S i->FzO P σ0 σ S i (σ' i))/\FzR P σ S r r'
section
variable {P:Program} {k k0:Nat->Prop} {β β0:Bk} {σ σ0 σ':Store} {W W0:World} {S:Nat->Prop} {β2:Bk}
def m_s (β:Bk)(S:Nat->Prop)(β2:Bk) :Prop:=(∀i,S i->β2 i=β i)/\∀i,¬S i->β2 i=none
theorem a_pq (β:Bk)(S:Nat->Prop) :∃β2,m_s β S β2:=by
 have h:∀i,∃b:Option BI,(S i->b=β i)/\(¬S i->b=none):=fun i=>by
   by_cases hs:S i
   · exact ⟨β i,fun _=>rfl,fun h=>absurd hs h⟩
   · exact ⟨none,fun h=>absurd h hs,fun _=>rfl⟩
 obtain ⟨f,hf⟩:=Classical.axiomOfChoice h
 exact ⟨f,fun i hi=>(hf i).1 hi,fun i hi=>(hf i).2 hi⟩
def a_bm (k:Nat->Prop)(β:Bk)(σ:Store)(S:Nat->Prop) :Nat->Prop:=fun b=>k b\/∃i bi t rows,β i=some bi/\¬S i/\σ i= .live t rows/\bi.blk=b
theorem e_z {β2:Bk}(hB:m_s β S β2){i:Nat}{bi:BI}(h:β2 i=some bi) :S i/\β i=some bi:=by
 by_cases hs:S i
 · rw[hB.1 i hs] at h;exact ⟨hs,h⟩
 · rw[hB.2 i hs] at h;cases h
theorem q_x {β2:Bk}(hB:m_s β S β2){i:Nat}{bi:BI}(hs:S i)(h:β i=some bi) :β2 i=some bi:=by rw[hB.1 i hs];exact h
theorem Fz.ok (hB:m_s β S β2)(h:SRel P k β W σ){v:Value}{d d':D}(hf:Fz P σ S d d') :V k β W v d->V (a_bm k β σ S) β2 W v d':=by
 induction hf generalizing v with
 | int q n=>intro hv;cases hv;exact .int q n
 | bool b=>intro hv;cases hv;exact .bool b
 | str s=>intro hv;cases hv;exact .str s
 | nils=>intro hv;cases hv;exact .nils
 | zsl=>intro hv;cases hv;exact .zsl _
 | sl es rows rows' hl hr hc ih=>
   intro hv
   cases hv with
   | sl a len cap _ _ f hk hlen hcap hes hcell hval=>
     have back:∀(i:Nat) row',rows'[i]? =some row'->∃row,rows[i]? =some row/\row'.length=row.length:=fun i row' hi=>by
       have hlt:=(zA.1 hi).1
       have:=zH (l:=rows) (i:=i) (by omega)
       exact ⟨_,this,hr i _ _ this hi⟩
     refine .sl a len cap es rows' f (fun hne=>?_) (by omega) hcap (fun i row' hi=>?_) (fun i row' j d hi hj=>?_) (fun i row' j d hi hj=>?_)
     · have:=hk (fun e=>by subst e;simp at hl;exact hne hl)
       exact ⟨.inl this.1,this.2⟩
     · obtain ⟨row,h1,h2⟩:=back i row' hi
       rw[h2];exact hes i row h1
     · obtain ⟨row,h1,h2⟩:=back i row' hi
       have hlt:=(zA.1 hj).1
       exact hcell i row j _ h1 (zH (by omega))
     · obtain ⟨row,h1,h2⟩:=back i row' hi
       have hlt:=(zA.1 hj).1
       have hd:=zH (l:=row) (i:=j) (by omega)
       exact ih i row row' j _ d h1 hi hd hj (hval i row j _ h1 hd)
 | keep id i len hs=>
   intro hv
   cases hv with
   | osl _ _ _ cap a bi hb ha hc hsz hcm=>exact .osl id i len cap a bi (q_x hB hs hb) ha hc hsz hcm
 | osl id i len t rows rows' hn hs hi hl hr hc ih=>
   intro hv
   cases hv with
   | osl _ _ _ cap a bi hb ha hcap hsz hcm=>
     obtain ⟨arr,g1,g2,g3,g4,g5,g6,g7⟩:=h.obj id bi t rows hb hs
     have back:∀(j:Nat) row',rows'[j]? =some row'->j < len/\∃row,rows[i+j]? =some row/\row'.length=row.length:=fun j row' hj=>by
       have hlt:=(zA.1 hj).1
       have:=zH (l:=rows) (i:=i+j) (by omega)
       exact ⟨by omega,_,this,hr j _ _ this hj⟩
     refine .sl a len cap (P.cellsOf t) rows' (fun j m=>arr.getD ((i+j) * bi.es+m) undef) (fun hne=>?_) hl hcap (fun j row' hj=>?_) (fun j row' m d hj hm=>?_) (fun j row' m d hj hm=>?_)
     · have hpos : 0 < len := by
         rw[<-hl]
         cases rows' with
         | nil=>exact absurd rfl hne
         | cons=>simp
       have:=ha (by omega)
       subst this
       exact ⟨.inr ⟨id,bi,t,rows,hb,hn,hs,rfl⟩,rfl⟩
     · obtain ⟨_,row,h1,h2⟩:=back j row' hj
       rw[h2,g3];exact g6 _ row h1
     · obtain ⟨hlt,row,h1,h2⟩:=back j row' hj
       have hmlt:=(zA.1 hm).1
       obtain ⟨v,q1,_⟩:=g7 (i+j) row m _ h1 (zH (by omega))
       have:=ha (by omega)
       subst this
       have e1:i * bi.es+j * P.cellsOf t+m=(i+j) * bi.es+m:=by rw[g3,Nat.add_mul]
       show W.cell? ⟨bi.blk,i * bi.es+j * P.cellsOf t+m,none⟩ =_
       rw[f_9 g1,e1,q1,Array.getD_eq_getD_getElem?,q1];rfl
     · obtain ⟨hlt,row,h1,h2⟩:=back j row' hj
       have hmlt:=(zA.1 hm).1
       have hd:=zH (l:=row) (i:=m) (by omega)
       obtain ⟨v,q1,q2⟩:=g7 (i+j) row m _ h1 hd
       have:=ih j row row' m _ d h1 hj hd hm q2
       rw[Array.getD_eq_getD_getElem?,q1];exact this
 | nilp=>intro hv;cases hv;exact .nilp
 | el s i off hs ih=>
   intro hv
   cases hv with
   | elsl a len cap es rows _ _ hs' hi=>exact .elsl a len cap es rows i off (ih hs') hi
   | elosl id i0 len _ _ bi hb hi=>
     cases hs with
     | keep _ _ _ hs=>exact .elosl id i0 len i off bi (q_x hB hs hb) hi
 | nilf=>intro hv;cases hv;exact .nilf
 | fn0 f=>
   intro hv
   cases hv with
   | fn _ first caps _ _ g g' h1 h2 h3 h4 h5 h6=>exact .fn f first caps [] [] g g' h1 h2 (fun i b cs j d hi=>by simp at hi) h4 h5 (fun i b cs j d hi=>by simp at hi)
 | nilm=>intro hv;cases hv;exact .nilm
 | omap id hs=>
   intro hv
   cases hv with
   | omap _ bi hb=>exact .omap id bi (q_x hB hs hb)
theorem FzL.ok (hB:m_s β S β2)(h:SRel P k β W σ){vs:List Value}{ds ds':List D}(hf:FzL P σ S ds ds')(hv:VL k β W vs ds) :VL (a_bm k β σ S) β2 W vs ds':=by
 refine ⟨by rw[hv.1,hf.1],fun i v d' h1 h2=>?_⟩
 have hlt:=(zA.1 h2).1
 have hd:=zH (l:=ds) (i:=i) (by rw[<-hf.1];exact hlt)
 exact (hf.2 i _ d' hd h2).ok hB h (hv.2 i v _ h1 hd)
theorem FzA.ok (hB:m_s β S β2)(h:SRel P k β W σ){v:Value}{x y:A}(hf:FzA P σ S x y)(hv:VA k β W v x) :VA (a_bm k β σ S) β2 W v y:=by
 cases x with
 | one d=>cases y with
   | one d'=>exact Fz.ok hB h hf hv
   | agg=>exact hf.elim
 | agg cs=>cases y with
   | one=>exact hf.elim
   | agg cs'=>obtain ⟨vs,e,hv⟩:=hv;exact ⟨vs,e,FzL.ok hB h hf hv⟩
theorem FzR.ok (hB:m_s β S β2)(h:SRel P k β W σ){v:Value}{x y:RV}(hf:FzR P σ S x y)(hv:VR k β W v x) :VR (a_bm k β σ S) β2 W v y:=by
 cases x with
 | a x=>cases y with
   | a y=>exact FzA.ok hB h hf hv
   | tup=>exact hf.elim
 | tup xs=>cases y with
   | a=>exact hf.elim
   | tup ys=>
     obtain ⟨vs,e,hs,hv⟩:=hv
     refine ⟨vs,e,by rw[hs,hf.1],fun i u y h1 h2=>?_⟩
     have hlt:=(zA.1 h2).1
     have hd:=zH (l:=xs) (i:=i) (by rw[<-hf.1];exact hlt)
     exact (hf.2 i _ y hd h2).ok hB h (hv i u _ h1 hd)
theorem V.rest (hB:m_s β S β2){v:Value}{d:D}(hd:Dom β0 d)(hbb:∀i bi,β0 i=some bi->S i/\β i=some bi)(hv:V k β W v d) :V (a_bm k β σ S) β2 W v d:=by
 have h1:=V.restrict (β:=β0) (fun i bi h=>(hbb i bi h).2) hv hd
 exact h1.mono (fun b h=> .inl h) (fun i bi h=>q_x hB (hbb i bi h).1 (hbb i bi h).2) (fun b _=>rfl)
def DomA (β:Bk) :A->Prop
 | .one d=>Dom β d
 | .agg cs=>∀d ∈ cs,Dom β d
theorem VA.dom {v:Value}{x:A}(h:VA k β W v x) :DomA β x:=by
 cases x with
 | one d=>exact V.dom h
 | agg cs=>
   obtain ⟨vs,_,hl,hv⟩:=h
   intro d hd
   obtain ⟨i,hi⟩:=List.mem_iff_getElem?.1 hd
   have hlt:=(zA.1 hi).1
   exact (hv i _ d (zH (by omega)) hi).dom
theorem VA.rest (hB:m_s β S β2){v:Value}{x:A}(hd:DomA β0 x)(hbb:∀i bi,β0 i=some bi->S i/\β i=some bi)(hv:VA k β W v x) :VA (a_bm k β σ S) β2 W v x:=by
 cases x with
 | one d=>exact V.rest hB hd hbb hv
 | agg cs=>
   obtain ⟨vs,e,hl,hv⟩:=hv
   exact ⟨vs,e,hl,fun i v d h1 h2=>V.rest hB (hd d (zC h2)) hbb (hv i v d h1 h2)⟩
theorem SRel.rest (hB:m_s β S β2)(h:SRel P k β W σ)(h0:SRel P k0 β0 W0 σ0)(hbb:∀i bi,β0 i=some bi->β i=some bi)(hS0:∀i,σ0 i≠ .free->S i)(hfree:∀i,¬S i->σ' i= .free)(ho:∀i,S i->FzO P σ0 σ S i (σ' i)) :
   SRel P (a_bm k β σ S) β2 W σ':=by
 have hSb:∀i bi,β0 i=some bi->S i/\β i=some bi:=fun i bi hi=>⟨hS0 i ((h0.dom i).1 (by rw[hi];rfl)),hbb i bi hi⟩
 have hfr:∀i,S i->(σ' i= .free↔σ i= .free):=fun i hi=>by
   rcases ho i hi with ⟨h1,_⟩ | hm
   · rw[h1]
   · cases hs:σ i <;> cases hs':σ' i <;> rw[hs,hs'] at hm <;> first | exact hm.elim | simp
 have hdd:∀i,S i->(σ' i= .dead↔σ i= .dead):=fun i hi=>by
   rcases ho i hi with ⟨h1,_⟩ | hm
   · rw[h1]
   · cases hs:σ i <;> cases hs':σ' i <;> rw[hs,hs'] at hm <;> first | exact hm.elim | simp
 exact {
   fin:=by
     obtain ⟨N,hN⟩:=h.fin
     refine ⟨N,fun i hi=>?_⟩
     by_cases hs:S i
     · exact (hfr i hs).2 (hN i hi)
     · exact hfree i hs
   dom:=fun i=>by
     by_cases hs:S i
     · rw[Ne,hfr i hs,<-Ne,<-h.dom i,hB.1 i hs]
     · rw[hB.2 i hs,hfree i hs];simp
   klt:=fun b hb=>by
     rcases hb with hb | ⟨i,bi,t,rows,hi,_,_,he⟩
     · exact h.klt b hb
     · rw[<-he];exact h.blt i bi hi
   blt:=fun i bi hi=>h.blt i bi (e_z hB hi).2
   inj:=fun i j bi bj hi hj h1 h2 he=>h.inj i j bi bj (e_z hB hi).2 (e_z hB hj).2 (fun hd=>h1 ((hdd i (e_z hB hi).1).2 hd)) (fun hd=>h2 ((hdd j (e_z hB hj).1).2 hd)) he
   notk:=fun i bi hi h1 hk=>by
     obtain ⟨hs,hi⟩:=e_z hB hi
     have h1:σ i≠ .dead:=fun hd=>h1 ((hdd i hs).2 hd)
     rcases hk with hk | ⟨j,bj,t,rows,hj,hn,hl,he⟩
     · exact h.notk i bi hi h1 hk
     · have:=h.inj j i bj bi hj hi (by rw[hl];intro e;cases e) h1 he
       exact hn (this ▸ hs)
   obj:=fun i bi t rows' hi hs'=>by
     obtain ⟨hs,hi⟩:=e_z hB hi
     rcases ho i hs with ⟨h1,h2⟩ | hm
     · rw[h1] at hs'
       obtain ⟨arr,g1,g2,g3,g4,g5,g6,g7⟩:=h.obj i bi t rows' hi hs'
       refine ⟨arr,g1,g2,g3,g4,g5,g6,fun r row j d hr hj=>?_⟩
       obtain ⟨v,hv,hV⟩:=g7 r row j d hr hj
       have hb0:∃b0,β0 i=some b0:=Option.isSome_iff_exists.1 ((h0.dom i).2 (by rw[<-h2,hs'];intro e;cases e))
       obtain ⟨b0,hb0⟩:=hb0
       obtain ⟨_,_,_,_,_,_,_,k7⟩:=h0.obj i b0 t rows' hb0 (by rw[<-h2,hs'])
       obtain ⟨v0,_,hV0⟩:=k7 r row j d hr hj
       exact ⟨v,hv,hV.rest hB hV0.dom hSb⟩
     · rw[hs'] at hm
       cases hsi:σ i with
       | live t0 rows=>
         rw[hsi] at hm
         obtain ⟨rfl,hl,hc⟩:=hm
         obtain ⟨arr,g1,g2,g3,g4,g5,g6,g7⟩:=h.obj i bi t rows hi hsi
         have back:∀(r:Nat) row',rows'[r]? =some row'->∃row,rows[r]? =some row/\FzL P σ S row row':=fun r row' hr=>by
           have hlt:=(zA.1 hr).1
           have:=zH (l:=rows) (i:=r) (by omega)
           exact ⟨_,this,hc r _ _ this hr⟩
         refine ⟨arr,g1,g2,g3,by rw[hl];exact g4,g5,fun r row' hr=>?_,fun r row' j d hr hj=>?_⟩
         · obtain ⟨row,q1,q2⟩:=back r row' hr
           rw[q2.1];exact g6 r row q1
         · obtain ⟨row,q1,q2⟩:=back r row' hr
           have hlt:=(zA.1 hj).1
           have hd:=zH (l:=row) (i:=j) (by rw[<-q2.1];exact hlt)
           obtain ⟨v,hv,hV⟩:=g7 r row j _ q1 hd
           exact ⟨v,hv,(q2.2 j _ d hd hj).ok hB h hV⟩
       | _=>rw[hsi] at hm;exact hm.elim
   omap:=fun i bi clock es' hi hs'=>by
     obtain ⟨hs,hi⟩:=e_z hB hi
     rcases ho i hs with ⟨h1,h2⟩ | hm
     · rw[h1] at hs'
       obtain ⟨ents,g1,g2,g3,g4,g5⟩:=h.omap i bi clock es' hi hs'
       refine ⟨ents,g1,g2,g3,g4,fun r e b ks vs hr he=>?_⟩
       obtain ⟨q0,q1,q2⟩:=g5 r e b ks vs hr he
       have hb0:∃b0,β0 i=some b0:=Option.isSome_iff_exists.1 ((h0.dom i).2 (by rw[<-h2,hs'];intro e;cases e))
       obtain ⟨b0,hb0⟩:=hb0
       obtain ⟨ents0,_,k2,_,_,k5⟩:=h0.omap i b0 clock es' hb0 (by rw[<-h2,hs'])
       have hlt:=(zA.1 he).1
       obtain ⟨_,p1,p2⟩:=k5 r ents0[r] b ks vs (Array.getElem?_eq_getElem (by omega)) he
       exact ⟨q0,q1.rest hB p1.dom hSb,q2.rest hB p2.dom hSb⟩
     · rw[hs'] at hm
       cases hsi:σ i with
       | mp c es=>
         rw[hsi] at hm
         obtain ⟨rfl,hl,hc⟩:=hm
         obtain ⟨ents,g1,g2,g3,g4,g5⟩:=h.omap i bi clock es hi hsi
         have hborn:es'.map (·.1) =es.map (·.1):=by
           apply List.ext_getElem?
           intro j
           simp only[zL]
           cases he':es'[j]? with
           | none=>
             have:es[j]? =none:=by rw[List.getElem?_eq_none_iff] at he' ⊢;omega
             rw[this]
           | some e'=>
             have hlt:=(zA.1 he').1
             have hj:=zH (l:=es) (i:=j) (by omega)
             rw[hj]
             simp[(hc j _ e' hj he').1]
         refine ⟨ents,g1,by rw[hl];exact g2,fun e he=>?_,by rw[hborn];exact g4,fun r e b ks vs hr he=>?_⟩
         · have:e.1 ∈ es'.map (·.1):=List.mem_map.2 ⟨e,he,rfl⟩
           rw[hborn] at this
           obtain ⟨w,hw,e1⟩:=List.mem_map.1 this
           rw[<-e1];exact g3 w hw
         · have hlt:=(zA.1 he).1
           have hj:=zH (l:=es) (i:=r) (by omega)
           obtain ⟨c1,c2,c3⟩:=hc r _ _ hj he
           obtain ⟨q0,q1,q2⟩:=g5 r e es[r].1 es[r].2.1 es[r].2.2 hr hj
           exact ⟨q0.trans c1.symm,c2.ok hB h q1,c3.ok hB h q2⟩
       | _=>rw[hsi] at hm;exact hm.elim }
theorem DCalls.ret {f:FuncId}{args:List A}{Q Q':RV->Store->Prop}(h:DCalls P f args σ0 Q)(hq:∀r σ,Q r σ->∃r' σ',Ret P σ0 σ r σ' r'/\Q' r' σ') :DCalls P f args σ0 Q':=by
 refine ⟨h.1,fun k β W vs h1 h2 h3=>(h.2 k β W vs h1 h2 h3).mono fun e W' ⟨v,r,σ,k',β',q1,q2,q3,q4,q5,q6⟩=>?_⟩
 obtain ⟨r',σ',⟨S,s1,s2,s3,s4⟩,hQ⟩:=hq r σ q2
 obtain ⟨β2,hB⟩:=a_pq β' S
 refine ⟨v,r',σ',a_bm k' β' σ S,β2,q1,hQ,s4.ok hB q4 q3,q4.rest hB h1 q5.bb s1 s2 s3,?_,q6⟩
 have hS0:∀i bi,β i=some bi->S i:=fun i bi hi=>s1 i ((h1.dom i).1 (by rw[hi];rfl))
 exact {
   kk:=fun b hb=> .inl (q5.kk b hb)
   kn:=fun b hb=>by
     rcases hb with hb | ⟨i,bi,t,rows,hi,hn,hl,he⟩
     · exact q5.kn b hb
     · rcases q5.bn i bi hi with g | g | ⟨j,bj,g1,g2,g3⟩
       · exact absurd (hS0 i bi g) hn
       · exact .inr (.inl (he ▸ g))
       · exact .inr (.inr ⟨j,bj,g1,g2,g3.trans he⟩)
   bb:=fun i bi hi=>q_x hB (hS0 i bi hi) (q5.bb i bi hi)
   bn:=fun i bi hi=>q5.bn i bi (e_z hB hi).2
   dd:=fun i hi=>by
     have hs:S i:=s1 i (by rw[hi];intro e;cases e)
     have hd:=q5.dd i hi
     rcases s3 i hs with ⟨h1,_⟩ | hm
     · rw[h1,hd]
     · rw[hd] at hm
       cases hs':σ' i <;> rw[hs'] at hm <;> first | rfl | exact hm.elim }
end
end
end Go.Fw
namespace Go.Fw
open Go.ChangeShapes Go.WideShapes Go.RowKit
section
def tyF (P:Program)(ty:TypeId->List D->Prop) :List Field->List D->Prop
 | [],ds=>ds=[]
 | f::fs,ds=>∃a b,ds=a ++ b/\a.length=P.cellsOf f.type/\ty f.type a/\tyF P ty fs b
def tyR (P:Program)(ty:TypeId->List D->Prop)(e:TypeId) :Nat->List D->Prop
 | 0,ds=>ds=[]
 | n+1,ds=>∃a b,ds=a ++ b/\a.length=P.cellsOf e/\ty e a/\tyR P ty e n b
def tyD (P:Program) :Nat->TypeId->List D->Prop
 | 0,_,_=>False
 | n+1,t,ds=>match P.underlying t with
   | some .bool=>∃b,ds=[.bool b]
   | some (.int k)=>∃m,ds=[.int k m]/\(Lit.int k m).wf=true
   | some .string=>∃s,ds=[.str s]/\s.size<=140737488351232
   | some (.slice e)=>ds=[.nils]\/∃rows,ds=[.sl (P.cellsOf e) rows]/\rows.length * P.bytesOf e<=140737488351232/\∀row ∈ rows,tyD P n e row
   | some (.struct fs)=>tyF P (tyD P n) fs.toList ds
   | some (.array m e)=>tyR P (tyD P n) e m ds
   | _=>False
def a_a7 (P:Program) :Nat->List Field->Nat->Bool
 | o,[],n=>Nat.beq o n
 | o,f::fs,n=>Nat.beq f.offset o && a_a7 P (o+P.cellsOf f.type) fs n
def g_h (P:Program) :Nat->TypeId->Bool
 | 0,_=>false
 | n+1,t=>match P.underlying t with
   | some .bool=>true
   | some (.int _)=>true
   | some .string=>true
   | some (.slice e)=>g_h P n e && decide (0 < P.cellsOf e)
   | some (.struct fs)=>a_a7 P 0 fs.toList (P.cellsOf t) && fs.toList.all fun f=>g_h P n f.type
   | some (.array m e)=>g_h P n e && Nat.beq (m * P.cellsOf e) (P.cellsOf t)
   | _=>false
def TyA (P:Program)(t:TypeId) :A->Prop
 | .one d=>b_2 P t=some false/\tyD P 30 t [d]
 | .agg cs=>b_2 P t=some true/\tyD P 30 t cs
def TyAs (P:Program) :List TypeId->List A->Prop
 | [],as0=>as0=[]
 | t::ts,as0=>∃a r,as0=a::r/\TyA P t a/\TyAs P ts r
section
variable {H:Type} {enc:TypeId × Value->H} {P:Program} {w:World}
abbrev t_a (w:World) :Nat->Prop:=fun b=>b < w.heap.size
abbrev noB:Bk:=fun _=>none
abbrev noS:Store:=fun _=> .free
theorem a_yt:SRel P (t_a w) noB w noS where
 fin:=⟨0,fun _ _=>rfl⟩
 dom i:=by simp
 klt b hb:=hb
 blt i bi h:=by cases h
 inj i j bi bj h:=by cases h
 notk i bi h:=by cases h
 obj i bi t rows h:=by cases h
 omap i bi c es h:=by cases h
theorem j_j {base:Nat}{a:Addr}{n:Nat}{cs:List Value}(h:w.cells? base a n=some cs) :cs.length=n/\∀(j:Nat) v,cs[j]? =some v->w.cell? (a.add j) =some v:=by
 unfold World.cells? at h
 split at h
 · have hl:=mapM_some_length h
   refine ⟨by simpa using hl,fun j v hv=>?_⟩
   have hlt:=(zA.1 hv).1
   have hn:cs.length=n:=by simpa using hl
   have:=mapM_some_get h j j (by simp[show j < n by omega])
   rw[this,hv]
 · cases h
theorem a_yd {a:Addr}{v:Value}(h:w.cell? a=some v) :a.block < w.heap.size/\a.spot=none:=by
 unfold World.cell? at h
 split at h
 · rename_i c t fr hb
   refine ⟨(Array.getElem?_eq_some_iff.1 hb).1,?_⟩
   split at h
   · cases h
   · rename_i hs;simpa using hs
 · cases h
theorem a_jf {β : Bk} (n : Nat) (ih : ∀ (t : TypeId) (cs : List Value), g_h P n t = true -> ∀ (fuel : Nat) (x : DataW H × List MemPlace), DataW.trod enc P w 0 (fun _ => true) true fuel t cs = some x ->
     (∀m ∈ x.1.weights P t,m<=140737488351232)->∃ds,VL (t_a w) β w cs ds/\tyD P n t ds) (cs:List Value) (m:Nat) :
   ∀(fs:List Field) (o:Nat) (xs:List (DataW H × List MemPlace)),a_a7 P o fs cs.length=true->(∀f ∈ fs,g_h P n f.type=true)->xs.length=fs.length->
     (∀(i:Nat) (f:Field),fs[i]? =some f->DataW.trod enc P w 0 (fun _=>true) true m f.type ((cs.drop f.offset).take (P.cellsOf f.type)) =xs[i]?)->
     (∀q ∈ DataW.weightsEach P (fs.map (·.type)) (xs.map (·.1)),q<=140737488351232)->o<=cs.length->∃ds,VL (t_a w) β w (cs.drop o) ds/\tyF P (tyD P n) fs ds
 | [],o,xs,ht,_,_,_,_,ho=>by
   have:o=cs.length:=Nat.eq_of_beq_eq_true ht
   subst this
   exact ⟨[],by simp[VL],rfl⟩
 | f::fs,o,xs,ht,hp,hl,he,hw,ho=>by
   simp only[a_a7,zO] at ht
   have hfo:=Nat.eq_of_beq_eq_true ht.1
   cases xs with
   | nil=>simp at hl
   | cons x xs=>
     have h0:=he 0 f rfl
     rw[hfo] at h0
     simp only[List.map_cons,DataW.weightsEach,List.mem_append] at hw
     have tl:∀(fs:List Field) (o:Nat),a_a7 P o fs cs.length=true->o<=cs.length:=by
       intro fs
       induction fs with
       | nil=>intro o h;exact Nat.le_of_eq (Nat.eq_of_beq_eq_true h)
       | cons g gs ihg=>intro o h;simp only[a_a7,zO] at h;have:=ihg _ h.2;omega
     have hle:=tl _ _ ht.2
     obtain ⟨a,hva,hta⟩:=ih f.type _ (hp f (by simp)) m x (by simpa using h0) (fun q hq=>hw q (.inl hq))
     obtain ⟨b,hvb,htb⟩:=a_jf n ih cs m fs (o+P.cellsOf f.type) xs ht.2 (fun g hg=>hp g (by simp[hg])) (by simpa using hl) (fun i g hg=>by have:=he (i+1) g (by simpa using hg);simpa using this)
       (fun q hq=>hw q (.inr hq)) hle
     refine ⟨a ++ b,?_,a,b,rfl,?_,hta,htb⟩
     · have:=hva.append hvb
       have e1:List.take (P.cellsOf f.type) (cs.drop o) ++ cs.drop (o+P.cellsOf f.type) =cs.drop o:=by
         rw[<-List.drop_drop];exact List.take_append_drop _ _
       rw[e1] at this;exact this
     · rw[<-hva.1,zR,List.length_drop];omega
theorem r_i {e:TypeId} :∀{ds:List (DataW H)} {d:DataW H} {m:Nat},d ∈ ds->m ∈ d.weights P e->m ∈ DataW.weightsAll P e ds
 | x::r,d,m,hd,hm=>by
   simp only[DataW.weightsAll,List.mem_append]
   rcases List.mem_cons.1 hd with rfl | hd
   · exact .inl hm
   · exact .inr (r_i hd hm)
theorem a_ul {β : Bk} (n : Nat) (ih : ∀ (t : TypeId) (cs : List Value), g_h P n t = true -> ∀ (fuel : Nat) (x : DataW H × List MemPlace), DataW.trod enc P w 0 (fun _ => true) true fuel t cs = some x ->
     (∀m ∈ x.1.weights P t,m<=140737488351232)->∃ds,VL (t_a w) β w cs ds/\tyD P n t ds) (e:TypeId) (hp:g_h P n e=true) (fuel:Nat) :
   ∀(m:Nat) (cs:List Value) (xs:List (DataW H × List MemPlace)),cs.length=m * P.cellsOf e->xs.length=m->
     (∀i,i < m->DataW.trod enc P w 0 (fun _=>true) true fuel e ((cs.drop (i * P.cellsOf e)).take (P.cellsOf e)) =xs[i]?)->(∀q ∈ DataW.weightsAll P e (xs.map (·.1)),q<=140737488351232)->
     ∃ds,VL (t_a w) β w cs ds/\tyR P (tyD P n) e m ds
 | 0,cs,xs,hl,hx,_,_=>by
   have:cs=[]:=List.eq_nil_of_length_eq_zero (by simpa using hl)
   subst this
   exact ⟨[],by simp[VL],rfl⟩
 | m+1,cs,xs,hl,hx,he,hw=>by
   cases xs with
   | nil=>simp at hx
   | cons x xs=>
     have h0:=he 0 (by omega)
     simp only[List.map_cons,DataW.weightsAll,List.mem_append] at hw
     rw[Nat.add_mul] at hl
     obtain ⟨a,hva,hta⟩:=ih e _ hp fuel x (by simpa using h0) (fun q hq=>hw q (.inl hq))
     obtain ⟨b,hvb,htb⟩:=a_ul n ih e hp fuel m (cs.drop (P.cellsOf e)) xs (by rw[List.length_drop];omega) (by simpa using hx) (fun i hi=>by
       have:=he (i+1) (by omega)
       rw[List.drop_drop,show P.cellsOf e+i * P.cellsOf e=(i+1) * P.cellsOf e by rw[Nat.add_mul];omega,this];rfl) (fun q hq=>hw q (.inr hq))
     refine ⟨a ++ b,?_,a,b,rfl,?_,hta,htb⟩
     · have:=hva.append hvb
       rw[List.take_append_drop] at this;exact this
     · rw[<-hva.1,zR];omega
theorem a_df {β : Bk} : ∀ (n : Nat) (t : TypeId) (cs : List Value), g_h P n t = true -> ∀ (fuel : Nat) (x : DataW H × List MemPlace), DataW.trod enc P w 0 (fun _ => true) true fuel t cs = some x ->
     (∀m ∈ x.1.weights P t,m<=140737488351232)->∃ds,VL (t_a w) β w cs ds/\tyD P n t ds
 | 0,t,cs,hp=>by simp[g_h] at hp
 | n+1,t,cs,hp=>by
   intro fuel x h hw
   have one:∀{v:Value} {d:D},V (t_a w) β w v d->VL (t_a w) β w [v] [d]:=fun hv=>⟨rfl,fun i u y h1 h2=>by
     cases i with
     | zero=>simp at h1 h2;subst h1 h2;exact hv
     | succ i=>simp at h1⟩
   unfold g_h at hp
   unfold tyD
   split at hp
   · rename_i hu
     obtain ⟨b,rfl,rfl⟩:=DataW.trod_bool hu h
     exact ⟨[.bool b],one (.bool b),b,rfl⟩
   · rename_i q hu
     obtain ⟨m,rfl,rfl,hm⟩:=DataW.trod_int hu h
     exact ⟨[.int q m],one (.int q m),m,rfl,hm⟩
   · rename_i hu
     obtain ⟨s,rfl,rfl,hm⟩:=DataW.trod_string hu h
     exact ⟨[.str s],one (.str s),s,rfl,by have:=hw s.data.toList.length (by simp[DataW.weights]);simpa using this⟩
   · rename_i e hu
     simp only[zO,decide_eq_true_eq] at hp
     obtain ⟨hpe,hpos⟩:=hp
     rcases DataW.trod_slice hu h with ⟨rfl,rfl⟩ | ⟨a,len,cap,elems,rest,m,_,rfl,rfl,_,hlc,hcm,hel,hr,_,_⟩
     · exact ⟨[.nils],one .nils, .inl rfl⟩
     · simp only[DataW.weights,hu,List.mem_cons,List.mem_append] at hw
       have each:∀i,i < len->∃cs row,w.cells? 0 (a.add (i * P.cellsOf e)) (P.cellsOf e) =some cs/\VL (t_a w) β w cs row/\tyD P n e row:=by
         intro i hi
         have h1:=hr i hi
         have h2:=zH (l:=elems) (i:=i) (by omega)
         rw[h2] at h1
         cases hc:w.cells? 0 (a.add (i * P.cellsOf e)) (P.cellsOf e) with
         | none=>rw[hc] at h1;cases h1
         | some cs=>
           rw[hc] at h1
           obtain ⟨row,r1,r2⟩:=a_df n e cs hpe m _ h1 (fun q hq=>hw q (.inr (.inl (r_i (List.mem_map.2 ⟨_,List.getElem_mem (h:=by omega),rfl⟩) hq))))
           exact ⟨cs,row,rfl,r1,r2⟩
       have each':∀i,∃row,i < len->∃cs,w.cells? 0 (a.add (i * P.cellsOf e)) (P.cellsOf e) =some cs/\VL (t_a w) β w cs row/\tyD P n e row:=fun i=>by
         by_cases hi:i < len
         · obtain ⟨cs,row,h⟩:=each i hi
           exact ⟨row,fun _=>⟨cs,h⟩⟩
         · exact ⟨[],fun h=>absurd h hi⟩
       obtain ⟨F,hF⟩:=Classical.axiomOfChoice each'
       have hget:∀(i:Nat) row,((List.range len).map F)[i]? =some row->i < len/\row=F i:=fun i row hi=>by
         have hlt:=(zA.1 hi).1
         simp at hlt
         simp[zL,List.getElem?_range hlt] at hi
         exact ⟨hlt,hi.symm⟩
       have hsp:0 < len->a.block < w.heap.size/\a.spot=none:=fun h0=>by
         obtain ⟨cs,c1,_,_⟩:=hF 0 h0
         obtain ⟨c2,c3⟩:=j_j c1
         have:=c3 0 cs[0] (zH (by omega))
         simp[Addr.add] at this
         exact a_yd this
       have hcell:∀i j,i < len->j < P.cellsOf e->∃v,w.cell? ⟨a.block,a.off+i * P.cellsOf e+j,none⟩ =some v/\∀d,(F i)[j]? =some d->V (t_a w) β w v d:=by
         intro i j hi hj
         obtain ⟨cs,c1,c2,_⟩:=hF i hi
         obtain ⟨c3,c4⟩:=j_j c1
         have hg:=zH (l:=cs) (i:=j) (by omega)
         have:=c4 j _ hg
         have hsp:=(hsp (by omega)).2
         have e1:(a.add (i * P.cellsOf e)).add j=⟨a.block,a.off+i * P.cellsOf e+j,none⟩:=by
           obtain ⟨b,o',sp⟩:=a
           simp at hsp;subst hsp
           rw[m_l,m_l]
         rw[e1] at this
         exact ⟨_,this,fun d hd=>c2.2 j _ d hg hd⟩
       refine ⟨[.sl (P.cellsOf e) ((List.range len).map F)],one (.sl a len cap (P.cellsOf e) _ (fun i j=>(w.cell? ⟨a.block,a.off+i * P.cellsOf e+j,none⟩).getD undef) (fun hne=>hsp (by
         cases len with
         | zero=>simp at hne
         | succ=>omega)) (by simp) hlc (fun i row hi=>?_) (fun i row j d hi hj=>?_) (fun i row j d hi hj=>?_)), .inr ⟨_,rfl,?_,fun row hrow=>?_⟩⟩
       · obtain ⟨hi',rfl⟩:=hget i row hi
         obtain ⟨cs,c1,c2,_⟩:=hF i hi'
         rw[<-c2.1,(j_j c1).1]
       · obtain ⟨hi',rfl⟩:=hget i row hi
         obtain ⟨cs,c1,c2,_⟩:=hF i hi'
         have hlt:=(zA.1 hj).1
         rw[<-c2.1,(j_j c1).1] at hlt
         obtain ⟨v,v1,_⟩:=hcell i j hi' hlt
         rw[v1];rfl
       · obtain ⟨hi',rfl⟩:=hget i row hi
         obtain ⟨cs,c1,c2,_⟩:=hF i hi'
         have hlt:=(zA.1 hj).1
         rw[<-c2.1,(j_j c1).1] at hlt
         obtain ⟨v,v1,v2⟩:=hcell i j hi' hlt
         rw[v1];exact v2 d hj
       · have:=hw _ (.inl rfl)
         simp only[zB,List.length_range] at this ⊢
         have h2:len * P.bytesOf e<=(elems.length+rest.length) * P.bytesOf e:=Nat.mul_le_mul_right _ (by omega)
         omega
       · obtain ⟨i,hi,rfl⟩:=List.mem_map.1 hrow
         obtain ⟨cs,_,_,c3⟩:=hF i (by simpa using hi)
         exact c3
   · rename_i fs hu
     simp only[zO,List.all_eq_true] at hp
     obtain ⟨xs,m,_,rfl,hl,hlen,hf⟩:=DataW.trod_struct hu h
     simp only[DataW.weights,hu] at hw
     have:=a_jf (β:=β) n (fun t cs hp fuel x=>a_df n t cs hp fuel x) cs m fs.toList 0 xs (by rw[hl];exact hp.1) (fun f hf=>hp.2 f hf) (by simpa using hlen) (fun i f hi=>hf i f (by simpa using hi)) hw (by omega)
     simpa using this
   · rename_i m e hu
     simp only[zO] at hp
     cases fuel with
     | zero=>simp[DataW.trod] at h
     | succ fuel=>
       unfold DataW.trod at h
       rw[hu] at h
       have h:(if cs.length=P.cellsOf t then ((List.range m).mapM fun i=>DataW.trod enc P w 0 (fun _=>true) true fuel e ((cs.drop (i * P.cellsOf e)).take (P.cellsOf e))).map fun xs=>((.agg (xs.map (·.1)) :DataW H),xs.flatMap (·.2)) else none) =some x:=by
         cases cs <;> simpa using h
       split at h
       · rename_i hl
         rw[Option.map_eq_some_iff] at h
         obtain ⟨xs,hx,rfl⟩:=h
         simp only[DataW.weights,hu] at hw
         have hxl:=mapM_some_length hx
         exact a_ul n (fun t cs hp fuel x=>a_df n t cs hp fuel x) e hp.1 fuel m cs xs (by rw[hl];exact (Nat.eq_of_beq_eq_true hp.2).symm) (by simpa using hxl) (fun i hi=>mapM_some_get hx i i (by simp[hi])) hw
       · cases h
   · cases hp
theorem a_y8 {n:Nat}{t:TypeId}{v:Value}{W:World}{base:Nat}(hp:g_h P (n+1) t=true)(hok:Value.okWide P W .any base t v) :
   (b_2 P t=some false/\v.cells= #[v])\/(b_2 P t=some true/\∃cs,v= .agg cs):=by
 unfold g_h at hp
 unfold b_2
 split at hp
 · rename_i hu;obtain ⟨b,rfl⟩:=okWide_bool hu hok;rw[hu];exact .inl ⟨rfl,rfl⟩
 · rename_i hu;obtain ⟨b,rfl⟩:=okWide_int hu hok;rw[hu];exact .inl ⟨rfl,rfl⟩
 · rename_i hu
   rw[hu]
   simp only[Value.okWide,hu,Cell.okWide] at hok
   cases v <;> simp[Cell.ok,hu] at hok <;> exact .inl ⟨rfl,rfl⟩
 · rename_i e hu
   rw[hu]
   simp only[Value.okWide,hu,Cell.okWide] at hok
   cases v <;> simp[Cell.ok,hu] at hok <;> exact .inl ⟨rfl,rfl⟩
 · rename_i fs hu;obtain ⟨cs,rfl,_⟩:=okWide_struct hu hok;rw[hu];exact .inr ⟨rfl,cs,rfl⟩
 · rename_i m e hu
   rw[hu]
   simp only[Value.okWide,hu] at hok
   obtain ⟨cs,rfl,_⟩:=hok
   exact .inr ⟨rfl,cs,rfl⟩
 · cases hp
theorem a_y7 {t:TypeId}{v:Value}{d:DataW H}{ps:List MemPlace}{base:Nat}(hp:g_h P 30 t=true)(hok:Value.okWide P w .any base t v)(h:DataW.Trod enc P w 0 (fun _=>true) true t v d ps)
   (hw:∀m ∈ d.weights P t,m<=140737488351232) :∃x,TyA P t x/\VA (t_a w) noB w v x:=by
 obtain ⟨fuel,h⟩:=h
 obtain ⟨ds,h1,h2⟩:=a_df (β:=noB) 30 t _ hp fuel _ h hw
 rcases a_y8 hp hok with ⟨q1,q2⟩ | ⟨q1,cs,rfl⟩
 · rw[q2] at h1
   have hl:=h1.1
   match ds,hl with
   | [d'],_=>exact ⟨.one d',⟨q1,h2⟩,h1.2 0 v d' rfl rfl⟩
 · exact ⟨.agg ds,⟨q1,h2⟩,cs,rfl,h1⟩
theorem a_sy {base:Nat} :∀{ts:List TypeId} {vs:List Value} {ds:List (DataW H)} {ps:List MemPlace},(∀t ∈ ts,g_h P 30 t=true)->(∀(j:Nat) t v,ts[j]? =some t->vs[j]? =some v->Value.okWide P w .any base t v)->
   DataW.TrodAll enc P w 0 (fun _=>true) true ts vs ds ps->(∀m ∈ DataW.weightsEach P ts ds,m<=140737488351232)->
   ∃as0,TyAs P ts as0/\vs.length=as0.length/\∀(i:Nat) v x,vs[i]? =some v->as0[i]? =some x->VA (t_a w) noB w v x
 | [],vs,ds,ps,_,_,h,_=>by
   obtain ⟨rfl,rfl,rfl⟩:=trodAll_nil h
   exact ⟨[],rfl,rfl,fun i v x hv=>by simp at hv⟩
 | t::ts,vs,ds,ps,hp,hok,h,hw=>by
   obtain ⟨v,vs1,d,ds1,a,b,rfl,rfl,rfl,h1,h2⟩:=trodAll_cons h
   simp only[DataW.weightsEach,List.mem_append] at hw
   obtain ⟨x,x1,x2⟩:=a_y7 (hp t (by simp)) (hok 0 t v rfl rfl) h1 (fun m hm=>hw m (.inl hm))
   obtain ⟨as0,a1,a2,a3⟩:=a_sy (fun t ht=>hp t (by simp[ht])) (fun j t v h1 h2=>hok (j+1) t v (by simpa using h1) (by simpa using h2)) h2 (fun m hm=>hw m (.inr hm))
   refine ⟨x::as0,⟨x,as0,rfl,x1,a1⟩,by simp[a2],fun i u y hu hy=>?_⟩
   cases i with
   | zero=>simp at hu hy;subst hu hy;exact x2
   | succ i=>exact a3 i u y (by simpa using hu) (by simpa using hy)
theorem t_0 (hl:laidOutB P=true){W W':World}(hb:Below W.heap.size W W')(sp:Nat->Bool) :∀{ts:List TypeId} {vs:List Value} {ds:List (DataW H)} {ps:List MemPlace},
   (∀t ∈ ts,P.readableRec t=true/\t < P.types.size)->DataW.TrodAll enc P W 0 (fun _=>true) true ts vs ds ps->(∀p ∈ ps,p.block < W.heap.size)->(∀p ∈ ps,sp p.block=true)->DataW.TrodAll enc P W' 0 sp true ts vs ds ps
 | [],vs,ds,ps,_,h,_,_=>by
   obtain ⟨rfl,rfl,rfl⟩:=trodAll_nil h
   rfl
 | t::ts,vs,ds,ps,hr,h,hlt,hs=>by
   obtain ⟨v,vs1,d,ds1,a,b,rfl,rfl,rfl,h1,h2⟩:=trodAll_cons h
   exact ⟨a,b,WideElems.Trod_stays hl (hr t (by simp)).1 (hr t (by simp)).2 h1 (fun x hx=>hb.same (hlt x (by simp[hx]))) (fun x hx=>hs x (by simp[hx])),
     t_0 hl hb sp (fun t ht=>hr t (by simp[ht])) h2 (fun x hx=>hlt x (by simp[hx])) (fun x hx=>hs x (by simp[hx])),rfl⟩
theorem a_wj {f:Func}{s:ChangeSpec}{W W':World}{args:Array Value}{ds gs:List (DataW H)}{before:List MemPlace}{tb:TypeId}(hl:laidOutB P=true)
   (hr:∀t ∈ f.params.toList,P.readableRec t=true/\t < P.types.size) (hvars:s.vars=[]) (hres:f.resultTypes= #[tb]) (htb:P.underlying tb=some .bool)
   (hfn:(s.fn H ds) = { results:= [.lit (.bool true)],args:=ds }) (hW:DataW.Whole enc P f.params.toList s.vars false W args.toList ds gs before) (hb:Below W.heap.size W W') :
   s.post enc P f false true false false W args (.bool true) W':=by
 have hlt:∀p ∈ before,p.block < W.heap.size:=fun p hp=>hW.lt p hp
 have hW':=hW
 obtain ⟨p,q,hA,hV,rfl,hz,_⟩:=hW'
 rw[hvars] at hV
 obtain ⟨rfl,rfl⟩:=trodVars_none hV
 have hres':(s.fn H (ds ++ [])).results=[.lit (.bool true)]:=by rw[zS,hfn]
 have hargs':(s.fn H (ds ++ [])).args=ds:=by rw[zS,hfn]
 have hvars':(s.fn H (ds ++ [])).vars=[]:=by rw[zS,hfn]
 have hst:∀sp:Nat->Bool,(∀x ∈ p,sp x.block=true)->DataW.TrodAll enc P W' 0 sp true f.params.toList args.toList ds p:=fun sp hs=>
   t_0 hl hb sp hr hA (fun x hx=>hlt x (by simp[hx])) hs
 refine ⟨ds,[],p ++ [],[],p,[],hW,?_,?_,?_,?_,fun h=>by cases h⟩
 · rw[hres',hres]
   exact trodAll_mk1 (shut_bool htb true)
 · rw[hargs'];exact hst _ (fun x hx=>by simpa using hlt x (by simp[hx]))
 · rw[hvars',hvars];rfl
 · refine World.keptBut_mono (fun x hx=>⟨hx, .inr (.inl (by simpa using hx))⟩) (hb.frame (· ∈ p ++ []))
theorem a_ug {f:FuncId}{fn:Func}{s:ChangeSpec}{W:World}{base:Nat}{args:Array Value}{ds gs:List (DataW H)}{before:List MemPlace}{tb:TypeId}(hl:laidOutB P=true)
   (hp:(fn.params.toList.all fun t=>g_h P 30 t && P.readableRec t && decide (t < P.types.size)) =true) (hvars:s.vars=[]) (hres:fn.resultTypes= #[tb]) (htb:P.underlying tb=some .bool)
   (hfn:ds.length=fn.params.size->(s.fn H ds) = { results:= [.lit (.bool true)],args:=ds })
   (law:∀as0,TyAs P fn.params.toList as0->DCalls P f as0 noS fun r _=>r= .a (.one (.bool true)))
   (hval:∀(j:Nat) t v,fn.params[j]? =some t->args[j]? =some v->Value.okWide P W .any base t v)
   (hW:DataW.Whole enc P fn.params.toList s.vars false W args.toList ds gs before)
   (hw:((DataW.weightsEach P (fn.params.toList ++ s.plain.varTypes P) (ds ++ gs)).all (·<=reachBytes)) =true) :
   Calls P f args W fun e W'=>∃v,e= .returned v/\s.post enc P fn false true false false W args v W':=by
 simp only[List.all_eq_true,zO,decide_eq_true_eq] at hp
 have hW':=hW
 obtain ⟨p,q,hA,hV,rfl,hz,_⟩:=hW'
 have hg:gs=[]:=by rw[hvars] at hV;exact (trodVars_none hV).1
 subst hg
 have hvt:s.plain.varTypes P=[]:=by
   have:s.plain.vars=[]:=hvars
   simp[DataSpec.varTypes,this]
 rw[hvt,zS,zS] at hw
 obtain ⟨as0,a1,a2,a3⟩:=a_sy (base:=base) (fun t ht=>(hp t ht).1.1) (fun j t v h1 h2=>hval j t v (by simpa using h1) (by simpa using h2)) hA (fun m hm=>by
   have:=zM (List.all_eq_true.1 hw m hm)
   simpa[reachBytes] using this)
 have hlen:ds.length=fn.params.size:=by
   have key:∀{ts:List TypeId} {vs:List Value} {ds:List (DataW H)} {ps:List MemPlace},DataW.TrodAll enc P W 0 (fun _=>true) true ts vs ds ps->ds.length=ts.length:=by
     intro ts
     induction ts with
     | nil=>intro vs ds ps h;obtain ⟨_,rfl,_⟩:=trodAll_nil h;rfl
     | cons t ts ih=>intro vs ds ps h;obtain ⟨v,vs1,d,ds1,a,b,_,rfl,_,_,h2⟩:=trodAll_cons h;simp[ih h2]
   simpa using key hA
 have hd:=(law as0 a1).2 (t_a W) noB W args a_yt (by simpa using a2) (fun i v x h1 h2=>a3 i v x (by simpa using h1) h2)
 refine hd.mono fun e W' ⟨v,r,σ',k',β',q1,q2,q3,q4,q5,q6⟩=>⟨v,q1,?_⟩
 subst q2
 have hv:v= .bool true:=V.inv_bool q3
 subst hv
 exact a_wj hl (fun t ht=>⟨(hp t ht).1.2,(hp t ht).2⟩) hvars hres htb (hfn hlen) hW ⟨q6.os,q6.tape,q6.output,q6.size,fun b hb=>q6.block b hb (fun i bi hi=>by cases hi)⟩
theorem law_lifted {C:Checked}{os:Os}{f:FuncId}{fn:Func}{s:ChangeSpec}{tb:TypeId}(own:ownKnob C.prog.godebug=none)(started:os.Started)(noInit:C.prog.inits.idxOf? f=none)(hf:C.prog.funcs[f]? =some fn)
   (witness:∃(w:World) (tape:Tape) (i:Input),w.os=os/\(w.forCall tape i).Shaped C.prog/\i.vars=[]/\Input.okWide C.prog (w.forCall tape i) .any w.heap.size f i/\
     s.pre6 enc C.prog fn [] false (w.forCall tape i).memory i.args/\({} :Assume).holds C.prog (lone (Frame.enter C.prog f i.args .normal) [] (w.forCall tape i)))
   (hl:laidOutB C.prog=true) (hp:(fn.params.toList.all fun t=>g_h C.prog 30 t && C.prog.readableRec t && decide (t < C.prog.types.size)) =true) (hvars:s.vars=[]) (hres:fn.resultTypes= #[tb])
   (htb:C.prog.underlying tb=some .bool) (hfn:∀ds:List (DataW H),ds.length=fn.params.size->(s.fn H ds) = { results:= [.lit (.bool true)],args:=ds })
   (law:∀as0,TyAs C.prog fn.params.toList as0->DCalls C.prog f as0 noS fun r _=>r= .a (.one (.bool true))) :
   ReturnsInHanded {} C os f .any (s.pre6 enc C.prog fn [] false) (s.post enc C.prog fn false true false false):=by
 have e:(fun w args=>(s.pre enc C.prog fn [] false w args/\True)/\sizedMet enc C.prog fn (OpenSpec.ofChange s) false w args) =s.pre6 enc C.prog fn [] false:=by
   funext w args;simp[ChangeSpec.pre6]
 rw[<-e]
 refine returnsInHanded_of_change_and (X:=fun _ _=>True) (fun _ _ _ _ _=>trivial) own started noInit hf ?_ ?_
 · obtain ⟨w,tape,i,h1,h2,h3,h4,h5,h6⟩:=witness
   exact ⟨w,tape,i,h1,h2,h3,h4,⟨⟨h5.1,trivial⟩,h5.2⟩,h6⟩
 · intro W base args ds gs before hval hW _ hw _ _
   exact a_ug hl hp hvars hres htb (hfn ds) law hval hW hw
end
end
section
theorem joined_of {P:Program}{f:FuncId}{fn:Func}{s:ChangeSpec}{c:OpenClaim}(a0:laidOutB P=true)
   (a1:(c.wf (OpenSpec.ofChange s) && mapsRowed P && fn.params.all (P.readableRec ·) && namedTie P c.named s.vars && (c.stops == []) && (P.stops == []) && (c.knobs == []) && (P.stopKnobs == []) && (c.inPlace == P.inPlace f)) =true)
   (a2:(c.unfollowed == P.unfollowed f) =true) (a3:(c.recurses == P.recurses f) =true) (a4:(c.named == P.varsNamed f) =true)
   (a5:((c.maps ==(fn.params.toList ++ s.plain.varTypes P).any (P.mapsRec ·)) && (c.ifaces ==(fn.params.toList ++ s.plain.varTypes P).any (P.ifacesRec ·)) && (c.mapsOut == P.mapsAmong fn.resultTypes.toList) && (c.loops ==(fn.params.toList ++ s.plain.varTypes P).any (P.loopsFrom ·)) && (c.wideKeys ==(fn.params.toList ++ s.plain.varTypes P ++ fn.resultTypes.toList).any (P.wideKeysFrom ·))) =true)
   (a6:(s.vars.all (P.varReadable ·) && fn.resultTypes.all (fun t=>P.readableRec t && decide (t < P.types.size)) && (c.ifacesOut == fn.resultTypes.toList.any (P.ifacesRec ·)) && (c.loopsOut == fn.resultTypes.toList.any (P.loopsFrom ·))) =true)
   (a7:((c.plainKeys == P.plainKeys) && c.shortTexts.isNone && P.stopsHeard && P.mayEnter && (c.lifted == P.liftsFinal) && (P.make == some c.make) && (c.kinds ==(if c.domain.isEmpty then [] else fn.params.toList.map fun t=>match P.underlying t with | some (.int k)=>some k | _=>none)) && (c.pinned == c.pinnedBy)) =true)
   (a8:((c.veiled ==(fn.params.toList ++ s.plain.varTypes P ++ fn.resultTypes.toList).any (P.veiledRec ·)) && c.veiledFits P fn.params.toList (fn.params.toList ++ s.plain.varTypes P ++ fn.resultTypes.toList)) =true) :
   joinedFacts P f fn s c=true:=by
 rw[zO] at a8
 repeat rw[zO] at a7
 repeat rw[zO] at a6
 repeat rw[zO] at a5
 repeat rw[zO] at a1
 obtain ⟨⟨⟨⟨⟨⟨⟨⟨b1,b2⟩,b3⟩,b4⟩,b5⟩,b6⟩,b7⟩,b8⟩,b9⟩:=a1
 obtain ⟨⟨⟨⟨c1,c2⟩,c3⟩,c4⟩,c5⟩:=a5
 obtain ⟨⟨⟨d1,d2⟩,d3⟩,d4⟩:=a6
 obtain ⟨⟨⟨⟨⟨⟨⟨e1,e2⟩,e3⟩,e4⟩,e5⟩,e6⟩,e7⟩,e8⟩:=a7
 obtain ⟨f1,f2⟩:=a8
 unfold joinedFacts
 rw[b1,a0,b2,b3,b4,b5,b6,b7,b8,b9,a2,a3,a4,c1,c2,c3,c4,c5,d1,d2,d3,d4,e1,e2,e3,e4,e5,e6]
 exact Bool.and_eq_true_iff.2 ⟨Bool.and_eq_true_iff.2 ⟨Bool.and_eq_true_iff.2 ⟨Bool.and_eq_true_iff.2 ⟨rfl,e7⟩,e8⟩,f1⟩,f2⟩
end
end Go.Fw
namespace Go.Fw
section
variable {P:Program} {σ σ':Store} {el:TypeId} {d:D} {rs:List (List D)}
theorem a_r {n:Int}(h1: -9223372036854775808<=n)(h2:n<=9223372036854775807) :w64 n=n:=by
 simp only[w64,IntKind.wrap,IntKind.signed,IntKind.bits];simp;omega
theorem a_i {j:Nat}(h:j < 2 ^ 62) :w64 ((j:Int) +1) =((j+1:Nat) :Int):=by
 rw[a_r (by omega) (by omega)];omega
structure At (P:Program) (σ:Store) (el:TypeId) (d:D) (rs:List (List D)) :Prop where
 rows:Rows P σ el d rs
 size:rs.length < 2 ^ 60
 es:∀es rows,d= .sl es rows->es=P.cellsOf el
theorem At.lenI (h:At P σ el d rs) :Len d rs.length:=by
 have hr:=h.rows
 cases d <;> simp only[Rows] at hr <;> try exact hr.elim
 · subst hr;rfl
 · subst hr;rfl
 · rw[hr.1];rfl
 · obtain ⟨t,rows,h1,h2,h3,rfl⟩:=hr
   show _=_
   simp;omega
theorem At.lenK {K:Nat->Prop}(h:At P σ el d rs)(hk:K rs.length) :∃len:Nat,Len d len/\K len:=⟨_,h.lenI,hk⟩
theorem At.row {i:Nat}{row:List D}(h:At P σ el d rs)(hi:rs[i]? =some row) :Row σ d i row:=by
 have hr:=h.rows
 have hlt:=(zA.1 hi).1
 cases d <;> simp only[Rows] at hr <;> try exact hr.elim
 · subst hr;simp at hi
 · subst hr;simp at hi
 · rw[hr.1] at hi;exact hi
 · obtain ⟨t,rows,h1,h2,h3,rfl⟩:=hr
   refine ⟨?_,t,rows,h1,?_⟩
   · simp at hlt;omega
   · rw[List.getElem?_take] at hi
     split at hi
     · rw[List.getElem?_drop] at hi;exact hi
     · cases hi
theorem At.idx {es:Nat}(h:At P σ el d rs)(hes:P.cellsOf el=es)(hne:0 < rs.length) :Idx P σ d es rs.length:=by
 have hr:=h.rows
 subst hes
 cases d <;> simp only[Rows] at hr <;> try exact hr.elim
 · subst hr;simp at hne
 · subst hr;simp at hne
 · obtain ⟨rfl,h2⟩:=hr
   refine ⟨h2.resolve_left (fun e=>by subst e;simp at hne),rfl⟩
 · obtain ⟨t,rows,h1,h2,h3,rfl⟩:=hr
   exact ⟨by simp;omega,t,rows,h1,h2⟩
theorem At.idxN {es:Nat}(h:At P σ el d rs)(hes:P.cellsOf el=es) :IdxN P σ d es rs.length:=by
 by_cases hne:0 < rs.length
 · exact .inl (h.idx hes hne)
 · have hr:=h.rows
   have h0:rs=[]:=List.eq_nil_of_length_eq_zero (by omega)
   subst hes
   cases d <;> simp only[Rows] at hr <;> try exact hr.elim
   · exact .inr ⟨by omega, .inl rfl⟩
   · exact .inr ⟨by omega, .inr rfl⟩
   · exact .inl ⟨h.es _ _ rfl,by rw[hr.1]⟩
   · obtain ⟨t,rows,h1,h2,h3,rfl⟩:=hr
     exact .inl ⟨by simp;omega,t,rows,h1,h2⟩
theorem At.idxK {es:Nat}{n:Int}{j:Nat}{K:Prop}(h:At P σ el d rs)(hes:P.cellsOf el=es)(hn:n=j)(hj:j < rs.length)(hk:K) :
   ∃len:Nat,Idx P σ d es len/\0<=n/\n < (len:Int)/\K:=⟨_,h.idx hes (by omega),by omega,by omega,hk⟩
theorem At.rowK {i:Nat}{j:Nat}{row:List D}{K:List D->Prop}(h:At P σ el d rs)(hi:rs[j]? =some row)(hij:i=j)(hk:K row) :∃row,Row σ d i row/\K row:=⟨row,h.row (hij ▸ hi),hk⟩
theorem At.load {es:Nat}{n:Int}{j:Nat}{row:List D}{K:List D->Prop}(h:At P σ el d rs)(hi:rs[j]? =some row)(hes:P.cellsOf el=es)(hn:n=j)(hk:K row) :
   ∃len:Nat,Idx P σ d es len/\0<=n/\n < (len:Int)/\∃row,Row σ d n.toNat row/\K row:=
 h.idxK hes hn (zA.1 hi).1 (h.rowK hi (by omega) hk)
theorem At.sub {lo hi:Nat}(h:At P σ el d rs)(h1:lo<=hi)(h2:hi<=rs.length) :At P σ el (h_u d lo hi) ((rs.drop lo).take (hi - lo)):=by
 have hr:=h.rows
 have hs:=h.size
 have hl:((rs.drop lo).take (hi - lo)).length < 2 ^ 60:=by simp;omega
 cases d <;> simp only[Rows] at hr <;> try exact hr.elim
 · subst hr;exact ⟨by simp[h_u,Rows],hl,fun es rows e=>by cases e⟩
 · subst hr;exact ⟨by simp[h_u,Rows],hl,fun es rows e=>by cases e⟩
 · rename_i es rows
   obtain ⟨rfl,h3⟩:=hr
   refine ⟨⟨rfl, .inr (h.es _ _ rfl)⟩,hl,fun es' rows' e=>?_⟩
   have e:D.sl es _=D.sl es' rows':=e
   injection e with e1 e2
   rw[<-e1];exact h.es _ _ rfl
 · obtain ⟨t,rows,q1,q2,q3,rfl⟩:=hr
   refine ⟨⟨t,rows,q1,q2,?_,?_⟩,hl,fun es rows e=>by cases e⟩
   · simp at h2;omega
   · rw[List.drop_take,List.take_take,List.drop_drop]
     simp at h2
     congr 1;omega
theorem At.sliceK {es lo hi:Nat}{l m:Int}{K:Prop}(h:At P σ el d rs)(hes:P.cellsOf el=es)(hl:l=lo)(hm:m=hi)(h1:lo<=hi)(h2:hi<=rs.length)(hk:K) :
   ∃len:Nat,IdxN P σ d es len/\0<=l/\l<=m/\m<=(len:Int)/\K:=⟨_,h.idxN hes,by omega,by omega,by omega,hk⟩
theorem At.sliceFromK {es lo:Nat}{l:Int}{K:Nat->Prop}(h:At P σ el d rs)(hes:P.cellsOf el=es)(hl:l=lo)(h1:lo<=rs.length)(hk:K rs.length) :
   ∃len:Nat,IdxN P σ d es len/\0<=l/\l<=(len:Int)/\K len:=⟨_,h.idxN hes,by omega,by omega,hk⟩
def Ext (σ σ':Store) :Prop:=∀i,σ i≠ .free->σ' i=σ i
theorem Ext.refl (σ:Store) :Ext σ σ:=fun _ _=>rfl
theorem Ext.trans {σ1 σ2 σ3:Store}(h:Ext σ1 σ2)(h':Ext σ2 σ3) :Ext σ1 σ3:=fun i hi=>by
 have:=h i hi
 rw[h' i (by rw[this];exact hi),this]
theorem Ext.new {id:Nat}(h:σ id= .free)(so:SO) :Ext σ (σ.set id so):=fun i hi=>Store.set_ne _ _ (fun e=>hi (e ▸ h))
theorem Ext.set {σ0:Store}{id:Nat}(h:Ext σ0 σ)(hid:σ0 id= .free)(so:SO) :Ext σ0 (σ.set id so):=fun i hi=>by
 have hne:i≠id:=fun e=>hi (by rw[e];exact hid)
 rw[Store.set_ne _ _ hne];exact h i hi
theorem Rows.same (h:Rows P σ el d rs)(hs:∀id i len,d= .osl id i len->σ' id=σ id) :Rows P σ' el d rs:=by
 cases d <;> first | exact h | skip
 obtain ⟨t,rows,h1,h2⟩:=h
 exact ⟨t,rows,by rw[hs _ _ _ rfl];exact h1,h2⟩
theorem At.same (h:At P σ el d rs)(hs:∀id i len,d= .osl id i len->σ' id=σ id) :At P σ' el d rs:=⟨h.rows.same hs,h.size,h.es⟩
theorem At.ext (h:At P σ el d rs)(he:Ext σ σ') :At P σ' el d rs:=h.same fun id i len e=>he id (by
 have:=h.rows;subst e
 obtain ⟨t,rows,h1,_⟩:=this
 rw[h1];intro e;cases e)
theorem At.nil:At P σ el .nils []:=⟨rfl,by simp,fun es rows e=>by cases e⟩
theorem At.new {t:TypeId}{id:Nat}(rs:List (List D))(h:σ id= .live t rs)(hes:P.cellsOf t=P.cellsOf el)(hsz:rs.length < 2 ^ 60){n:Nat}(hn:n=rs.length) :At P σ el (.osl id 0 n) rs:=
 ⟨⟨t,rs,h,hes,by omega,by subst hn;simp⟩,hsz,fun es rows e=>by cases e⟩
theorem At.fresh {id:Nat}{rs:List (List D)}(h:σ id= .live el rs)(hsz:rs.length < 2 ^ 60){n:Nat}(hn:n=rs.length) :At P σ el (.osl id 0 n) rs:= .new rs h rfl hsz hn
theorem a_f {so:SO}{K:Nat->Store->Prop}(h:∀id σ',σ id= .free->σ'=σ.set id so->Ext σ σ'->σ' id=so->K id σ') :Fw.newObj σ so K:=
 fun id hid=>h id _ hid rfl (Ext.new hid so) (Store.set_same _ _ _)
/-! ### cases -/
theorem bc {b:Bool}{x y:Prop}(h1:b=true->x)(h2:b=false->y) :a_b b x y:=by cases b;exact h2 rfl;exact h1 rfl
theorem bcd {p:Prop}[Decidable p]{x y:Prop}(h1:p->x)(h2:¬p->y) :a_b (decide p) x y:=bc (fun h=>h1 (zM h)) (fun h=>h2 (of_decide_eq_false h))
theorem bce {a b:Int}{x y:Prop}(h1:a=b->x)(h2:a≠b->y) :a_b (a == b) x y:=bc (fun h=>h1 (by simpa using h)) (fun h=>h2 (by simpa using h))
theorem bcn {a b:Int}{x y:Prop}(h1:a≠b->x)(h2:a=b->y) :a_b (a != b) x y:=bc (fun h=>h1 (by simpa using h)) (fun h=>h2 (by simpa using h))
theorem a_0 {b:Bool}{x y:Prop}(h1:b=false->x)(h2:b=true->y) :a_b (!b) x y:=by cases b;exact h1 rfl;exact h2 rfl
/-! ### calls -/
def Pure (P:Program)(f:FuncId)(as0:List A)(σ:Store)(r:RV) :Prop:=DCalls P f as0 σ fun r' σ'=>r'=r/\σ'=σ
theorem Pure.use {f:FuncId}{as0:List A}{r:RV}{Q:RV->Store->Prop}(h:Pure P f as0 σ r)(hq:Q r σ) :DCalls P f as0 σ Q:=h.mono fun r' s ⟨h1,h2⟩=>by subst h1 h2;exact hq
/-! ### what a call hands back -/
theorem Fz.refl {S:Nat->Prop}{es:Nat}{rows:List (List D)}(h:∀row ∈ rows,∀d ∈ row,Fz P σ S d d) :Fz P σ S (.sl es rows) (.sl es rows):=
 .sl es rows rows rfl (fun i row row' h1 h2=>by rw[h1] at h2;injection h2 with h2;rw[h2]) (fun i row row' j d d' h1 h2 h3 h4=>by
   rw[h1] at h2;injection h2 with h2;subst h2
   rw[h3] at h4;injection h4 with h4;subst h4
   exact h row (zC h1) d (zC h3))
inductive Flat:D->Prop
 | int (q n) :Flat (.int q n)
 | bool (b) :Flat (.bool b)
 | str (s) :Flat (.str s)
theorem Flat.fz {S:Nat->Prop}{d:D}(h:Flat d) :Fz P σ S d d:=by cases h <;> constructor
theorem Fz.osl_flat {S:Nat->Prop}{id i len:Nat}{rows':List (List D)}{t:TypeId}{rows:List (List D)}(hn:¬S id)(hs:σ id= .live t rows)(hi:i+len<=rows.length)(hr:rows'=(rows.drop i).take len)
   (hf:∀row ∈ rows',∀d ∈ row,Flat d) :Fz P σ S (.osl id i len) (.sl (P.cellsOf t) rows'):=by
 have hl:rows'.length=len:=by rw[hr];simp;omega
 have key:∀(j:Nat) row row',rows[i+j]? =some row->rows'[j]? =some row'->row'=row:=fun j row row' h1 h2=>by
   have hlt:=(zA.1 h2).1
   rw[hr,List.getElem?_take,if_pos (by omega),List.getElem?_drop,h1] at h2
   injection h2 with h2;exact h2.symm
 exact .osl id i len t rows rows' hn hs hi hl (fun j row row' h1 h2=>by rw[key j row row' h1 h2]) (fun j row row' m d d' h1 h2 h3 h4=>by
   have e:=key j row row' h1 h2
   subst e
   rw[h3] at h4;injection h4 with h4;subst h4
   exact (hf row' (zC h2) d (zC h3)).fz)
theorem Ret.pure {σ0:Store}{r r':RV}(he:Ext σ0 σ)(hr:FzR P σ (fun i=>σ0 i≠ .free) r r') :Ret P σ0 σ r σ0 r':=
 ⟨fun i=>σ0 i≠ .free,fun i h=>h,fun i h=>Classical.not_not.1 h,fun i h=> .inl ⟨(he i h).symm,he i h⟩,hr⟩
theorem FzL.cons {S:Nat->Prop}{d d':D}{ds ds':List D}(h:Fz P σ S d d')(ht:FzL P σ S ds ds') :FzL P σ S (d::ds) (d'::ds'):=
 ⟨by simp[ht.1],fun i x y h1 h2=>by
   cases i with
   | zero=>simp at h1 h2;subst h1 h2;exact h
   | succ i=>exact ht.2 i x y (by simpa using h1) (by simpa using h2)⟩
theorem FzL.nil {S:Nat->Prop} :FzL P σ S [] []:=⟨rfl,fun i x y h=>by simp at h⟩
theorem FzL.flat {S:Nat->Prop}{ds:List D}(h:∀d ∈ ds,Flat d) :FzL P σ S ds ds:=
 ⟨rfl,fun i x y h1 h2=>by rw[h1] at h2;injection h2 with h2;subst h2;exact (h x (zC h1)).fz⟩
theorem b_s {σ0:Store}{rs:List (List D)}(h:At P σ el d rs)(he:Ext σ0 σ)(hid:∀id i len,d= .osl id i len->σ0 id= .free)(hf:∀row ∈ rs,∀x ∈ row,Flat x) :
   ∃d',Fz P σ (fun i=>σ0 i≠ .free) d d'/\(∀σ'',At P σ'' el d' rs):=by
 have hr:=h.rows
 cases d <;> simp only[Rows] at hr <;> try exact hr.elim
 · subst hr;exact ⟨.nils, .nils,fun _=> .nil⟩
 · subst hr;exact ⟨.zsl, .zsl,fun _=>⟨rfl,by simp,fun es rows e=>by cases e⟩⟩
 · rename_i es rows
   obtain ⟨rfl,h3⟩:=hr
   exact ⟨_, .refl fun row hrow x hx=>(hf row hrow x hx).fz,fun σ''=>⟨⟨rfl,h3⟩,h.size,h.es⟩⟩
 · obtain ⟨t,rows,q1,q2,q3,rfl⟩:=hr
   rename_i id i len
   refine ⟨.sl (P.cellsOf t) ((rows.drop i).take len), .osl_flat (fun hn=>hn (hid _ _ _ rfl)) q1 q3 rfl hf,fun σ''=>⟨⟨rfl, .inr q2⟩,h.size,fun es rows e=>?_⟩⟩
   injection e with e1 e2
   rw[<-e1];exact q2
/-! ### slices that grow -/
structure Own (P:Program) (σ0 σ:Store) (el:TypeId) (d:D) (rs:List (List D)) :Prop where
 at_:At P σ el d rs
 ext:Ext σ0 σ
 new:∀id i len,d= .osl id i len->σ0 id= .free
 nsl:¬isSl d
 nz:d≠ .zsl
theorem Own.nil (σ0:Store)(h:Ext σ0 σ) :Own P σ0 σ el .nils []:=⟨.nil,h,fun id i len e=>(by cases e),fun h=>h,by intro e;cases e⟩
theorem Own.ext' {σ0:Store}(h:Own P σ0 σ el d rs)(he:Ext σ σ') :Own P σ0 σ' el d rs:=⟨h.at_.ext he,h.ext.trans he,h.new,h.nsl,h.nz⟩
theorem Own.append {σ0:Store}{x:D}{ns:List (List D)}{bytes:Nat}{K:D->Store->Prop}(h:Own P σ0 σ el d rs)(hx:At P σ el x ns)(hb:bytes * (rs.length+ns.length)<=140737488355328)
   (hsz:rs.length+ns.length < 2 ^ 60) (hk:∀d' σ',Own P σ0 σ' el d' (rs ++ ns)->(∀i,σ i≠ .free->(∀a b,d≠ .osl i a b)->σ' i=σ i)->(∀i a b,d'= .osl i a b->σ i= .free\/∃a b,d= .osl i a b)->K d' σ') :a_j P σ el bytes d x K:=by
 refine ⟨rs,ns,h.at_.rows,hx.rows,hb,fun hs=>absurd hs h.nsl,fun d' σ' ha=>?_⟩
 have hl:(rs ++ ns).length < 2 ^ 60:=by simp;omega
 rcases ha with ⟨rfl,rfl,rfl⟩ | ⟨hne,id,hid,rfl,rfl⟩ | ⟨hne,id,i0,len,t,rows,rfl,hlive,rfl,rfl⟩
 · refine hk _ _ ?_ (fun i _ _=>rfl) (fun i a b e=> .inr ⟨a,b,e⟩)
   rw[zS];exact h
 · refine hk _ _ ⟨.new (t:=el) _ (Store.set_same _ _ _) rfl hl (by simp),fun i hi=>?_,fun id' i len e=>?_,fun h=>h,by intro e;cases e⟩ (fun i hi _=>?_) (fun i a b e=> .inl ?_)
   · rw[Store.set_ne _ _ (fun e=>?_)]
     · exact h.ext i hi
     · subst e
       have:=h.ext i hi
       rw[hid] at this;exact hi this.symm
   · injection e with e1;subst e1
     by_cases hf:σ0 id= .free
     · exact hf
     · have:=h.ext id hf
       rw[hid] at this;exact this.symm
   · exact Store.set_ne _ _ (fun e=>hi (e ▸ hid))
   · injection e with e1;subst e1;exact hid
 · have hrow:=h.at_.rows
   obtain ⟨t',rows',q1,q2,q3,hrs⟩:=hrow
   rw[hlive] at q1;injection q1 with q1 q1';subst q1 q1'
   have hnew:=h.new id i0 len rfl
   have hlen:rs.length=len:=by rw[hrs];simp;omega
   refine hk _ _ ⟨⟨⟨t,_,Store.set_same _ _ _,q2,?_,?_⟩,hl,fun es rows e=>by cases e⟩,h.ext.set hnew _,fun id' i l e=>?_,fun h=>h,by intro e;cases e⟩ (fun i hi hd=>Store.set_ne _ _ (fun e=>hd i0 len (by rw[e]))) (fun i a b e=> .inr ?_)
   · simp;omega
   · have e1 : rows.take (i0 + len) = rows.take i0 ++ rs := by
       rw[List.take_add,hrs]
     rw[e1,zK,zK,List.drop_append_of_le_length (by simp;omega)]
     have e2:(rows.take i0).drop i0=[]:=by rw[List.drop_eq_nil_iff];simp;omega
     rw[e2,List.nil_append,<-zK,List.take_append_of_le_length (by simp;omega),List.take_of_length_le (by simp;omega)]
   · injection e with e1;subst e1;exact hnew
   · injection e with e1;subst e1;exact ⟨_,_,rfl⟩
/-! ### ranges -/
theorem b_k {α:Type}{l:List α}{j:Nat}{x:α}(h:l[j]? =some x) :l.drop j=x::l.drop (j+1):=by
 obtain ⟨h1,h2⟩:=zA.1 h
 rw[List.drop_eq_getElem_cons h1,h2]
theorem e_c {α:Type}{l:List α}{j:Nat}(h:l.length<=j) :l.drop j=[]:=List.drop_eq_nil_iff.2 h
theorem a_c {α:Type}{l:List α}{j:Nat}(h:j < l.length) :∃x,l[j]? =some x:=⟨l[j],zH h⟩
theorem a_g {α β:Type}{f:α->β}{l:List α}{j:Nat}{x:α}(h:l[j]? =some x) :(l.map f)[j]? =some (f x):=by simp[h]
def Rng {α:Type}(l:List α)(F:List α->Prop)(n:Int) :Prop:=∃j:Nat,n=j/\j<=l.length/\F (l.drop j)
theorem Rng.start {α:Type}{l:List α}{F:List α->Prop}(h:F l) :Rng l F 0:=⟨0,rfl,by omega,h⟩
theorem Rng.step {α:Type}{l:List α}{F:List α->Prop}{n:Int}{m:Nat}(h:Rng l F n)(hm:m=l.length)(hl:l.length < 2 ^ 60)(hlt:n < (m:Int)) :
   ∃(j:Nat) (x:α),n=j/\l[j]? =some x/\j < l.length/\F (x::l.drop (j+1))/\
     ∀F':List α->Prop,F' (l.drop (j+1))->Rng l F' (w64 (n+1))/\l.length - (w64 (n+1)).toNat < l.length - n.toNat:=by
 obtain ⟨j,rfl,hj,hF⟩:=h
 have hj':j < l.length:=by omega
 obtain ⟨x,hx⟩:=a_c hj'
 refine ⟨j,x,rfl,hx,hj',by rw[<-b_k hx];exact hF,fun F' h'=>?_⟩
 rw[a_i (by omega)]
 exact ⟨⟨j+1,rfl,by omega,h'⟩,by omega⟩
theorem Rng.done {α:Type}{l:List α}{F:List α->Prop}{n:Int}{m:Nat}(h:Rng l F n)(hm:m=l.length)(hge:¬n < (m:Int)) :F []:=by
 obtain ⟨j,rfl,hj,hF⟩:=h
 rw[e_c (by omega)] at hF;exact hF
theorem i_r {p a b:Prop}(hp:p)(h:a/\b) :(p/\a)/\b:=⟨⟨hp,h.1⟩,h.2⟩
/-! ### maps -/
def MapAt {κ:Type}(P:Program)(kt:TypeId)(enc:κ->A)(σ:Store)(id:Nat)(f:κ->Option A) :Prop:=
 ∃clock es,σ id= .mp clock es/\f_l P kt es/\∀x,b_e (enc x) es=f x
def Keys {κ:Type}(P:Program)(kt:TypeId)(enc:κ->A) :Prop:=(∀x,g_s P kt (enc x) =true)/\∀x y,eqA (enc x) (enc y) =true↔x=y
variable {κ:Type} {kt:TypeId} {enc:κ->A} {id:Nat} {f:κ->Option A}
theorem MapAt.new (h:σ id= .mp 0 []) :MapAt P kt enc σ id fun _=>none:=⟨0,[],h,fun e he=>(by cases he),fun x=>rfl⟩
theorem MapAt.same (h:MapAt P kt enc σ id f)(hs:σ' id=σ id) :MapAt P kt enc σ' id f:=by
 obtain ⟨c,es,h1,h2⟩:=h
 exact ⟨c,es,hs.trans h1,h2⟩
theorem MapAt.look (hk:Keys P kt enc)(h:MapAt P kt enc σ id f)(x:κ) :h_o P kt σ (.omap id) (enc x) (f x):=by
 obtain ⟨c,es,h1,h2,h3⟩:=h
 exact ⟨hk.1 x, .inr ⟨id,c,es,rfl,h1,h2,(h3 x).symm⟩⟩
theorem MapAt.lookI (hk:Keys P kt enc)(h:MapAt P kt enc σ id f)(x:κ){n:Int}{K:Int->Prop}(hn:(f x).getD (iA 0) =iA n)(hK:K n) :
   ∃r:Option A,h_o P kt σ (.omap id) (enc x) r/\∃n:Int,Option.getD r (iA 0) =iA n/\K n:=⟨_,h.look hk x,n,hn,hK⟩
theorem MapAt.put (hk:Keys P kt enc)(h:MapAt P kt enc σ id f)(x:κ){v:A}{K:Store->Prop}
   (hK:∀σ' f',MapAt P kt enc σ' id f'->(∀z,z≠x->f' z=f z)->f' x=some v->(∀i,i≠id->σ' i=σ i)->σ' id≠ .free->K σ') :MPut P kt σ (.omap id) (enc x) v K:=by
 obtain ⟨c,es,h1,h2,h3⟩:=h
 refine ⟨id,c,es,⟨hk.1 x,rfl,h1,h2⟩,fun c' es' e2 e3=>?_⟩
 exact hK _ (fun z=>b_e (enc z) es') ⟨c',es',Store.set_same _ _ _,e2,fun z=>rfl⟩ (fun z hz=>by rw[e3,if_neg (fun h=>hz ((hk.2 z x).1 h)),h3]) (by rw[e3,if_pos ((hk.2 x x).2 rfl)])
   (fun i hi=>Store.set_ne _ _ hi) (by rw[Store.set_same];intro e;cases e)
theorem MapAt.bump (hk:Keys P kt enc)(h:MapAt P kt enc σ id f)(x:κ){z v:A}{K:Store->Prop}
   (hK:∀σ' f',MapAt P kt enc σ' id f'->(∀z,z≠x->f' z=f z)->f' x=some v->(∀i,i≠id->σ' i=σ i)->σ' id≠ .free->K σ') :
   a_jy P kt σ (.omap id) (enc x) z fun _ n σ'=>a_ec σ' (.omap id) n v K:=by
 obtain ⟨c,es,h1,h2,h3⟩:=h
 refine ⟨id,c,es,⟨hk.1 x,rfl,h1,h2⟩,fun hb=>?_⟩
 have fin : ∀ (c' : Nat) (es1 : List Ent), f_l P kt es1 -> (∀ y, b_e y (r_q (j_0 c es (enc x)) v es1) = if eqA y (enc x) = true then some v else b_e y es) -> f_l P kt (r_q (j_0 c es (enc x)) v es1) ->
     mput c es (enc x) ((b_e (enc x) es).getD z) = .mp c' es1->(∃e ∈ es1,(e.1:Int) =(j_0 c es (enc x) :Nat))->
     a_ec (σ.set id (mput c es (enc x) ((b_e (enc x) es).getD z))) (.omap id) (j_0 c es (enc x) :Nat) v K:=by
   intro c' es1 hk1 hf hk2 he hm
   refine ⟨id,c',es1,rfl,by rw[Store.set_same,he],hm,?_⟩
   exact hK _ (fun y=>b_e (enc y) (r_q (j_0 c es (enc x)) v es1)) ⟨c',_,Store.set_same _ _ _,hk2,fun y=>rfl⟩ (fun y hy=>by rw[hf,if_neg (fun h=>hy ((hk.2 y x).1 h)),h3]) (by rw[hf,if_pos ((hk.2 x x).2 rfl)])
     (fun i hi=>by rw[Store.set_ne _ _ hi,Store.set_ne _ _ hi]) (by rw[Store.set_same];intro e;cases e)
 rcases n_2 c es (enc x) ((b_e (enc x) es).getD z) with ⟨hn,e1,e2,e3⟩ | ⟨j,e,hf,e1,e2,e3⟩
 · rw[e2,Option.getD_none] at e1
   have hst:r_q (j_0 c es (enc x)) v (es ++ [(c,enc x,z)]) =es ++ [(c,enc x,v)]:=by
     have hj:(es ++ [(c,enc x,z)])[es.length]? =some (c,enc x,z):=by simp
     rw[a_a1 (hb.push (enc x) z).2 hj (by rw[e3])]
     simp
   refine fin (c+1) (es ++ [(c,enc x,z)]) (fun w hw=>?_) (fun y=>?_) ?_ (by rw[e2,Option.getD_none];exact e1) ⟨(c,enc x,z),zD _ (List.mem_singleton.2 rfl),by rw[e3]⟩
   · rcases List.mem_append.1 hw with hw | hw
     · exact h2 w hw
     · simp at hw;subst hw;exact hk.1 x
   · rw[hst,x_b]
     by_cases hxy:eqA y (enc x) =true
     · have hnx : b_e y es = none := a_e0 fun e he => by
         have h1:=hn e he
         have:=k_q (by rw[g_r];exact hxy:eqA (enc x) y=true) e.2.1
         rw[g_r e.2.1 (enc x),h1,g_r e.2.1 y] at this
         exact this.symm
       simp[hxy,hnx]
     · simp[hxy]
   · rw[hst]
     intro w hw
     rcases List.mem_append.1 hw with hw | hw
     · exact h2 w hw
     · simp at hw;subst hw;exact hk.1 x
 · rw[e2,Option.getD_some] at e1
   have hlt:=(zA.1 hf.1).1
   have hj:(es.set j (e.1,enc x,e.2.2))[j]? =some (e.1,enc x,e.2.2):=by simp[hlt]
   have hst:r_q (j_0 c es (enc x)) v (es.set j (e.1,enc x,e.2.2)) =es.set j (e.1,enc x,v):=by
     rw[a_a1 (hb.set hf.1 (enc x) e.2.2).2 hj (by rw[e3]),List.set_set]
   refine fin c (es.set j (e.1,enc x,e.2.2)) (fun w hw=>?_) (fun y=>by rw[hst];exact a_js hf) ?_ (by rw[e2,Option.getD_some];exact e1) ⟨_,zC hj,by rw[e3]⟩
   · rcases List.mem_or_eq_of_mem_set hw with hw | hw
     · exact h2 w hw
     · subst hw;exact hk.1 x
   · rw[hst]
     intro w hw
     rcases List.mem_or_eq_of_mem_set hw with hw | hw
     · exact h2 w hw
     · subst hw;exact hk.1 x
theorem a_dg {σ0:Store}{id i0 n:Nat}(h:σ0 id= .free) :∀id' i len,D.osl id i0 n= .osl id' i len->σ0 id'= .free:=fun id' i len e=>by
 have:=(D.osl.inj e).1
 rw[<-this];exact h
inductive FlatR:RV->Prop
 | one (x:D) (h:Flat x) :FlatR (.a (.one x))
 | agg (ds:List D) (h:∀d ∈ ds,Flat d) :FlatR (.a (.agg ds))
 | tup (ds:List D) (h:∀d ∈ ds,Flat d) :FlatR (.tup (ds.map .one))
theorem FlatR.fz {S:Nat->Prop}{r:RV}(h:FlatR r) :FzR P σ S r r:=by
 cases h with
 | one d h=>exact h.fz
 | agg ds h=>exact FzL.flat h
 | tup ds h=>
   refine ⟨rfl,fun i x y h1 h2=>?_⟩
   rw[h1] at h2;injection h2 with h2;subst h2
   simp only[zL,Option.map_eq_some_iff] at h1
   obtain ⟨d,h1,rfl⟩:=h1
   exact (h d (zC h1)).fz
theorem Pure.of {f:FuncId}{as0:List A}{r:RV}(h:DCalls P f as0 σ fun r' s=>r'=r/\Ext σ s)(hf:FlatR r) :Pure P f as0 σ r:=
 h.ret fun r' s ⟨h1,h2⟩=>by subst h1;exact ⟨r',σ, .pure h2 hf.fz,rfl,rfl⟩
theorem a_uy (n:Int) :FlatR (.a (iA n)):= .one _ (.int _ _)
theorem a_f8 (b:Bool) :FlatR (.a (bA b)):= .one _ (.bool _)
theorem a_tb (h:∀a b:Int,g_s P kt (.agg [iD a,iD b]) =true) :Keys P kt fun p:Int × Int=> .agg [iD p.1,iD p.2]:=
 ⟨fun x=>h _ _,fun x y=>by simp[eqA,b_x,b_p,e_f,Prod.ext_iff]⟩
end
section
structure Sec where
 Kind:Int
 OC:Int
 Line:Int
structure Jt where
 A:Int
 AEnd:Int
 B:Int
 BEnd:Int
structure Sg where
 Sec:Int
 End_:Int
 deriving DecidableEq
structure St where
 Sec:Int
 In:Int
 Out:Int
structure Nd where
 Sec:Int
 Pos:Int
 deriving DecidableEq
def Sec.enc (s:Sec) :List D:= [iD s.Kind,iD s.OC,iD s.Line]
def Jt.enc (s:Jt) :List D:= [iD s.A,iD s.AEnd,iD s.B,iD s.BEnd]
def Sg.enc (s:Sg) :List D:= [iD s.Sec,iD s.End_]
def St.enc (s:St) :List D:= [iD s.Sec,iD s.In,iD s.Out]
def Nd.enc (s:Nd) :List D:= [iD s.Sec,iD s.Pos]
def encI (n:Int) :List D:= [iD n]
def d_5 (k:Int) :List (Int × Int × Int):=
 if k=0 then [(0,1,0)] else if k=1 then [(0,1,1),(0,2,2)] else if k=2 then [(0,1,0),(2,3,0)] else []
def encW (w:Int × Int × Int) :List D:= [iD w.1,iD w.2.1,iD w.2.2]
def b_v (k:Int) :Int:=if k=0 then 2 else if k=1 then 3 else if k=2 then 4 else 0
def o_e (n:Int)(w:Int × Int × Int) :Int:=
 ite (w64 (w.2.1+1) > ite (w64 (w.1+1) > n) (w64 (w.1+1)) n) (w64 (w.2.1+1)) (ite (w64 (w.1+1) > n) (w64 (w.1+1)) n)
theorem a_sa (k:Int) :(d_5 k).foldl o_e 0=b_v k:=by
 unfold d_5 b_v
 split
 · decide
 · split
   · decide
   · split
     · decide
     · rfl
def m_w:List (Int × Int × Int)->Int->Int->Option Int
 | [],_,_=>none
 | w::r,i,o=>if (w.1=i/\w.2.1=o)\/(w.2.1=i/\w.1=o) then some w.2.2 else m_w r i o
def nxt:List Jt->Int->Int->Option (Int × Int)
 | [],_,_=>none
 | j::r,s,e=>if j.A=s/\j.AEnd=e then some (j.B,j.BEnd) else if j.B=s/\j.BEnd=e then some (j.A,j.AEnd) else nxt r s e
def opt2:Option (Int × Int)->RV
 | none=> .tup [iA 0,iA 0,bA false]
 | some p=> .tup [iA p.1,iA p.2,bA true]
def opt1:Option Int->RV
 | none=> .tup [iA 0,bA false]
 | some p=> .tup [iA p,bA true]
def cnt:List Jt->Int->Int->Int
 | [],_,_=>0
 | j::r,s,e=>(if j.A=s/\j.AEnd=e then 1 else 0) + (if j.B=s/\j.BEnd=e then 1 else 0) +cnt r s e
def p_a:List Int->Int->Nat->Int
 | [],_,_=> -1
 | x::r,v,j=>if v=x then j else p_a r v (j+1)
/-! ### is the plan right? -/
def j_v (secs:List Sec)(i:Int) :Int:=(secs[i.toNat]?.map Sec.Kind).getD (-1)
def k_y (secs:List Sec)(p:Int × Int) :Bool:=decide (0<=p.1/\p.1<=(secs.length:Int) - 1) && decide (0<=p.2/\p.2<=b_v (j_v secs p.1) - 1)
def u_o (secs:List Sec) :List (Int × Int)->List (Int × Int)->Option (List (Int × Int))
 | [],tk=>some tk
 | p::r,tk=>if k_y secs p=true/\p ∉ tk then u_o secs r (p::tk) else none
def Jt.spots (j:Jt) :List (Int × Int):= [(j.A,j.AEnd),(j.B,j.BEnd)]
def u_d (secs:List Sec) :List Jt->List (Int × Int)->Option (List (Int × Int))
 | [],tk=>some tk
 | j::r,tk=>match u_o secs j.spots tk with
   | none=>none
   | some tk'=>if j.A=j.B then none else u_d secs r tk'
def q_d (tk:List (Int × Int)) :List Sec->Int->List Int->Bool
 | [],_,_=>true
 | s::r,i,ls=>if b_v s.Kind=0\/¬(0<=s.OC/\s.OC<=3)\/¬(0<=s.Line/\s.Line<=3)\/s.Line≠0/\(s.Kind≠0\/(i,1) ∈ tk\/s.Line ∈ ls) then false else q_d tk r (i+1) (s.Line::ls)
def c_s (secs:List Sec)(js:List Jt) :Bool:=
 decide (1<=secs.length/\secs.length<=16/\js.length<=24) && match u_d secs js [] with
   | none=>false
   | some tk=>q_d tk secs 0 []
theorem a_ek (k:Int) :0<=b_v k/\b_v k<=4:=by unfold b_v;split <;> (try split) <;> (try split) <;> omega
end
end Go.Fw
namespace Go.Proofs.YtaklhjodjbgmgaaGreat
open Go.Fw
open Go.Proofs.Tryz (prog)
section
theorem mixed:prog.follows .mixedOrders=true:=Go.Proofs.Tryz.checked.mixed
abbrev m_g:FuncId:=7
abbrev m_0:FuncId:=8
abbrev o_c:FuncId:=9
abbrev j_c:FuncId:=10
abbrev k_9:FuncId:=11
abbrev k_i:FuncId:=12
abbrev f_8:FuncId:=13
abbrev f_5:FuncId:=14
abbrev g_a:FuncId:=15
abbrev e_b:FuncId:=16
abbrev i_b:FuncId:=17
abbrev e_7:FuncId:=18
abbrev e_r:FuncId:=19
abbrev i_s:FuncId:=20
abbrev i_0:FuncId:=21
abbrev q_b:FuncId:=23
abbrev o_k:FuncId:=24
abbrev e_4:FuncId:=25
abbrev e_o:FuncId:=26
abbrev p_i:FuncId:=27
abbrev o_m:FuncId:=28
abbrev d_g:FuncId:=29
abbrev d_8:FuncId:=30
abbrev d_0:FuncId:=31
abbrev b_l:FuncId:=32
abbrev i_v:FuncId:=33
abbrev c_n:FuncId:=34
abbrev d_2:FuncId:=35
abbrev e_6:FuncId:=36
abbrev i_j:FuncId:=37
abbrev n_9:FuncId:=38
abbrev g_w:FuncId:=39
abbrev m_x:FuncId:=40
abbrev q_0:FuncId:=41
abbrev d_t:FuncId:=42
abbrev g_n:FuncId:=43
abbrev k_j:FuncId:=44
abbrev f_p:FuncId:=45
abbrev b_f:FuncId:=46
abbrev f_t:FuncId:=47
abbrev f_o:FuncId:=48
abbrev g_8:FuncId:=49
abbrev f_b:FuncId:=50
abbrev c_k:FuncId:=51
abbrev d_4:FuncId:=52
abbrev c_x:FuncId:=53
abbrev j_4:FuncId:=54
abbrev d_a:FuncId:=55
abbrev c_a:FuncId:=56
abbrev m_3:FuncId:=57
abbrev h_e:FuncId:=58
abbrev k_m:FuncId:=59
abbrev q_1:FuncId:=60
abbrev i_e:FuncId:=61
abbrev i_d:FuncId:=62
abbrev h_x:FuncId:=63
abbrev h_y:FuncId:=64
abbrev g_3:FuncId:=65
abbrev i_a:FuncId:=66
abbrev h_w:FuncId:=67
abbrev h_4:FuncId:=68
abbrev h_8:FuncId:=69
abbrev h_g:FuncId:=70
abbrev h_1:FuncId:=71
abbrev g_9:FuncId:=72
abbrev g_7:FuncId:=73
abbrev b_j:FuncId:=74
abbrev b_y:FuncId:=75
abbrev g_b:FuncId:=76
abbrev a_7:FuncId:=77
abbrev o_y:FuncId:=78
abbrev g_g:FuncId:=79
abbrev f_i:FuncId:=80
abbrev h_z:FuncId:=81
abbrev c_4:FuncId:=82
abbrev g_1:FuncId:=83
abbrev e_m:FuncId:=84
abbrev c_z:FuncId:=85
abbrev j_g:FuncId:=86
abbrev q_y:FuncId:=87
abbrev r_c:FuncId:=88
abbrev h_d:FuncId:=89
abbrev q_k:FuncId:=90
abbrev t_7:FuncId:=91
abbrev d_z:FuncId:=92
abbrev k_1:FuncId:=95
abbrev m_o:FuncId:=96
abbrev j_u:FuncId:=97
abbrev h_0:FuncId:=98
abbrev o_t:FuncId:=99
abbrev h_9:FuncId:=100
abbrev n_a:FuncId:=101
abbrev i_w:FuncId:=102
abbrev i_5:FuncId:=103
abbrev j_w:FuncId:=104
abbrev d_e:FuncId:=105
abbrev f_w:FuncId:=106
abbrev i_f:FuncId:=107
abbrev e_2:FuncId:=108
abbrev f_j:FuncId:=109
abbrev f_a:FuncId:=110
abbrev g_u:FuncId:=111
abbrev g_4:FuncId:=112
abbrev d_m:FuncId:=113
abbrev f_m:FuncId:=114
abbrev d_q:FuncId:=115
abbrev j_2:FuncId:=116
abbrev j_1:FuncId:=117
abbrev d_v:FuncId:=118
abbrev j_h:FuncId:=119
abbrev b_0:FuncId:=120
abbrev i_7:FuncId:=121
abbrev g_j:FuncId:=122
abbrev i_p:FuncId:=123
abbrev e_a:FuncId:=124
abbrev h_b:FuncId:=125
abbrev g_l:FuncId:=126
abbrev i_i:FuncId:=128
abbrev q_h:FuncId:=129
abbrev e_v:FuncId:=130
abbrev c_w:FuncId:=131
abbrev e_5:FuncId:=132
abbrev d_u:FuncId:=133
abbrev m_f:FuncId:=134
abbrev k_4:FuncId:=135
abbrev g_6:FuncId:=136
abbrev i_k:FuncId:=137
abbrev o_3:FuncId:=138
abbrev j_f:FuncId:=140
abbrev f_2:FuncId:=141
abbrev f_6:FuncId:=142
abbrev g_z:FuncId:=143
abbrev o_i:FuncId:=144
abbrev f_7:FuncId:=145
abbrev d_r:FuncId:=146
abbrev r_j:FuncId:=147
abbrev d_o:FuncId:=148
abbrev k_b:FuncId:=149
abbrev m_u:FuncId:=150
abbrev i_l:FuncId:=151
abbrev j_l:FuncId:=152
abbrev c_y:FuncId:=153
abbrev v_2:FuncId:=154
abbrev e_d:FuncId:=155
abbrev o_v:FuncId:=156
abbrev c_h:FuncId:=157
abbrev g_m:FuncId:=158
abbrev o_g:FuncId:=159
abbrev q_9:FuncId:=160
abbrev d_d:FuncId:=161
abbrev n_u:FuncId:=162
abbrev k_2:FuncId:=163
abbrev c_p:FuncId:=164
abbrev h_a:FuncId:=166
abbrev i_o:FuncId:=167
abbrev o_6:FuncId:=168
abbrev d_w:FuncId:=169
abbrev d_y:FuncId:=170
abbrev y_i:FuncId:=171
abbrev e_s:FuncId:=172
abbrev l_m:FuncId:=173
abbrev h_f:FuncId:=174
abbrev o_0:FuncId:=175
abbrev e_p:FuncId:=176
abbrev g_k:FuncId:=177
abbrev a_e:TypeId:=3
abbrev t_bool:TypeId:=4
abbrev c_t:TypeId:=5
abbrev q_v:TypeId:=9
abbrev a_gg:TypeId:=25
abbrev a_v1:TypeId:=30
abbrev t_law19_Case:TypeId:=33
abbrev i_c:TypeId:=44
abbrev c_v:TypeId:=51
abbrev d_n:TypeId:=53
abbrev t_sl_law19_Op:TypeId:=56
abbrev u_l:TypeId:=59
abbrev a_m:TypeId:=63
abbrev a_h:TypeId:=75
abbrev a_w:TypeId:=80
abbrev x_1:TypeId:=81
abbrev j_k:TypeId:=84
abbrev e_8:TypeId:=90
abbrev a_y:TypeId:=100
abbrev a_l:TypeId:=104
abbrev b_c:TypeId:=107
abbrev b_5:TypeId:=108
abbrev d_j:TypeId:=112
abbrev b_o:TypeId:=130
abbrev a_p:TypeId:=137
abbrev f_k:TypeId:=144
abbrev s_b:TypeId:=148
abbrev l_x:TypeId:=159
abbrev a_t:TypeId:=185
abbrev b_3:TypeId:=194
abbrev c_e:TypeId:=201
abbrev c_j:TypeId:=216
abbrev c_b:TypeId:=223
abbrev c_1:TypeId:=247
abbrev n_f:TypeId:=249
abbrev h_p:TypeId:=255
abbrev q_p:TypeId:=258
theorem c_int:prog.cellsOf a_e=1:=by kernel_rfl
theorem c_uint8:prog.cellsOf c_t=1:=by kernel_rfl
theorem a_u1:prog.cellsOf q_v=1:=by kernel_rfl
theorem a_wt:prog.cellsOf a_gg=1:=by kernel_rfl
theorem a_we:prog.cellsOf i_c=3:=by kernel_rfl
theorem d_b:prog.cellsOf c_v=2:=by kernel_rfl
theorem a_x:prog.cellsOf d_n=3:=by kernel_rfl
theorem a_qx:prog.cellsOf u_l=5:=by kernel_rfl
theorem b_4:prog.cellsOf a_m=2:=by kernel_rfl
theorem c_g:prog.cellsOf a_h=3:=by kernel_rfl
theorem a_px:prog.cellsOf x_1=1:=by kernel_rfl
theorem a_w3:prog.cellsOf j_k=2:=by kernel_rfl
theorem s_a:prog.cellsOf e_8=4:=by kernel_rfl
theorem b_9:prog.cellsOf a_l=3:=by kernel_rfl
theorem h_r:prog.cellsOf b_c=2:=by kernel_rfl
theorem m_v:prog.cellsOf b_5=1:=by kernel_rfl
theorem k_7:prog.cellsOf a_p=1:=by kernel_rfl
theorem q_g:prog.cellsOf f_k=3:=by kernel_rfl
theorem s_d:prog.cellsOf s_b=6:=by kernel_rfl
theorem a_n0:prog.cellsOf b_3=2:=by kernel_rfl
theorem a_f6:prog.cellsOf c_e=2:=by kernel_rfl
theorem o_8:prog.cellsOf c_j=3:=by kernel_rfl
theorem i_u:prog.cellsOf c_b=3:=by kernel_rfl
theorem a_hn:prog.cellsOf c_1=2:=by kernel_rfl
theorem a_ue:prog.cellsOf n_f=2:=by kernel_rfl
theorem h_n:prog.cellsOf h_p=3:=by kernel_rfl
end
end Go.Proofs.YtaklhjodjbgmgaaGreat
section
set_option maxRecDepth 100000
namespace Go.Proofs.YtaklhjodjbgmgaaGreat
open Go.Fw Go.Proofs
open Go.Proofs.Tryz (prog)
def v_0:Ann:= { cbs:= [2],draws:= [(3,{ ord:= [0,1,2,3,4,5,6,7,8,9,10],nb:= [1] })],loops:= [(8,{ mods:= [(47,s6)],keep:= [2,5,7,45,46] }),(14,{ mods:= [(62,s6)],keep:= [2,5,7,45,46,47,60,61] }),(20,{ mods:= [(79,s6)],keep:= [2,5,7,45,46,47,78] }),(27,{ mods:= [(14,s6)],keep:= [5] }),(30,{ mods:= [(97,s6)],keep:= [5,14,95,96] })],joins:= [(7,{ keep:= [1,2,5,7] })] }
def x_y (x0 x1 x2 x3 x4:D)(x5 x6 x7 x8:Int)(x9 script:D)(σ:Store)(Qp:RV->Store->Prop) :Prop:=
 DCalls prog m_0 [] σ (fun r Z=>∃b:Bool,(r=(.a (bA b) :RV))/\a_b (!b) (Qp (.a (bA false)) Z) (DCalls prog i_b [.one x9] Z (fun r1 Z1=>∃d:D,(r1=(.a (.one d) :RV))/\DCalls prog o_c [.agg [x0,x1,x2,x3,x4,iD x5,iD x6,iD x7,iD x8], .one d] Z1 (fun r2 Z2=>∃d1:D,∃n:Int,(r2=(.tup [.one d1,iA n]:RV))/\DCalls prog q_b [.agg [x0,x1,x2,x3,x4,iD x5,iD x6,iD x7,iD x8], .one x9] Z2 (fun r3 Z3=>∃d2:D,∃n1:Int,(r3=(.tup [.one d2,iA n1]:RV))/\∀R:Store->Prop,(∀Z4,(wL script fun len=>∃I:Int->Store->Prop,∃μ:Int->Store->Nat,(I 0 Z4)/\∀n2:Int,∀Z5,(I n2 Z5)->a_b (decide (n2 < (len:Int))) (wI prog Z5 script 5 n2 fun row=>∃n3 n4 n5:Int,∃b1:Bool,∃s:ByteArray,((List.take 5 row) =([iD n3,iD n4,iD n5, .bool b1, .str s]:List D))/\a_b (n3 == 2) ((I (w64 (n2+1)) Z5)/\((μ (w64 (n2+1)) Z5) < (μ n2 Z5))) (DCalls prog o_k [.one d1, .one d2, .agg [iD n3,iD n4,iD n5, .bool b1, .str s]] Z5 (fun r4 Z6=>∃b2:Bool,(r4=(.a (bA b2) :RV))/\a_b (!b2) (Qp (.a (bA false)) Z6) (DCalls prog e_o [.one d1] Z6 (fun r5 Z7=>∃d3:D,(r5=(.a (.one d3) :RV))/\wL d3 fun len2=>∃I1:Int->Store->Prop,∃μ1:Int->Store->Nat,(I1 0 Z7)/\∀n6:Int,∀Z8,(I1 n6 Z8)->a_b (decide (n6 < (len2:Int))) (wI prog Z8 d3 2 n6 fun row1=>∃n7 n8:Int,((List.take 2 row1) =([iD n7,iD n8]:List D))/\a_b (n7 == 2) (Qp (.a (bA false)) Z8) (a_b (n7 == 3) (Qp (.a (bA false)) Z8) ((I1 (w64 (n6+1)) Z8)/\((μ1 (w64 (n6+1)) Z8) < (μ1 n6 Z8))))) (wL x2 fun len3=>∃I2:Int->Store->Prop,∃μ2:Int->Store->Nat,(I2 0 Z8)/\∀n7:Int,∀Z9,(I2 n7 Z9)->a_b (decide (n7 < (len3:Int))) (DCalls prog e_b [.one d1,iA n7] Z9 (fun r6 Z10=>∃n8:Int,(r6=(.a (iA n8) :RV))/\a_b (n8 != 0) (Qp (.a (bA false)) Z10) ((I2 (w64 (n7+1)) Z10)/\((μ2 (w64 (n7+1)) Z10) < (μ2 n7 Z9))))) ((I (w64 (n2+1)) Z9)/\((μ (w64 (n2+1)) Z9) < (μ n2 Z5))))))))) (∃I1:Int->Store->Prop,∃μ1:Int->Store->Nat,(I1 0 Z5)/\∀n3:Int,∀Z6,(I1 n3 Z6)->a_b (decide (n3 < 4)) (DCalls prog e_4 [.one d1,iA n3] Z6 (fun r4 Z7=>∃d3 d4 d5 d6:D,(r4=(.a (.agg [d3,d4,d5,d6]) :RV))/\wL d4 fun len1=>∃I2:Int->Store->Prop,∃μ2:Int->Store->Nat,(I2 0 Z7)/\∀n4:Int,∀Z8,(I2 n4 Z8)->a_b (decide (n4 < (len1:Int))) (wI prog Z8 d4 1 n4 fun row=>∃n5:Int,((List.take 1 row) =([iD n5]:List D))/\a_b (n5 == 2) (Qp (.a (bA false)) Z8) ((I2 (w64 (n4+1)) Z8)/\((μ2 (w64 (n4+1)) Z8) < (μ2 n4 Z8)))) ((I1 (w64 (n3+1)) Z8)/\((μ1 (w64 (n3+1)) Z8) < (μ1 n3 Z6))))) (Qp (.a (bA true)) Z6)))->R Z4)->a_b (n != 0) (Qp (.a (bA (n == n1))) Z3) (a_b (n1 != 0) (Qp (.a (bA (n == n1))) Z3) (R Z3)))))))
theorem x_d (x0 x1 x2 x3 x4:D)(x5 x6 x7 x8:Int)(x9 script:D)(σ:Store)(Qp:RV->Store->Prop)(h:x_y x0 x1 x2 x3 x4 x5 x6 x7 x8 x9 script σ Qp) :DCalls prog m_g [.agg [x0,x1,x2,x3,x4,iD x5,iD x6,iD x7,iD x8,x9], .one script] σ Qp:=
 a_a mixed (by kernel_rfl) Tryz.func7 v_0 (Eq.mp (by kernel_rfl) h)
def a_cj:Ann:= { cbs:= [2,3] }
def a_gq (h0 h1 h2 h3 o0 o1 o2:D)(σ:Store)(Qp:RV->Store->Prop) :Prop:=
 wL h1 fun len=>DCalls prog g_w [.one o0,iA (len:Int),iA 2] σ (fun r Z=>∃b:Bool,(r=(.a (bA b) :RV))/\a_b (!b) (Qp (.tup [.one (.str (ByteArray.mk (List.toArray []))),iA 32]) Z) (wL h3 fun len1=>DCalls prog g_w [.one o1,iA (len1:Int),iA 2] Z (fun r1 Z1=>∃b1:Bool,(r1=(.a (bA b1) :RV))/\a_b (!b1) (Qp (.tup [.one (.str (ByteArray.mk (List.toArray []))),iA 32]) Z1) (wL h2 fun len2=>DCalls prog g_w [.one o2,iA (len2:Int),iA 1] Z1 (fun r2 Z2=>∃b2:Bool,(r2=(.a (bA b2) :RV))/\a_b (!b2) (Qp (.tup [.one (.str (ByteArray.mk (List.toArray []))),iA 32]) Z2) (Fw.newObj Z2 (.live a_gg [[o0],[o1],[o2]]) (fun id Z3=>DCalls prog m_x [iA 2, .one (.osl id 0 3)] Z3 (fun r3 Z4=>∃s:ByteArray,(r3=(.a (.one (.str s)) :RV))/\Qp (.tup [.one (.str s),iA 0]) Z4))))))))
theorem a_f7 (h0 h1 h2 h3 o0 o1 o2:D)(σ:Store)(Qp:RV->Store->Prop)(h:a_gq h0 h1 h2 h3 o0 o1 o2 σ Qp) :DCalls prog k_9 [.agg [h0,h1,h2,h3], .agg [o0,o1,o2]] σ Qp:=
 a_a mixed (by kernel_rfl) Tryz.func11 a_cj (Eq.mp (by kernel_rfl) h)
def z_e:Ann:= { draws:= [(4,{ ord:= [0,1,2,3,4,5,6,7,8,9,10,11] })],loops:= [(1,{ mods:= [(8,s6)],keep:= [0,7] })] }
def a_ab (y:D)(σ:Store)(Qp:RV->Store->Prop) :Prop:=
 wR y σ fun s i off row=>∃d:D,((List.take 1 (List.drop (off+12) row)) =([d]:List D))/\wL d fun len=>∃I:Int->Store->Prop,∃μ:Int->Store->Nat,(I 0 σ)/\∀n:Int,∀Z,(I n Z)->a_b (decide (n < (len:Int))) (DCalls prog e_b [.one y,iA n] Z (fun r Z1=>∃n1:Int,(r=(.a (iA n1) :RV))/\a_b (n1 != 0) (wR y Z1 fun s1 i1 off1 row1=>∃d1:D,((List.take 1 (List.drop (off1+12) row1)) =([d1]:List D))/\wR y Z1 fun s2 i2 off2 row2=>∃n2:Int,((List.take 1 (List.drop (off2+15) row2)) =([iD n2]:List D))/\∃len1:Nat,(Idx prog Z1 d1 2 len1)/\((0:Int)<=n)/\(n < (len1:Int))/\a_k [iD n2] Z1 d1 (Int.toNat n) 1 (fun Z2=>(I (w64 (n+1)) Z2)/\((μ (w64 (n+1)) Z2) < (μ n Z)))) ((I (w64 (n+1)) Z1)/\((μ (w64 (n+1)) Z1) < (μ n Z))))) (Qp (.tup []) Z)
theorem a_a6 (y:D)(σ:Store)(Qp:RV->Store->Prop)(h:a_ab y σ Qp) :DCalls prog g_a [.one y] σ Qp:=
 a_a mixed (by kernel_rfl) Tryz.func15 z_e (Eq.mp (by kernel_rfl) h)
def x_9:Ann:= { draws:= [(4,{ ord:= [0,1,2,3,4,5,6,7,8,9,10,11,12,13,14,15,16,17,18,19,20,21,22] }),(7,{ ord:= [0,1,2,3,4,5,6,7,8,9,10,11,12] }),(8,{ ord:= [0,1,2,3,4,5,6,7,8,9,10,11,12,13,14,15,16,17,18,19,20,21,22,23,24,25,26,27,28,29,30,31,32,33,34] })],joins:= [(7,{ keep:= [0,5,6,7] }),(10,{ keep:= [0,5,6,7] })] }
def a_ae (y:D)(t:Int)(σ:Store)(Qp:RV->Store->Prop) :Prop:=
 DCalls prog c_k [.one y,iA t] σ (fun r Z=>∃d:D,(r=(.a (.one d) :RV))/\∃b:Bool,(h_s .pt d b)/\a_b (b != false) (Qp (.a (iA 30)) Z) (wR y Z fun s i off row=>∃d1:D,((List.take 1 (List.drop ((off+1) +1) row)) =([d1]:List D))/\wR d Z fun s1 i1 off1 row1=>∃d2:D,((List.take 1 (List.drop (off1+0) row1)) =([d2]:List D))/\wI prog Z d2 1 0 fun row2=>∃n:Int,((List.take 1 row2) =([iD n]:List D))/\wR d Z fun s2 i2 off2 row3=>∃n1:Int,((List.take 1 (List.drop (off2+1) row3)) =([iD n1]:List D))/\DCalls prog d_4 [.one d1,iA n,iA n1] Z (fun r1 Z1=>∃n2 n3:Int,∃b1:Bool,(r1=(.tup [iA n2,iA n3,bA b1]:RV))/\∀R:Store->Prop,(∀Z2,(∀R1:Store->Prop,(∀Z3,(wR d Z3 fun s3 i3 off3 row4=>∃d3:D,((List.take 1 (List.drop (off3+0) row4)) =([d3]:List D))/\Fw.newObj Z3 (.live a_e [[iD n2]]) (fun id Z4=>DCalls prog j_4 [.one d3,iA 0, .one (.osl id 0 1)] Z4 (fun r2 Z5=>∃d4:D,(r2=(.a (.one d4) :RV))/\DCalls prog d_a [.one y,iA n2,iA n3] Z5 (fun r3 Z6=>∃n4:Int,(r3=(.a (iA n4) :RV))/\(a_u d)/\∃s4:D,∃i4 off4:Nat,(d=(.el s4 i4 off4:D))/\a_k [d4] Z6 s4 i4 (off4+0) (fun Z7=>(a_u d)/\∃s5:D,∃i5 off5:Nat,(d=(.el s5 i5 off5:D))/\a_k [iD n4] Z7 s5 i5 (off5+1) (fun Z8=>Qp (.a (iA 0)) Z8))))))->R1 Z3)->wR d Z2 fun s3 i3 off3 row4=>∃d3:D,((List.take 1 (List.drop (off3+0) row4)) =([d3]:List D))/\wI prog Z2 d3 1 0 fun row5=>∃n4:Int,((List.take 1 row5) =([iD n4]:List D))/\wR d Z2 fun s4 i4 off4 row6=>∃n5:Int,((List.take 1 (List.drop (off4+1) row6)) =([iD n5]:List D))/\DCalls prog c_x [.one y,iA n4,iA n5] Z2 (fun r2 Z3=>∃n6:Int,(r2=(.a (iA n6) :RV))/\a_b (decide (n6>=0)) (wR y Z3 fun s5 i5 off5 row7=>∃d4:D,((List.take 1 (List.drop (off5+12) row7)) =([d4]:List D))/\wI prog Z3 d4 2 n6 fun row8=>∃n7:Int,((List.take 1 (List.drop 1 row8)) =([iD n7]:List D))/\a_b (decide (n7 < 0)) (Qp (.a (iA 29)) Z3) (wR y Z3 fun s6 i6 off6 row9=>∃n8:Int,((List.take 1 (List.drop (off6+15) row9)) =([iD n8]:List D))/\wR y Z3 fun s7 i7 off7 row10=>∃d5:D,((List.take 1 (List.drop (off7+12) row10)) =([d5]:List D))/\wI prog Z3 d5 2 n6 fun row11=>∃n9:Int,((List.take 1 (List.drop 1 row11)) =([iD n9]:List D))/\wR y Z3 fun s8 i8 off8 row12=>∃n10:Int,((List.take 1 (List.drop (((off8+1) +5) +1) row12)) =([iD n10]:List D))/\a_b (decide ((w64 (n8 - n9)) > n10)) (Qp (.a (iA 29)) Z3) (R1 Z3))) (R1 Z3)))->R Z2)->wR d Z1 fun s3 i3 off3 row4=>∃n4:Int,((List.take 1 (List.drop (off3+1) row4)) =([iD n4]:List D))/\a_b (decide (n4 < 0)) (Qp (.a (iA 29)) Z1) (a_b (!b1) (Qp (.a (iA 29)) Z1) (R Z1)))))
theorem a_aw (y:D)(t:Int)(σ:Store)(Qp:RV->Store->Prop)(h:a_ae y t σ Qp) :DCalls prog e_r [.one y,iA t] σ Qp:=
 a_a mixed (by kernel_rfl) Tryz.func19 x_9 (Eq.mp (by kernel_rfl) h)
def a_k5:Ann:= { esc:= [22],cbs:= [2],draws:= [(10,{ ord:= [0,1,2,3,4,5,6,7,8,9,10,11,12,13,14,15,16,17,18,19,20,21,22,23,24,25,26,27,28,29,30,31,32,33,34,35,36,37,38,39,40,41,42,43,44,45,46,47,48,49,50,51,52,53,54,55,56,57,58,59,60,61,62] }),(12,{ ord:= [0,1,2,3,4,5,6,7,8,10,11,9,12,13,14,15,16,17] }),(30,{ ord:= [0,1,2,3,4,5,6,7,8,9,10,11,12,13,14,15],sp:= [10] })],loops:= [(8,{ mods:= [(25,s6)],keep:= [2,7,23,24] }),(15,{ mods:= [(113,s6)],keep:= [2,7,112] }),(19,{ mods:= [(129,s6)],keep:= [2,7,128] }),(23,{ mods:= [(145,s6)],keep:= [2,7,144] }),(28,{ mods:= [(10,s6)],keep:= [2,7] })],joins:= [(12,{ keep:= [2,7,9,23,24,25] })] }
def a_nc (c0 c1 c2 c3 c4:D)(c5 c6 c7 c8:Int)(trains:D)(σ:Store)(Qp:RV->Store->Prop) :Prop:=
 DCalls prog m_3 [.agg [c0,c1,c2,c3,c4,iD c5,iD c6,iD c7,iD c8]] σ (fun r Z=>∃n:Int,(r=(.a (iA n) :RV))/\a_b (n != 0) (Qp (.tup [.one .nilp,iA n]) Z) (wL trains fun len=>a_b (decide ((len:Int) > 4)) (Qp (.tup [.one .nilp,iA 5]) Z) (Fw.newObj Z (.mp 0 []) (fun id Z1=>Fw.newObj Z1 (.live a_w [[c0,c1,c2,c3,c4,iD c5,iD c6,iD c7,iD c8, .nils, .nils, .nils, .nils, .nils, .nils, .nils, .omap id,iD 0]]) (fun id1 Z2=>wL trains fun len1=>∃I:Int->Store->Prop,∃μ:Int->Store->Nat,(I 0 Z2)/\∀n1:Int,∀Z3,(I n1 Z3)->a_b (decide (n1 < (len1:Int))) (wI prog Z3 trains 2 n1 fun row=>∃d:D,∃n2:Int,((List.take 2 row) =([d,iD n2]:List D))/\∀R:Store->Prop,(∀Z4,(∃row1:List D,(Row Z4 (.osl id1 0 1) 0 row1)/\∃d1:D,((List.take 1 (List.drop 11 row1)) =([d1]:List D))/\wI prog Z4 d 1 0 fun row2=>∃n3:Int,((List.take 1 row2) =([iD n3]:List D))/\Fw.newObj Z4 (.live a_e [[iD n3]]) (fun id2 Z5=>Fw.newObj Z5 (.live a_m [[.osl id2 0 1,iD n2]]) (fun id3 Z6=>a_j prog Z6 a_m 32 d1 (.osl id3 0 1) (fun d2 Z7=>a_k [d2] Z7 (.osl id1 0 1) 0 11 (fun Z8=>(I (w64 (n1+1)) Z8)/\((μ (w64 (n1+1)) Z8) < (μ n1 Z3)))))))->R Z4)->wL d fun len3=>a_b ((len3:Int) != 1) (Qp (.tup [.one .nilp,iA 30]) Z3) (wI prog Z3 d 1 0 fun row1=>∃n3:Int,((List.take 1 row1) =([iD n3]:List D))/\a_b (decide (n3 < 0)) (Qp (.tup [.one .nilp,iA 30]) Z3) (wI prog Z3 d 1 0 fun row2=>∃n4:Int,((List.take 1 row2) =([iD n4]:List D))/\wL c0 fun len6=>a_b (decide (n4>=(len6:Int))) (Qp (.tup [.one .nilp,iA 30]) Z3) (wI prog Z3 d 1 0 fun row3=>∃n5:Int,((List.take 1 row3) =([iD n5]:List D))/\wI prog Z3 c0 3 n5 fun row4=>∃n6:Int,((List.take 1 row4) =([iD n6]:List D))/\a_b (n6 != 0) (Qp (.tup [.one .nilp,iA 30]) Z3) (a_b (decide (n2 < 0)) (Qp (.tup [.one .nilp,iA 30]) Z3) (a_b (decide (n2 > 1)) (Qp (.tup [.one .nilp,iA 30]) Z3) (wI prog Z3 d 1 0 fun row5=>∃n7:Int,((List.take 1 row5) =([iD n7]:List D))/\DCalls prog h_e [.one (.el (.osl id1 0 1) 0 0),iA n7] Z3 (fun r1 Z4=>∃n8:Int,(r1=(.a (iA n8) :RV))/\a_b (decide (n8 > 0)) (Qp (.tup [.one .nilp,iA 30]) Z4) (wI prog Z4 d 1 0 fun row6=>∃n9:Int,((List.take 1 row6) =([iD n9]:List D))/\DCalls prog k_m [.agg [c0,c1,c2,c3,c4,iD c5,iD c6,iD c7,iD c8],iA n9,iA n2] Z4 (fun r2 Z5=>∃b:Bool,(r2=(.a (bA b) :RV))/\a_b (!b) (Qp (.tup [.one .nilp,iA 30]) Z5) ((([[d,iD n2]]:List (List D)) =([[d,iD n2]]:List (List D)))/\R Z5))))))))))) (wL c0 fun len2=>∃I1:Int->Store->Prop,∃μ1:Int->Store->Nat,(I1 0 Z3)/\∀n2:Int,∀Z4,(I1 n2 Z4)->a_b (decide (n2 < (len2:Int))) (∃row:List D,(Row Z4 (.osl id1 0 1) 0 row)/\∃d:D,((List.take 1 (List.drop 9 row)) =([d]:List D))/\Fw.newObj Z4 (.live a_h [[iD 1,iD 1,iD 0]]) (fun id2 Z5=>a_j prog Z5 a_h 24 d (.osl id2 0 1) (fun d1 Z6=>a_k [d1] Z6 (.osl id1 0 1) 0 9 (fun Z7=>(I1 (w64 (n2+1)) Z7)/\((μ1 (w64 (n2+1)) Z7) < (μ1 n2 Z4)))))) (wL c3 fun len3=>∃I2:Int->Store->Prop,∃μ2:Int->Store->Nat,(I2 0 Z4)/\∀n3:Int,∀Z5,(I2 n3 Z5)->a_b (decide (n3 < (len3:Int))) (∃row:List D,(Row Z5 (.osl id1 0 1) 0 row)/\∃d:D,((List.take 1 (List.drop 10 row)) =([d]:List D))/\Fw.newObj Z5 (.live a_h [[iD 1,iD 1,iD 0]]) (fun id2 Z6=>a_j prog Z6 a_h 24 d (.osl id2 0 1) (fun d1 Z7=>a_k [d1] Z7 (.osl id1 0 1) 0 10 (fun Z8=>(I2 (w64 (n3+1)) Z8)/\((μ2 (w64 (n3+1)) Z8) < (μ2 n3 Z5)))))) (wL c2 fun len4=>∃I3:Int->Store->Prop,∃μ3:Int->Store->Nat,(I3 0 Z5)/\∀n4:Int,∀Z6,(I3 n4 Z6)->a_b (decide (n4 < (len4:Int))) (∃row:List D,(Row Z6 (.osl id1 0 1) 0 row)/\∃d:D,((List.take 1 (List.drop 13 row)) =([d]:List D))/\Fw.newObj Z6 (.live a_e [[iD 0]]) (fun id2 Z7=>a_j prog Z7 a_e 8 d (.osl id2 0 1) (fun d1 Z8=>a_k [d1] Z8 (.osl id1 0 1) 0 13 (fun Z9=>∃row1:List D,(Row Z9 (.osl id1 0 1) 0 row1)/\∃d2:D,((List.take 1 (List.drop 15 row1)) =([d2]:List D))/\Fw.newObj Z9 (.live a_e [[iD (-1)]]) (fun id3 Z10=>a_j prog Z10 a_e 8 d2 (.osl id3 0 1) (fun d3 Z11=>a_k [d3] Z11 (.osl id1 0 1) 0 15 (fun Z12=>(I3 (w64 (n4+1)) Z12)/\((μ3 (w64 (n4+1)) Z12) < (μ3 n4 Z6))))))))) (∃I4:Int->Store->Prop,∃μ4:Int->Store->Nat,(I4 0 Z6)/\∀n5:Int,∀Z7,(I4 n5 Z7)->a_b (decide (n5 < 4)) (∃pre:List A->Store->Prop,∃post:List A->Store->RV->Store->Prop,(b_7 prog q_1 pre post)/\∃row:List D,(Row Z7 (.osl id1 0 1) 0 row)/\∃d:D,((List.take 1 (List.drop 12 row)) =([d]:List D))/\(pre [.one (iD (w64 (n5+50))),iA c5] Z7)/\∀r1:RV,∀s:Store,(post [.one (iD (w64 (n5+50))),iA c5] Z7 r1 s)->∃d1:D,(r1=(.a (.one d1) :RV))/\Fw.newObj s (.live a_p [[d1]]) (fun id2 Z8=>a_j prog Z8 a_p 8 d (.osl id2 0 1) (fun d2 Z9=>a_k [d2] Z9 (.osl id1 0 1) 0 12 (fun Z10=>∃row1:List D,(Row Z10 (.osl id1 0 1) 0 row1)/\∃d3:D,((List.take 1 (List.drop 14 row1)) =([d3]:List D))/\Fw.newObj Z10 (.live a_e [[iD (-1)]]) (fun id3 Z11=>a_j prog Z11 a_e 8 d3 (.osl id3 0 1) (fun d4 Z12=>a_k [d4] Z12 (.osl id1 0 1) 0 14 (fun Z13=>(I4 (w64 (n5+1)) Z13)/\((μ4 (w64 (n5+1)) Z13) < (μ4 n5 Z7))))))))) (Qp (.tup [.one (.el (.osl id1 0 1) 0 0),iA 0]) Z7))))))))))
theorem a_p6 (c0 c1 c2 c3 c4:D)(c5 c6 c7 c8:Int)(trains:D)(σ:Store)(Qp:RV->Store->Prop)(h:a_nc c0 c1 c2 c3 c4 c5 c6 c7 c8 trains σ Qp) :DCalls prog q_b [.agg [c0,c1,c2,c3,c4,iD c5,iD c6,iD c7,iD c8], .one trains] σ Qp:=
 a_a mixed (by kernel_rfl) Tryz.func23 a_k5 (Eq.mp (by kernel_rfl) h)
def z_n:Ann:= { frz:= [6,11,14,17,20,22] }
def a_cm (σ:Store)(Qp:RV->Store->Prop) :Prop:=
 Qp (.a (.agg [.sl 3 [[iD 0,iD 0,iD 0],[iD 1,iD 0,iD 0],[iD 0,iD 0,iD 0],[iD 0,iD 0,iD 0],[iD 0,iD 0,iD 1]], .sl 4 [[iD 0,iD 1,iD 1,iD 0],[iD 1,iD 1,iD 2,iD 0],[iD 1,iD 2,iD 3,iD 0],[iD 2,iD 1,iD 4,iD 0]], .sl 2 [[iD 0,iD 1],[iD 2,iD 1]], .nils, .sl 6 [[iD 0,iD 1, .sl 3 [[iD 1,iD 0,iD 1],[iD 2,iD 0,iD 1]], .nils, .nils, .bool false],[iD 1,iD (-1), .sl 3 [[iD 4,iD 0,iD 1]], .nils, .nils, .bool false]],iD 2,iD 1,iD 4,iD 1000])) σ
theorem a_c6 (σ:Store)(Qp:RV->Store->Prop)(h:a_cm σ Qp) :DCalls prog p_i [] σ Qp:=
 a_a mixed (by kernel_rfl) Tryz.func27 z_n (Eq.mp (by kernel_rfl) h)
def n_8:Ann:= { }
def p_s (s:D)(σ:Store)(Qp:RV->Store->Prop) :Prop:=
 ∃b:Bool,(h_s .sl s b)/\a_b (b != false) (Qp (.a (.one .nils)) σ) (Fw.newObj σ (.live c_v []) (fun id Z=>a_j prog Z c_v 16 (.osl id 0 0) s (fun d Z1=>Qp (.a (.one d)) Z1)))
theorem p_l (s:D)(σ:Store)(Qp:RV->Store->Prop)(h:p_s s σ Qp) :DCalls prog d_0 [.one s] σ Qp:=
 a_a mixed (by kernel_rfl) Tryz.func31 n_8 (Eq.mp (by kernel_rfl) h)
def k_0:Ann:= { draws:= [(9,{ ord:= [0,1,2,3,4,5,6,7,8,9] })],loops:= [(8,{ mods:= [(8,s6)],keep:= [7] })],joins:= [(3,{ keep:= [0,1] }),(6,{ keep:= [0,6] })] }
def l_1 (x:D)(count:Int)(σ:Store)(Qp:RV->Store->Prop) :Prop:=
 ∀R:Store->Prop,(∀Z,(wL x fun len=>DCalls prog g_1 [.one (.int .u64 (IntKind.wrap .u64 (len:Int))), .one (.int .u64 (IntKind.wrap .u64 count))] Z (fun r Z1=>∃n n1:Int,(r=(.tup [.one (.int .u64 n), .one (.int .u64 n1)]:RV))/\∀R1:Store->Prop,(∀Z2,(((0:Int)<=(w64 n1))/\((w64 n1)<=(w64 n1))/\(((16:Int) * (w64 n1))<=(2 ^ 48))/\Fw.newObj Z2 (.live b_c (List.replicate (Int.toNat (w64 n1)) [iD 0,iD 0])) (fun id Z3=>r_x prog Z3 b_c (.osl id 0 (Int.toNat (w64 n1))) x (fun n2 Z4=>∃I:Int->Store->Prop,∃μ:Int->Store->Nat,(I n2 Z4)/\∀n3:Int,∀Z5,(I n3 Z5)->∃len1:Nat,(Len (.osl id 0 (Int.toNat (w64 n1))) len1)/\a_b (decide (n3 < (len1:Int))) (∃len2:Nat,(IdxN prog Z5 (.osl id 0 (Int.toNat (w64 n1))) 2 len2)/\((0:Int)<=n3)/\(n3<=(len2:Int))/\∃len3:Nat,(IdxN prog Z5 (.osl id 0 (Int.toNat (w64 n1))) 2 len3)/\((0:Int)<=0)/\((0:Int)<=n3)/\(n3<=(len3:Int))/\r_x prog Z5 b_c (.osl id (0+ (Int.toNat n3)) (len2 - (Int.toNat n3))) (.osl id 0 ((Int.toNat n3) - 0)) (fun n4 Z6=>(I (w64 (n3+n4)) Z6)/\((μ (w64 (n3+n4)) Z6) < (μ n3 Z5)))) (Qp (.a (.one (.osl id 0 (Int.toNat (w64 n1))))) Z5))))->R1 Z2)->a_b (decide (n > 0)) False (a_b (decide (n1 > 9223372036854775807)) False (R1 Z1))))->R Z)->a_b (decide (count < 0)) False (R σ)
theorem l_2 (x:D)(count:Int)(σ:Store)(Qp:RV->Store->Prop)(h:l_1 x count σ Qp) :DCalls prog d_2 [.one x,iA count] σ Qp:=
 a_a mixed (by kernel_rfl) Tryz.func35 k_0 (Eq.mp (by kernel_rfl) h)
def a_gr:Ann:= { loops:= [(2,{ mods:= [(11,s6)],keep:= [0,1,2,9,10] })] }
def a_ig (l:D)(n most:Int)(σ:Store)(Qp:RV->Store->Prop) :Prop:=
 wL l fun len=>∃I:Int->Store->Prop,∃μ:Int->Store->Nat,(I 0 σ)/\∀n1:Int,∀Z,(I n1 Z)->a_b (decide (n1 < (len:Int))) (wI prog Z l 1 n1 fun row=>∃n2:Int,((List.take 1 row) =([iD n2]:List D))/\a_b (decide (n2 < 0)) (Qp (.a (bA false)) Z) (a_b (decide (n2 > most)) (Qp (.a (bA false)) Z) ((I (w64 (n1+1)) Z)/\((μ (w64 (n1+1)) Z) < (μ n1 Z))))) (wL l fun len1=>Qp (.a (.one (.bool ((len1:Int) == n)))) Z)
theorem a_hp (l:D)(n most:Int)(σ:Store)(Qp:RV->Store->Prop)(h:a_ig l n most σ Qp) :DCalls prog g_w [.one l,iA n,iA most] σ Qp:=
 a_a mixed (by kernel_rfl) Tryz.func39 a_gr (Eq.mp (by kernel_rfl) h)
def r_m:Ann:= { draws:= [(2,{ ord:= [0,1,2,3,4,5] })] }
def t_g (w:D)(σ:Store)(Qp:RV->Store->Prop) :Prop:=
 wR w σ fun s i off row=>∃n:Int,((List.take 1 (List.drop (off+2) row)) =([iD n]:List D))/\a_b (n != 0) (wR w σ fun s1 i1 off1 row1=>∃n1:Int,((List.take 1 (List.drop (off1+2) row1)) =([iD n1]:List D))/\Qp (.tup [.one (.str (ByteArray.mk (List.toArray []))),iA n1]) σ) (wR w σ fun s1 i1 off1 row1=>∃d:D,((List.take 1 (List.drop (off1+0) row1)) =([d]:List D))/\∃b:ByteArray,(Fw.Rows prog σ c_t d (c_3 b))/\Qp (.tup [.one (.str b),iA 0]) σ)
theorem t_w (w:D)(σ:Store)(Qp:RV->Store->Prop)(h:t_g w σ Qp) :DCalls prog g_n [.one w] σ Qp:=
 a_a mixed (by kernel_rfl) Tryz.func43 r_m (Eq.mp (by kernel_rfl) h)
def p_t:Ann:= { }
def r_v (r:D)(now:Int)(text:ByteArray)(σ:Store)(Qp:RV->Store->Prop) :Prop:=
 DCalls prog r_c [.one (.str text)] σ (fun r1 Z=>∃n n1 n2:Int,∃s:ByteArray,∃n3:Int,(r1=(.tup [iA n,iA n1,iA n2, .one (.str s),iA n3]:RV))/\a_b (n3 != 0) (Qp (.tup [.one (.str (ByteArray.mk (List.toArray []))),iA n3]) Z) (wR r Z fun s1 i off row=>∃n4:Int,((List.take 1 (List.drop (off+3) row)) =([iD n4]:List D))/\a_b (n != n4) (Qp (.tup [.one (.str (ByteArray.mk (List.toArray []))),iA 16]) Z) (a_b (decide (n2 > now)) (Qp (.tup [.one (.str (ByteArray.mk (List.toArray []))),iA 19]) Z) (wR r Z fun s2 i1 off1 row1=>∃n5:Int,((List.take 1 (List.drop (off1+4) row1)) =([iD n5]:List D))/\a_b (decide ((w64 (now - n2)) > n5)) (Qp (.tup [.one (.str (ByteArray.mk (List.toArray []))),iA 17]) Z) (wR r Z fun s3 i2 off2 row2=>∃n6:Int,((List.take 1 (List.drop ((off2+0) +0) row2)) =([iD n6]:List D))/\a_b (decide (n2<=n6)) (Qp (.tup [.one (.str (ByteArray.mk (List.toArray []))),iA 18]) Z) ((a_u r)/\∃s4:D,∃i3 off3:Nat,(r=(.el s4 i3 off3:D))/\DCalls prog h_d [.one (.el s4 i3 (off3+0)),iA n1,iA n2] Z (fun r2 Z1=>(r2=(.tup []:RV))/\Qp (.tup [.one (.str s),iA 0]) Z1)))))))
theorem r_p (r:D)(now:Int)(text:ByteArray)(σ:Store)(Qp:RV->Store->Prop)(h:r_v r now text σ Qp) :DCalls prog f_t [.one r,iA now, .one (.str text)] σ Qp:=
 a_a mixed (by kernel_rfl) Tryz.func47 p_t (Eq.mp (by kernel_rfl) h)
def w_2:Ann:= { }
def y_p (y:D)(t:Int)(σ:Store)(Qp:RV->Store->Prop) :Prop:=
 a_b (decide (t < 0)) (Qp (.a (.one .nilp)) σ) (wR y σ fun s i off row=>∃d:D,((List.take 1 (List.drop (off+14) row)) =([d]:List D))/\wL d fun len=>a_b (decide (t>=(len:Int))) (Qp (.a (.one .nilp)) σ) (wR y σ fun s1 i1 off1 row1=>∃d1:D,((List.take 1 (List.drop (off1+14) row1)) =([d1]:List D))/\∃len1:Nat,(Idx prog σ d1 2 len1)/\((0:Int)<=t)/\(t < (len1:Int))/\Qp (.a (.one (.el d1 (Int.toNat t) 0))) σ))
theorem y_n (y:D)(t:Int)(σ:Store)(Qp:RV->Store->Prop)(h:y_p y t σ Qp) :DCalls prog c_k [.one y,iA t] σ Qp:=
 a_a mixed (by kernel_rfl) Tryz.func51 w_2 (Eq.mp (by kernel_rfl) h)
def a_as:Ann:= { }
def a_cg (y:D)(s in_:Int)(σ:Store)(Qp:RV->Store->Prop) :Prop:=
 wR y σ fun s1 i off row=>∃d:D,((List.take 1 (List.drop (off+10) row)) =([d]:List D))/\wI prog σ d 3 s fun row1=>∃n:Int,((List.take 1 row1) =([iD n]:List D))/\wR y σ fun s2 i1 off1 row2=>∃d1:D,((List.take 1 (List.drop (off1+10) row2)) =([d1]:List D))/\∃len1:Nat,(Idx prog σ d1 3 len1)/\((0:Int)<=s)/\(s < (len1:Int))/\DCalls prog b_y [.one (.el d1 (Int.toNat s) 0)] σ (fun r Z=>∃b:Bool,(r=(.a (bA b) :RV))/\a_b b (wR y Z fun s3 i2 off2 row3=>∃d2:D,((List.take 1 (List.drop ((off2+1) +0) row3)) =([d2]:List D))/\wI prog Z d2 3 s fun row4=>∃n1:Int,((List.take 1 row4) =([iD n1]:List D))/\DCalls prog k_1 [iA n1,iA in_,iA 0] Z (fun r1 Z1=>∃n2:Int,∃b1:Bool,(r1=(.tup [iA n2,bA b1]:RV))/\a_b (!b1) (Qp (.a (iA (-1))) Z1) (Qp (.a (iA n2)) Z1))) (wR y Z fun s3 i2 off2 row3=>∃d2:D,((List.take 1 (List.drop ((off2+1) +0) row3)) =([d2]:List D))/\wI prog Z d2 3 s fun row4=>∃n1:Int,((List.take 1 row4) =([iD n1]:List D))/\DCalls prog k_1 [iA n1,iA in_,iA n] Z (fun r1 Z1=>∃n2:Int,∃b1:Bool,(r1=(.tup [iA n2,bA b1]:RV))/\a_b (!b1) (Qp (.a (iA (-1))) Z1) (Qp (.a (iA n2)) Z1))))
theorem a_cq (y:D)(s in_:Int)(σ:Store)(Qp:RV->Store->Prop)(h:a_cg y s in_ σ Qp) :DCalls prog d_a [.one y,iA s,iA in_] σ Qp:=
 a_a mixed (by kernel_rfl) Tryz.func55 a_as (Eq.mp (by kernel_rfl) h)
def a_h8:Ann:= { cbs:= [3] }
def a_ls (c0 c1 c2 c3 c4:D)(c5 c6 c7 c8 s e_:Int)(σ:Store)(Qp:RV->Store->Prop) :Prop:=
 DCalls prog d_e [.one c1,iA s,iA e_] σ (fun r Z=>∃n n1:Int,∃b:Bool,(r=(.tup [iA n,iA n1,bA b]:RV))/\a_b (!b) (Qp (.a (bA true)) Z) (DCalls prog f_w [.agg [c0,c1,c2,c3,c4,iD c5,iD c6,iD c7,iD c8],iA s,iA e_] Z (fun r1 Z1=>∃n2:Int,(r1=(.a (iA n2) :RV))/\Qp (.a (.one (.bool (decide (n2>=0))))) Z1)))
theorem a_lh (c0 c1 c2 c3 c4:D)(c5 c6 c7 c8 s e_:Int)(σ:Store)(Qp:RV->Store->Prop)(h:a_ls c0 c1 c2 c3 c4 c5 c6 c7 c8 s e_ σ Qp) :DCalls prog k_m [.agg [c0,c1,c2,c3,c4,iD c5,iD c6,iD c7,iD c8],iA s,iA e_] σ Qp:=
 a_a mixed (by kernel_rfl) Tryz.func59 a_h8 (Eq.mp (by kernel_rfl) h)
def u_j:Ann:= { draws:= [(4,{ ord:= [0,1,2,3,4,5,6,7,8,9,10] })],loops:= [(1,{ mods:= [(8,s6)],keep:= [0,7] })] }
def x_l (y:D)(σ:Store)(Qp:RV->Store->Prop) :Prop:=
 wR y σ fun s i off row=>∃d:D,((List.take 1 (List.drop (off+15) row)) =([d]:List D))/\wL d fun len=>∃I:Int->Store->Prop,∃μ:Int->Store->Nat,(I 0 σ)/\∀n:Int,∀Z,(I n Z)->a_b (decide (n < (len:Int))) (DCalls prog g_4 [.one y,iA n] Z (fun r Z1=>∃n1:Int,(r=(.a (iA n1) :RV))/\a_b (n1 != 0) (wR y Z1 fun s1 i1 off1 row1=>∃d1:D,((List.take 1 (List.drop (off1+15) row1)) =([d1]:List D))/\wR y Z1 fun s2 i2 off2 row2=>∃n2:Int,((List.take 1 (List.drop (off2+17) row2)) =([iD n2]:List D))/\∃len1:Nat,(Idx prog Z1 d1 1 len1)/\((0:Int)<=n)/\(n < (len1:Int))/\a_k [iD n2] Z1 d1 (Int.toNat n) 0 (fun Z2=>(I (w64 (n+1)) Z2)/\((μ (w64 (n+1)) Z2) < (μ n Z)))) ((I (w64 (n+1)) Z1)/\((μ (w64 (n+1)) Z1) < (μ n Z))))) (Qp (.tup []) Z)
theorem y_s (y:D)(σ:Store)(Qp:RV->Store->Prop)(h:x_l y σ Qp) :DCalls prog h_x [.one y] σ Qp:=
 a_a mixed (by kernel_rfl) Tryz.func63 u_j (Eq.mp (by kernel_rfl) h)
def v_8:Ann:= { joins:= [(3,{ keep:= [0,1] }),(7,{ keep:= [] })],splits:= [(6,(DT.split 3 13 (DT.leaf { ord:= [0,1,2,3,4,6,7,8,9,10,11,12,14,15,5,13,16,17,18],nb:= [15] }) (DT.leaf { ord:= [0,1,2,4,6,7,8,9,10,11,12,14,15,5,13,3,16,17,18],nb:= [15] })))] }
def z_h (y:D)(t:Int)(σ:Store)(Qp:RV->Store->Prop) :Prop:=
 ∀R:Store->Prop,(∀Z,(wR y Z fun s i off row=>∃d:D,((List.take 1 (List.drop (off+11) row)) =([d]:List D))/\wI prog Z d 2 t fun row1=>∃d1:D,∃n:Int,((List.take 2 row1) =([d1,iD n]:List D))/\wL d1 fun len1=>a_b ((len1:Int) == 1) (Qp (.a (iA 29)) Z) (∀R1:Store->Prop,(∀Z1,(Qp (.a (iA 0)) Z1)->R1 Z1)->(wR y Z fun s1 i1 off1 row2=>∃d2:D,((List.take 1 (List.drop (off1+11) row2)) =([d2]:List D))/\wL d1 fun len2=>∃len3:Nat,(IdxN prog Z d1 1 len3)/\((0:Int)<=0)/\((0:Int)<=(w64 ((len2:Int) - 1)))/\((w64 ((len2:Int) - 1))<=(len3:Int))/\Fw.newObj Z (.live a_e []) (fun id Z1=>a_j prog Z1 a_e 8 (.osl id 0 0) (h_u d1 0 (Int.toNat (w64 ((len2:Int) - 1)))) (fun d3 Z2=>∃len4:Nat,(Idx prog Z2 d2 2 len4)/\((0:Int)<=t)/\(t < (len4:Int))/\a_k [d3,iD n] Z2 d2 (Int.toNat t) 0 (fun Z3=>R1 Z3))))/\(a_u y)/\∃s1:D,∃i1 off1:Nat,(y=(.el s1 i1 off1:D))/\wL d1 fun len2=>∃len3:Nat,(IdxN prog Z d1 1 len3)/\((0:Int)<=0)/\((0:Int)<=(w64 ((len2:Int) - 1)))/\((w64 ((len2:Int) - 1))<=(len3:Int))/\Fw.newObj Z (.live a_e []) (fun id Z1=>a_j prog Z1 a_e 8 (.osl id 0 0) (h_u d1 0 (Int.toNat (w64 ((len2:Int) - 1)))) (fun d2 Z2=>∃row2:List D,(Row Z2 s1 i1 row2)/\∃d3:D,((List.take 1 (List.drop (off1+11) row2)) =([d3]:List D))/\∃len4:Nat,(Idx prog Z2 d3 2 len4)/\((0:Int)<=t)/\(t < (len4:Int))/\a_k [d2,iD n] Z2 d3 (Int.toNat t) 0 (fun Z3=>R1 Z3)))))->R Z)->a_b (decide (t < 0)) (Qp (.a (iA 30)) σ) (wR y σ fun s i off row=>∃d:D,((List.take 1 (List.drop (off+11) row)) =([d]:List D))/\wL d fun len=>a_b (decide (t>=(len:Int))) (Qp (.a (iA 30)) σ) (R σ))
theorem x_r (y:D)(t:Int)(σ:Store)(Qp:RV->Store->Prop)(h:z_h y t σ Qp) :DCalls prog h_w [.one y,iA t] σ Qp:=
 a_a mixed (by kernel_rfl) Tryz.func67 v_8 (Eq.mp (by kernel_rfl) h)
def u_v:Ann:= { esc:= [3] }
def z_g (y:D)(line:Int)(σ:Store)(Qp:RV->Store->Prop) :Prop:=
 Fw.newObj σ (.live a_e [[iD line]]) (fun id Z=>wR y Z fun s i off row=>∃d:D,((List.take 1 (List.drop ((off+1) +0) row)) =([d]:List D))/\DCalls prog d_q [.one d, .one (.fn j_2 [] [(false,[.el (.osl id 0 1) 0 0])])] Z (fun r Z1=>∃n:Int,(r=(.a (iA n) :RV))/\∃row1:List D,(Row Z1 (.osl id 0 1) 0 row1)/\∃n1:Int,((List.take 1 row1) =([iD n1]:List D))/\a_b (decide (n1 < 1)) (Qp (.a (iA 20)) Z1) (a_b (decide (n < 0)) (Qp (.a (iA 20)) Z1) (wR y Z1 fun s1 i1 off1 row2=>∃d1:D,((List.take 1 (List.drop (off1+14) row2)) =([d1]:List D))/\wL d1 fun len=>a_b (decide ((len:Int)>=4)) (Qp (.a (iA 5)) Z1) (DCalls prog c_x [.one y,iA n,iA 0] Z1 (fun r1 Z2=>∃n2:Int,(r1=(.a (iA n2) :RV))/\a_b (decide (n2 < 0)) (Qp (.a (iA 29)) Z2) (wR y Z2 fun s2 i2 off2 row3=>∃d2:D,((List.take 1 (List.drop (off2+14) row3)) =([d2]:List D))/\Fw.newObj Z2 (.live a_e [[iD n]]) (fun id1 Z3=>Fw.newObj Z3 (.live a_m [[.osl id1 0 1,iD 0]]) (fun id2 Z4=>a_j prog Z4 a_m 32 d2 (.osl id2 0 1) (fun d3 Z5=>(a_u y)/\∃s3:D,∃i3 off3:Nat,(y=(.el s3 i3 off3:D))/\a_k [d3] Z5 s3 i3 (off3+14) (fun Z6=>Qp (.a (iA 0)) Z6)))))))))))
theorem y_h (y:D)(line:Int)(σ:Store)(Qp:RV->Store->Prop)(h:z_g y line σ Qp) :DCalls prog h_1 [.one y,iA line] σ Qp:=
 a_a mixed (by kernel_rfl) Tryz.func71 u_v (Eq.mp (by kernel_rfl) h)
def s_g:Ann:= { }
def v_q (x:D)(σ:Store)(Qp:RV->Store->Prop) :Prop:=
 wR x σ fun s i off row=>∃n:Int,((List.take 1 (List.drop (off+2) row)) =([iD n]:List D))/\Qp (.a (.one (.bool (decide (n > 0))))) σ
theorem u_m (x:D)(σ:Store)(Qp:RV->Store->Prop)(h:v_q x σ Qp) :DCalls prog b_y [.one x] σ Qp:=
 a_a mixed (by kernel_rfl) Tryz.func75 s_g (Eq.mp (by kernel_rfl) h)
def q_u:Ann:= { cbs:= [1],draws:= [(6,{ ord:= [0,1,2,3,4,5,6] })],loops:= [(3,{ mods:= [(14,s6)],keep:= [1,3,12,13] })] }
def s_u (p0 p1 p2 p3 p4:D)(p5 p6 p7 p8:Int)(σ:Store)(Qp:RV->Store->Prop) :Prop:=
 Fw.newObj σ (.mp 0 []) (fun id Z=>wL p2 fun len=>∃I:Int->Store->Prop,∃μ:Int->Store->Nat,(I 0 Z)/\∀n:Int,∀Z1,(I n Z1)->a_b (decide (n < (len:Int))) (wI prog Z1 p2 2 n fun row=>∃n1 n2:Int,((List.take 2 row) =([iD n1,iD n2]:List D))/\DCalls prog d_4 [.one p1,iA n1,iA n2] Z1 (fun r Z2=>∃n3 n4:Int,∃b:Bool,(r=(.tup [iA n3,iA n4,bA b]:RV))/\∃r1:Option A,(h_o prog c_v Z2 (.omap id) (.agg [iD n1,iD n2]) r1)/\∃n5:Int,((Option.getD r1 (iA 0)) =(iA n5:A))/\a_jy prog c_v Z2 (.omap id) (.agg [iD n1,iD n2]) (iA 0) (fun (v:A)=>fun n6 Z3=>a_ec Z3 (.omap id) n6 (.one (iD (w64 (n5+1)))) (fun Z4=>a_b (!b) (Qp (.a (bA false)) Z4) (∃r2:Option A,(h_o prog c_v Z4 (.omap id) (.agg [iD n1,iD n2]) r2)/\∃n7:Int,((Option.getD r2 (iA 0)) =(iA n7:A))/\a_b (decide (n7 > 1)) (Qp (.a (bA false)) Z4) ((I (w64 (n+1)) Z4)/\((μ (w64 (n+1)) Z4) < (μ n Z1)))))))) (wL p2 fun len1=>Qp (.a (.one (.bool (decide ((len1:Int)<=12))))) Z1))
theorem s_o (p0 p1 p2 p3 p4:D)(p5 p6 p7 p8:Int)(σ:Store)(Qp:RV->Store->Prop)(h:s_u p0 p1 p2 p3 p4 p5 p6 p7 p8 σ Qp) :DCalls prog g_g [.agg [p0,p1,p2,p3,p4,iD p5,iD p6,iD p7,iD p8]] σ Qp:=
 a_a mixed (by kernel_rfl) Tryz.func79 q_u (Eq.mp (by kernel_rfl) h)
def a_ac:Ann:= { }
def a_cz (x y:Int)(σ:Store)(Qp:RV->Store->Prop) :Prop:=
 DCalls prog i_i [.one (.int .u64 x), .one (.int .u64 y)] σ (fun r Z=>∃n n1:Int,(r=(.tup [.one (.int .u64 n), .one (.int .u64 n1)]:RV))/\Qp (.tup [.one (.int .u64 n), .one (.int .u64 n1)]) Z)
theorem a_dc (x y:Int)(σ:Store)(Qp:RV->Store->Prop)(h:a_cz x y σ Qp) :DCalls prog g_1 [.one (.int .u64 x), .one (.int .u64 y)] σ Qp:=
 a_a mixed (by kernel_rfl) Tryz.func83 a_ac (Eq.mp (by kernel_rfl) h)
def a_k8:Ann:= { loops:= [(3,{ mods:= [(3,s6),(4,s6)],keep:= [0] }),(7,{ mods:= [(3,s6),(5,s6)],keep:= [0,4] })] }
def a_nk (text:ByteArray)(σ:Store)(Qp:RV->Store->Prop) :Prop:=
 ∃I:Int->Int->Store->Prop,∃μ:Int->Int->Store->Nat,(I 4294967295 0 σ)/\∀n n1:Int,∀Z,(I n n1 Z)->a_b (decide (n1 < (ByteArray.size text:Int))) (∃n2:Int,(r_k text n1 n2)/\∃I1:Int->Int->Store->Prop,∃μ1:Int->Int->Store->Nat,(I1 (w64 (BitVec.toNat ((BitVec.ofInt 64 n) ^^^ (BitVec.ofInt 64 (w64 ((w64 n2) * 16777216)))) :Int)) 0 Z)/\∀n3 n4:Int,∀Z1,(I1 n3 n4 Z1)->a_b (decide (n4 < 8)) (a_b (decide ((w64 (n3 * 2))>=4294967296)) ((I1 (w64 (BitVec.toNat ((BitVec.ofInt 64 (w64 ((w64 (n3 * 2)) - 4294967296))) ^^^ (BitVec.ofInt 64 79764919)) :Int)) (w64 (n4+1)) Z1)/\((μ1 (w64 (BitVec.toNat ((BitVec.ofInt (IntKind.bits .i64) (w64 ((w64 (n3 * 2)) - 4294967296))) ^^^ (BitVec.ofInt (IntKind.bits .i64) 79764919)) :Int)) (w64 (n4+1)) Z1) < (μ1 n3 n4 Z1))) ((I1 (w64 (n3 * 2)) (w64 (n4+1)) Z1)/\((μ1 (w64 (n3 * 2)) (w64 (n4+1)) Z1) < (μ1 n3 n4 Z1)))) ((I n3 (w64 (n1+1)) Z1)/\((μ n3 (w64 (n1+1)) Z1) < (μ n n1 Z)))) (Qp (.a (iA n)) Z)
theorem a_n8 (text:ByteArray)(σ:Store)(Qp:RV->Store->Prop)(h:a_nk text σ Qp) :DCalls prog q_y [.one (.str text)] σ Qp:=
 a_a mixed (by kernel_rfl) Tryz.func87 a_k8 (Eq.mp (by kernel_rfl) h)
def a_ee:Ann:= { cbs:= [2],draws:= [(1,{ ord:= [0,1,2,3,4,5,6,7,8,9,10,11,12,13,14,15,16,17,18,19,20,21,22] })] }
def a_hz (h0 h1 h2 h3 o:D)(σ:Store)(Qp:RV->Store->Prop) :Prop:=
 (a_u o)/\∃s:D,∃i off:Nat,(o=(.el s i off:D))/\wL h1 fun len=>(a_u o)/\∃s1:D,∃i1 off1:Nat,(o=(.el s1 i1 off1:D))/\wL h3 fun len1=>(a_u o)/\∃s2:D,∃i2 off2:Nat,(o=(.el s2 i2 off2:D))/\wL h2 fun len2=>Fw.newObj σ (.live c_j [[.el s i (off+0),iD (len:Int),iD 2],[.el s1 i1 (off1+1),iD (len1:Int),iD 2],[.el s2 i2 (off2+2),iD (len2:Int),iD 1]]) (fun id Z=>Qp (.a (.one (.osl id 0 3))) Z)
theorem a_g3 (h0 h1 h2 h3 o:D)(σ:Store)(Qp:RV->Store->Prop)(h:a_hz h0 h1 h2 h3 o σ Qp) :DCalls prog t_7 [.agg [h0,h1,h2,h3], .one o] σ Qp:=
 a_a mixed (by kernel_rfl) Tryz.func91 a_ee (Eq.mp (by kernel_rfl) h)
def a_mq:Ann:= { loops:= [(2,{ mods:= [(15,s6)],keep:= [1,2,13,14] })] }
def a_rd (kind in_ pos:Int)(σ:Store)(Qp:RV->Store->Prop) :Prop:=
 DCalls prog j_f [iA kind] σ (fun r Z=>∃d:D,(r=(.a (.one d) :RV))/\wL d fun len=>∃I:Int->Store->Prop,∃μ:Int->Store->Nat,(I 0 Z)/\∀n:Int,∀Z1,(I n Z1)->a_b (decide (n < (len:Int))) (wI prog Z1 d 3 n fun row=>∃n1 n2 n3:Int,((List.take 3 row) =([iD n1,iD n2,iD n3]:List D))/\DCalls prog f_2 [.agg [iD n1,iD n2,iD n3],iA in_] Z1 (fun r1 Z2=>∃n4:Int,∃b:Bool,(r1=(.tup [iA n4,bA b]:RV))/\a_b b (a_b (n3 == 0) (Qp (.tup [iA n4,bA true]) Z2) (a_b (n3 == pos) (Qp (.tup [iA n4,bA true]) Z2) ((I (w64 (n+1)) Z2)/\((μ (w64 (n+1)) Z2) < (μ n Z1))))) ((I (w64 (n+1)) Z2)/\((μ (w64 (n+1)) Z2) < (μ n Z1))))) (Qp (.tup [iA 0,bA false]) Z1))
theorem a_rr (kind in_ pos:Int)(σ:Store)(Qp:RV->Store->Prop)(h:a_rd kind in_ pos σ Qp) :DCalls prog k_1 [iA kind,iA in_,iA pos] σ Qp:=
 a_a mixed (by kernel_rfl) Tryz.func95 a_mq (Eq.mp (by kernel_rfl) h)
def a_hb:Ann:= { cbs:= [2,3],draws:= [(4,{ ord:= [0,1,2,3,4,5] }),(12,{ ord:= [0,1,3,4,5,6,2,7,8,9,10,11,12],nb:= [4,6] }),(19,{ ord:= [0,1,2,3,4,5] })],loops:= [(7,{ mods:= [(6,s6),(7,s6),(8,SlotSh.one (Sh.any)),(72,s6)],keep:= [2,3,70,71] })],joins:= [(3,{ keep:= [2,3] }),(20,{ mods:= [(6,s6),(7,s6),(8,SlotSh.one (Sh.any))],keep:= [2,3,70,71,72] }),(12,{ keep:= [2,3,8,9,10,11,70,71,72] }),(16,{ mods:= [(16,s6)],keep:= [2,3,8,10,11,15,70,71,72] }),(18,{ keep:= [2,3,8,10,11,70,71,72] })] }
def a_lq (c0 c1 c2 c3 c4:D)(c5 c6 c7 c8 r0 r1:Int)(r2 r3 r4:D)(r5:Bool)(σ:Store)(Qp:RV->Store->Prop) :Prop:=
 ∀R:Store->Prop,(∀Z,(wI prog Z c2 2 r0 fun row=>∃n n1:Int,((List.take 2 row) =([iD n,iD n1]:List D))/\Fw.newObj Z (.live a_e [[iD n]]) (fun id Z1=>wL r2 fun len1=>∃I:Int->Int->D->Int->Store->Prop,∃μ:Int->Int->D->Int->Store->Nat,(I n n1 (.osl id 0 1) 0 Z1)/\∀n2 n3:Int,∀d:D,∀n4:Int,∀Z2,(I n2 n3 d n4 Z2)->a_b (decide (n4 < (len1:Int))) (∀R1:Int->Int->D->Store->Prop,(∀n5 n6:Int,∀d1:D,∀Z3,((I n5 n6 d1 (w64 (n4+1)) Z3)/\((μ n5 n6 d1 (w64 (n4+1)) Z3) < (μ n2 n3 d n4 Z2)))->R1 n5 n6 d1 Z3)->wI prog Z2 r2 3 n4 fun row1=>∃n5 n6 n7:Int,((List.take 3 row1) =([iD n5,iD n6,iD n7]:List D))/\DCalls prog d_e [.one c1,iA n2,iA n3] Z2 (fun r Z3=>∃n8 n9:Int,∃b:Bool,(r=(.tup [iA n8,iA n9,bA b]:RV))/\∀R2:Store->Prop,(∀Z4,(DCalls prog f_7 [.agg [c0,c1,c2,c3,c4,iD c5,iD c6,iD c7,iD c8],iA n8] Z4 (fun r6 Z5=>∃n10:Int,(r6=(.a (iA n10) :RV))/\DCalls prog r_j [iA n10,iA n6,iA n7] Z5 (fun r7 Z6=>∃n11:Int,∃b1:Bool,(r7=(.tup [iA n11,bA b1]:RV))/\∀R3:Int->Store->Prop,(∀n12:Int,∀Z7,(∀R4:Store->Prop,(∀Z8,(Fw.newObj Z8 (.live a_e [[iD n8]]) (fun id1 Z9=>a_j prog Z9 a_e 8 d (.osl id1 0 1) (fun d1 Z10=>R1 n5 n7 d1 Z10)))->R4 Z8)->a_b (!b1) (Qp (.a (bA false)) Z7) (DCalls prog o_i [.agg [c0,c1,c2,c3,c4,iD c5,iD c6,iD c7,iD c8],iA n5,iA n7,iA n12] Z7 (fun r8 Z8=>∃b2:Bool,(r8=(.a (bA b2) :RV))/\a_b b2 (Qp (.a (bA false)) Z8) (a_b r5 (wI prog Z8 c0 3 n8 fun row2=>∃n13:Int,((List.take 1 (List.drop 2 row2)) =([iD n13]:List D))/\a_b (n13 != 0) (Qp (.a (bA false)) Z8) ((([[iD n5,iD n6,iD n7]]:List (List D)) =([[iD n5,iD n6,iD n7]]:List (List D)))/\R4 Z8)) ((([[iD n5,iD n6,iD n7]]:List (List D)) =([[iD n5,iD n6,iD n7]]:List (List D)))/\R4 Z8)))))->R3 n12 Z7)->wL r2 fun len3=>a_b (n4 ==(w64 ((len3:Int) - 1))) ((([[iD n5,iD n6,iD n7]]:List (List D)) =([[iD n5,iD n6,iD n7]]:List (List D)))/\R3 r1 Z6) ((([[iD n5,iD n6,iD n7]]:List (List D)) =([[iD n5,iD n6,iD n7]]:List (List D)))/\R3 (-1) Z6))))->R2 Z4)->a_b (!b) (Qp (.a (bA false)) Z3) (a_b (n8 != n5) (Qp (.a (bA false)) Z3) (a_b (n9 != n6) (Qp (.a (bA false)) Z3) (DCalls prog d_r [.one d,iA n8] Z3 (fun r6 Z4=>∃b1:Bool,(r6=(.a (bA b1) :RV))/\a_b b1 (Qp (.a (bA false)) Z4) ((([[iD n5,iD n6,iD n7]]:List (List D)) =([[iD n5,iD n6,iD n7]]:List (List D)))/\R2 Z4))))))) (a_b (decide (r1>=0)) (wI prog Z2 c2 2 r1 fun row1=>∃n5 n6:Int,((List.take 2 row1) =([iD n5,iD n6]:List D))/\Qp (.a (.one (.bool ((n5 == n2) && (n6 == n3))))) Z2) (DCalls prog d_e [.one c1,iA n2,iA n3] Z2 (fun r Z3=>∃n5 n6:Int,∃b:Bool,(r=(.tup [iA n5,iA n6,bA b]:RV))/\Qp (.a (bA (!b))) Z3)))))->R Z)->a_b (decide (r0 < 0)) (Qp (.a (bA false)) σ) (wL c2 fun len=>a_b (decide (r0>=(len:Int))) (Qp (.a (bA false)) σ) (a_b (decide (r1 < (-1))) (Qp (.a (bA false)) σ) (wL c2 fun len1=>a_b (decide (r1>=(len1:Int))) (Qp (.a (bA false)) σ) (wL r2 fun len2=>a_b (decide ((len2:Int) < 1)) (Qp (.a (bA false)) σ) (wL r2 fun len3=>a_b (decide ((len3:Int) > 8)) (Qp (.a (bA false)) σ) (R σ))))))
theorem a_mj (c0 c1 c2 c3 c4:D)(c5 c6 c7 c8 r0 r1:Int)(r2 r3 r4:D)(r5:Bool)(σ:Store)(Qp:RV->Store->Prop)(h:a_lq c0 c1 c2 c3 c4 c5 c6 c7 c8 r0 r1 r2 r3 r4 r5 σ Qp) :DCalls prog o_t [.agg [c0,c1,c2,c3,c4,iD c5,iD c6,iD c7,iD c8], .agg [iD r0,iD r1,r2,r3,r4, .bool r5]] σ Qp:=
 a_a mixed (by kernel_rfl) Tryz.func99 a_hb (Eq.mp (by kernel_rfl) h)
def z_k:Ann:= { draws:= [(6,{ ord:= [0,1,2,3,4,5,6,7,8] })],loops:= [(4,{ mods:= [(13,s6)],keep:= [0,1,12] })] }
def a_ba (a b:D)(σ:Store)(Qp:RV->Store->Prop) :Prop:=
 wL a fun len=>wL b fun len1=>a_b ((len:Int) !=(len1:Int)) (Qp (.a (bA false)) σ) (wL a fun len2=>∃I:Int->Store->Prop,∃μ:Int->Store->Nat,(I 0 σ)/\∀n:Int,∀Z,(I n Z)->a_b (decide (n < (len2:Int))) (wI prog Z a 1 n fun row=>∃n1:Int,((List.take 1 row) =([iD n1]:List D))/\wI prog Z b 1 n fun row1=>∃n2:Int,((List.take 1 row1) =([iD n2]:List D))/\a_b (n1 != n2) (Qp (.a (bA false)) Z) ((I (w64 (n+1)) Z)/\((μ (w64 (n+1)) Z) < (μ n Z)))) (Qp (.a (bA true)) Z))
theorem z_y (a b:D)(σ:Store)(Qp:RV->Store->Prop)(h:a_ba a b σ Qp) :DCalls prog i_5 [.one a, .one b] σ Qp:=
 a_a mixed (by kernel_rfl) Tryz.func103 z_k (Eq.mp (by kernel_rfl) h)
def a_g1:Ann:= { }
def a_kh (x0 x1 x2:Int)(stuck:Bool)(σ:Store)(Qp:RV->Store->Prop) :Prop:=
 a_b (x2 == 0) (Qp (.a (.agg [iD x0,iD x1,iD x2])) σ) (a_b stuck (Qp (.a (.agg [iD x0,iD x1,iD x2])) σ) (a_b ((w64 (x2 - 1)) == 0) (Qp (.a (.agg [iD x1,iD x1,iD (w64 (x2 - 1))])) σ) (Qp (.a (.agg [iD x0,iD x1,iD (w64 (x2 - 1))])) σ)))
theorem a_j4 (x0 x1 x2:Int)(stuck:Bool)(σ:Store)(Qp:RV->Store->Prop)(h:a_kh x0 x1 x2 stuck σ Qp) :DCalls prog i_f [.agg [iD x0,iD x1,iD x2],bA stuck] σ Qp:=
 a_a mixed (by kernel_rfl) Tryz.func107 a_g1 (Eq.mp (by kernel_rfl) h)
def a_e7:Ann:= { cbs:= [2] }
def a_if (x0 x1 x2 to:Int)(σ:Store)(Qp:RV->Store->Prop) :Prop:=
 a_b (to == x1) (Qp (.a (.agg [iD x0,iD x1,iD x2])) σ) (Qp (.a (.agg [iD x0,iD to,iD 2])) σ)
theorem a_h0 (x0 x1 x2 to:Int)(σ:Store)(Qp:RV->Store->Prop)(h:a_if x0 x1 x2 to σ Qp) :DCalls prog g_u [.agg [iD x0,iD x1,iD x2],iA to] σ Qp:=
 a_a mixed (by kernel_rfl) Tryz.func111 a_e7 (Eq.mp (by kernel_rfl) h)
def k_a:Ann:= { loops:= [(2,{ mods:= [(8,s6)],keep:= [0,1,7] })] }
def l_n (s f:D)(σ:Store)(Qp:RV->Store->Prop) :Prop:=
 wL s fun len=>∃I:Int->Store->Prop,∃μ:Int->Store->Nat,(I 0 σ)/\∀n:Int,∀Z,(I n Z)->a_b (decide (n < (len:Int))) (wI prog Z s 3 n fun row=>∃n1 n2 n3:Int,((List.take 3 row) =([iD n1,iD n2,iD n3]:List D))/\∃f1:FuncId,∃a:List (Bool × (List D)),∃b:List (Bool × (List D)),∃as0':List A,∃bs:List A,(f=(.fn f1 a b:D))/\((c_7 a) =(Option.some as0'))/\((c_7 b) =(Option.some bs))/\DCalls prog f1 (HAppend.hAppend (HAppend.hAppend as0' [.agg [iD n1,iD n2,iD n3]]) bs) Z (fun r Z1=>∃b1:Bool,(r=(.a (bA b1) :RV))/\a_b b1 (Qp (.a (iA n)) Z1) ((I (w64 (n+1)) Z1)/\((μ (w64 (n+1)) Z1) < (μ n Z))))) (Qp (.a (iA (-1))) Z)
theorem l_j (s f:D)(σ:Store)(Qp:RV->Store->Prop)(h:l_n s f σ Qp) :DCalls prog d_q [.one s, .one f] σ Qp:=
 a_a mixed (by kernel_rfl) Tryz.func115 k_a (Eq.mp (by kernel_rfl) h)
def a_mb:Ann:= { loops:= [(3,{ mods:= [(3,s6),(9,s6)],keep:= [7,8] })] }
def a_mt (kind:Int)(σ:Store)(Qp:RV->Store->Prop) :Prop:=
 DCalls prog j_f [iA kind] σ (fun r Z=>∃d:D,(r=(.a (.one d) :RV))/\wL d fun len=>∃I:Int->Int->Store->Prop,∃μ:Int->Int->Store->Nat,(I 0 0 Z)/\∀n n1:Int,∀Z1,(I n n1 Z1)->a_b (decide (n1 < (len:Int))) (wI prog Z1 d 3 n1 fun row=>∃n2 n3 n4:Int,((List.take 3 row) =([iD n2,iD n3,iD n4]:List D))/\((0:Int)<=0)/\((0:Int) < (2:Int))/\((0:Int)<=1)/\((1:Int) < (2:Int))/\(I (ite ((w64 (n3+1)) > (ite ((w64 (n2+1)) > n) (w64 (n2+1)) n)) (w64 (n3+1)) (ite ((w64 (n2+1)) > n) (w64 (n2+1)) n)) (w64 (n1+1)) Z1)/\((μ (ite ((w64 (n3+1)) > (ite ((w64 (n2+1)) > n) (w64 (n2+1)) n)) (w64 (n3+1)) (ite ((w64 (n2+1)) > n) (w64 (n2+1)) n)) (w64 (n1+1)) Z1) < (μ n n1 Z1))) (Qp (.a (iA n)) Z1))
theorem a_ny (kind:Int)(σ:Store)(Qp:RV->Store->Prop)(h:a_mt kind σ Qp) :DCalls prog j_h [iA kind] σ Qp:=
 a_a mixed (by kernel_rfl) Tryz.func119 a_mb (Eq.mp (by kernel_rfl) h)
def v_r:Ann:= { esc:= [13],cbs:= [3],loops:= [(3,{ mods:= [(7,SlotSh.one (Sh.any)),(20,s6)],keep:= [1,2,3,18,19] }),(8,{ mods:= [(7,SlotSh.one (Sh.any)),(36,s6)],keep:= [1,2,3,9,18,19,20,35] })],joins:= [(11,{ keep:= [1,2,3,7,9,12,18,19,20,35,36] }),(14,{ keep:= [1,2,3,7,9,13,14,18,19,20,35,36] })] }
def x_i (p0 p1 p2 p3 p4:D)(p5 p6 p7 p8 approach:Int)(path:D)(σ:Store)(Qp:RV->Store->Prop) :Prop:=
 wL path fun len=>∃I:D->Int->Store->Prop,∃μ:D->Int->Store->Nat,(I .nils 0 σ)/\∀d:D,∀n:Int,∀Z,(I d n Z)->a_b (decide (n < (len:Int))) (wI prog Z path 3 n fun row=>∃n1 n2 n3:Int,((List.take 3 row) =([iD n1,iD n2,iD n3]:List D))/\DCalls prog b_0 [.agg [p0,p1,p2,p3,p4,iD p5,iD p6,iD p7,iD p8],iA n1] Z (fun r Z1=>∃n4 n5 n6:Int,∃b:Bool,(r=(.tup [.agg [iD n4,iD n5,iD n6],bA b]:RV))/\a_b (!b) ((I d (w64 (n+1)) Z1)/\((μ d (w64 (n+1)) Z1) < (μ d n Z))) (DCalls prog j_h [iA n4] Z1 (fun r1 Z2=>∃n7:Int,(r1=(.a (iA n7) :RV))/\∃I1:D->Int->Store->Prop,∃μ1:D->Int->Store->Nat,(I1 d 0 Z2)/\∀d1:D,∀n8:Int,∀Z3,(I1 d1 n8 Z3)->a_b (decide (n8 < n7)) (∀R:Store->Prop,(∀Z4,(DCalls prog d_4 [.one p1,iA n1,iA n8] Z4 (fun r2 Z5=>∃n9 n10:Int,∃b1:Bool,(r2=(.tup [iA n9,iA n10,bA b1]:RV))/\Fw.newObj Z5 (.live a_e [[iD 0]]) (fun id Z6=>a_k [iD n9] Z6 (.osl id 0 1) 0 0 (fun Z7=>∃row1:List D,(Row Z7 (.osl id 0 1) 0 row1)/\∃n11:Int,((List.take 1 row1) =([iD n11]:List D))/\DCalls prog b_0 [.agg [p0,p1,p2,p3,p4,iD p5,iD p6,iD p7,iD p8],iA n11] Z7 (fun r3 Z8=>∃n12 n13 n14:Int,∃b2:Bool,(r3=(.tup [.agg [iD n12,iD n13,iD n14],bA b2]:RV))/\∀R1:Store->Prop,(∀Z9,(∃row2:List D,(Row Z9 (.osl id 0 1) 0 row2)/\∃n15:Int,((List.take 1 row2) =([iD n15]:List D))/\Fw.newObj Z9 (.live c_e [[iD n15,iD (w64 (3 - n10))]]) (fun id1 Z10=>a_j prog Z10 c_e 16 d1 (.osl id1 0 1) (fun d2 Z11=>(([[iD n1,iD n2,iD n3]]:List (List D)) =([[iD n1,iD n2,iD n3]]:List (List D)))/\(I1 d2 (w64 (n8+1)) Z11)/\((μ1 d2 (w64 (n8+1)) Z11) < (μ1 d1 n8 Z3)))))->R1 Z9)->a_b (!b1) ((([[iD n1,iD n2,iD n3]]:List (List D)) =([[iD n1,iD n2,iD n3]]:List (List D)))/\(I1 d1 (w64 (n8+1)) Z8)/\((μ1 d1 (w64 (n8+1)) Z8) < (μ1 d1 n8 Z3))) (a_b (!b2) ((([[iD n1,iD n2,iD n3]]:List (List D)) =([[iD n1,iD n2,iD n3]]:List (List D)))/\(I1 d1 (w64 (n8+1)) Z8)/\((μ1 d1 (w64 (n8+1)) Z8) < (μ1 d1 n8 Z3))) (a_b (n12 != 1) ((([[iD n1,iD n2,iD n3]]:List (List D)) =([[iD n1,iD n2,iD n3]]:List (List D)))/\(I1 d1 (w64 (n8+1)) Z8)/\((μ1 d1 (w64 (n8+1)) Z8) < (μ1 d1 n8 Z3))) (a_b (decide (n10 < 1)) ((([[iD n1,iD n2,iD n3]]:List (List D)) =([[iD n1,iD n2,iD n3]]:List (List D)))/\(I1 d1 (w64 (n8+1)) Z8)/\((μ1 d1 (w64 (n8+1)) Z8) < (μ1 d1 n8 Z3))) (a_b (decide (n10 > 2)) ((([[iD n1,iD n2,iD n3]]:List (List D)) =([[iD n1,iD n2,iD n3]]:List (List D)))/\(I1 d1 (w64 (n8+1)) Z8)/\((μ1 d1 (w64 (n8+1)) Z8) < (μ1 d1 n8 Z3))) (∃row2:List D,(Row Z8 (.osl id 0 1) 0 row2)/\∃n15:Int,((List.take 1 row2) =([iD n15]:List D))/\a_b (n15 == approach) ((([[iD n1,iD n2,iD n3]]:List (List D)) =([[iD n1,iD n2,iD n3]]:List (List D)))/\(I1 d1 (w64 (n8+1)) Z8)/\((μ1 d1 (w64 (n8+1)) Z8) < (μ1 d1 n8 Z3))) (∃row3:List D,(Row Z8 (.osl id 0 1) 0 row3)/\∃n16:Int,((List.take 1 row3) =([iD n16]:List D))/\DCalls prog o_v [.one path,iA n16] Z8 (fun r4 Z9=>∃b3:Bool,(r4=(.a (bA b3) :RV))/\a_b b3 ((([[iD n1,iD n2,iD n3]]:List (List D)) =([[iD n1,iD n2,iD n3]]:List (List D)))/\(I1 d1 (w64 (n8+1)) Z9)/\((μ1 d1 (w64 (n8+1)) Z9) < (μ1 d1 n8 Z3))) (DCalls prog c_h [.one d1, .one (.fn g_m [] [(false,[.el (.osl id 0 1) 0 0])])] Z9 (fun r5 Z10=>∃b4:Bool,(r5=(.a (bA b4) :RV))/\a_b b4 ((([[iD n1,iD n2,iD n3]]:List (List D)) =([[iD n1,iD n2,iD n3]]:List (List D)))/\(I1 d1 (w64 (n8+1)) Z10)/\((μ1 d1 (w64 (n8+1)) Z10) < (μ1 d1 n8 Z3))) ((([[iD n1,iD n2,iD n3]]:List (List D)) =([[iD n1,iD n2,iD n3]]:List (List D)))/\R1 Z10)))))))))))))))->R Z4)->a_b (n8 == n2) ((([[iD n1,iD n2,iD n3]]:List (List D)) =([[iD n1,iD n2,iD n3]]:List (List D)))/\(I1 d1 (w64 (n8+1)) Z3)/\((μ1 d1 (w64 (n8+1)) Z3) < (μ1 d1 n8 Z3))) (a_b (n8 == n3) ((([[iD n1,iD n2,iD n3]]:List (List D)) =([[iD n1,iD n2,iD n3]]:List (List D)))/\(I1 d1 (w64 (n8+1)) Z3)/\((μ1 d1 (w64 (n8+1)) Z3) < (μ1 d1 n8 Z3))) ((([[iD n1,iD n2,iD n3]]:List (List D)) =([[iD n1,iD n2,iD n3]]:List (List D)))/\R Z3))) ((I d1 (w64 (n+1)) Z3)/\((μ d1 (w64 (n+1)) Z3) < (μ d n Z))))))) (Qp (.a (.one d)) Z)
theorem y_w (p0 p1 p2 p3 p4:D)(p5 p6 p7 p8 approach:Int)(path:D)(σ:Store)(Qp:RV->Store->Prop)(h:x_i p0 p1 p2 p3 p4 p5 p6 p7 p8 approach path σ Qp) :DCalls prog i_p [.agg [p0,p1,p2,p3,p4,iD p5,iD p6,iD p7,iD p8],iA approach, .one path] σ Qp:=
 a_a mixed (by kernel_rfl) Tryz.func123 v_r (Eq.mp (by kernel_rfl) h)
def w_w:Ann:= { }
def l_7 (x y:Int)(σ:Store)(Qp:RV->Store->Prop) :Prop:=
 Qp (.tup [.one (.int .u64 (IntKind.wrap .u64 ((IntKind.wrap .u64 ((IntKind.wrap .u64 ((Int.fdiv x (2 ^ 32)) * (Int.fdiv y (2 ^ 32)))) + (Int.fdiv (IntKind.wrap .u64 ((IntKind.wrap .u64 ((Int.fdiv x (2 ^ 32)) * (IntKind.wrap .u64 (BitVec.toNat ((BitVec.ofInt 64 y) &&& (BitVec.ofInt 64 4294967295)) :Int)))) + (Int.fdiv (IntKind.wrap .u64 ((IntKind.wrap .u64 (BitVec.toNat ((BitVec.ofInt 64 x) &&& (BitVec.ofInt 64 4294967295)) :Int)) * (IntKind.wrap .u64 (BitVec.toNat ((BitVec.ofInt 64 y) &&& (BitVec.ofInt 64 4294967295)) :Int)))) (2 ^ 32)))) (2 ^ 32)))) + (Int.fdiv (IntKind.wrap .u64 ((IntKind.wrap .u64 (BitVec.toNat ((BitVec.ofInt 64 (IntKind.wrap .u64 ((IntKind.wrap .u64 ((Int.fdiv x (2 ^ 32)) * (IntKind.wrap .u64 (BitVec.toNat ((BitVec.ofInt 64 y) &&& (BitVec.ofInt 64 4294967295)) :Int)))) + (Int.fdiv (IntKind.wrap .u64 ((IntKind.wrap .u64 (BitVec.toNat ((BitVec.ofInt 64 x) &&& (BitVec.ofInt 64 4294967295)) :Int)) * (IntKind.wrap .u64 (BitVec.toNat ((BitVec.ofInt 64 y) &&& (BitVec.ofInt 64 4294967295)) :Int)))) (2 ^ 32))))) &&& (BitVec.ofInt 64 4294967295)) :Int)) + (IntKind.wrap .u64 ((IntKind.wrap .u64 (BitVec.toNat ((BitVec.ofInt 64 x) &&& (BitVec.ofInt 64 4294967295)) :Int)) * (Int.fdiv y (2 ^ 32)))))) (2 ^ 32))))), .one (.int .u64 (IntKind.wrap .u64 (x * y)))]) σ
theorem x_j (x y:Int)(σ:Store)(Qp:RV->Store->Prop)(h:l_7 x y σ Qp) :DCalls prog i_i [.one (.int .u64 x), .one (.int .u64 y)] σ Qp:=
 a_a mixed (by kernel_rfl) Tryz.func128 w_w (Eq.mp (by kernel_rfl) h)
def s_h:Ann:= { }
def u_6 (r:D)(σ:Store)(Qp:RV->Store->Prop) :Prop:=
 DCalls prog d_d [.one r,iA 2] σ (fun r1 Z=>∃n:Int,(r1=(.a (iA n) :RV))/\Qp (.a (iA n)) Z)
theorem v_6 (r:D)(σ:Store)(Qp:RV->Store->Prop)(h:u_6 r σ Qp) :DCalls prog e_5 [.one r] σ Qp:=
 a_a mixed (by kernel_rfl) Tryz.func132 s_h (Eq.mp (by kernel_rfl) h)
def t_v:Ann:= { }
def w_k (r:D)(σ:Store)(Qp:RV->Store->Prop) :Prop:=
 wR r σ fun s i off row=>∃s1:ByteArray,((List.take 1 (List.drop (off+1) row)) =([.str s1]:List D))/\Qp (.a (iA (ByteArray.size s1:Int))) σ
theorem v_h (r:D)(σ:Store)(Qp:RV->Store->Prop)(h:w_k r σ Qp) :DCalls prog g_6 [.one r] σ Qp:=
 a_a mixed (by kernel_rfl) Tryz.func136 t_v (Eq.mp (by kernel_rfl) h)
def a_j2:Ann:= { }
def a_oi (kind:Int)(σ:Store)(Qp:RV->Store->Prop) :Prop:=
 a_b (kind == 0) (Fw.newObj σ (.live c_b [[iD 0,iD 1,iD 0]]) (fun id Z=>Qp (.a (.one (.osl id 0 1))) Z)) (a_b (kind == 1) (Fw.newObj σ (.live c_b [[iD 0,iD 1,iD 1],[iD 0,iD 2,iD 2]]) (fun id Z=>Qp (.a (.one (.osl id 0 2))) Z)) (a_b (kind == 2) (Fw.newObj σ (.live c_b [[iD 0,iD 1,iD 0],[iD 2,iD 3,iD 0]]) (fun id Z=>Qp (.a (.one (.osl id 0 2))) Z)) (Qp (.a (.one .nils)) σ)))
theorem a_nu (kind:Int)(σ:Store)(Qp:RV->Store->Prop)(h:a_oi kind σ Qp) :DCalls prog j_f [iA kind] σ Qp:=
 a_a mixed (by kernel_rfl) Tryz.func140 a_j2 (Eq.mp (by kernel_rfl) h)
def a_os:Ann:= { cbs:= [4],loops:= [(2,{ mods:= [(14,s6)],keep:= [1,2,3,12,13] })] }
def a_ql (c0 c1 c2 c3 c4:D)(c5 c6 c7 c8 section_ end_ but:Int)(σ:Store)(Qp:RV->Store->Prop) :Prop:=
 wL c2 fun len=>∃I:Int->Store->Prop,∃μ:Int->Store->Nat,(I 0 σ)/\∀n:Int,∀Z,(I n Z)->a_b (decide (n < (len:Int))) (wI prog Z c2 2 n fun row=>∃n1 n2:Int,((List.take 2 row) =([iD n1,iD n2]:List D))/\a_b (n1 == section_) (a_b (n2 == end_) (a_b (n != but) (Qp (.a (bA true)) Z) ((I (w64 (n+1)) Z)/\((μ (w64 (n+1)) Z) < (μ n Z)))) ((I (w64 (n+1)) Z)/\((μ (w64 (n+1)) Z) < (μ n Z)))) ((I (w64 (n+1)) Z)/\((μ (w64 (n+1)) Z) < (μ n Z)))) (Qp (.a (bA false)) Z)
theorem a_ra (c0 c1 c2 c3 c4:D)(c5 c6 c7 c8 section_ end_ but:Int)(σ:Store)(Qp:RV->Store->Prop)(h:a_ql c0 c1 c2 c3 c4 c5 c6 c7 c8 section_ end_ but σ Qp) :DCalls prog o_i [.agg [c0,c1,c2,c3,c4,iD c5,iD c6,iD c7,iD c8],iA section_,iA end_,iA but] σ Qp:=
 a_a mixed (by kernel_rfl) Tryz.func144 a_os (Eq.mp (by kernel_rfl) h)
def w_9:Ann:= { loops:= [(3,{ mods:= [(3,SlotSh.one (Sh.any)),(8,s6)],keep:= [6,7] })] }
def a_bc (path:D)(σ:Store)(Qp:RV->Store->Prop) :Prop:=
 wL path fun len=>∃I:D->Int->Store->Prop,∃μ:D->Int->Store->Nat,(I .nils 0 σ)/\∀d:D,∀n:Int,∀Z,(I d n Z)->a_b (decide (n < (len:Int))) (wI prog Z path 3 n fun row=>∃n1 n2 n3:Int,((List.take 3 row) =([iD n1,iD n2,iD n3]:List D))/\Fw.newObj Z (.live a_e [[iD n1]]) (fun id Z1=>a_j prog Z1 a_e 8 d (.osl id 0 1) (fun d1 Z2=>(I d1 (w64 (n+1)) Z2)/\((μ d1 (w64 (n+1)) Z2) < (μ d n Z))))) (Qp (.a (.one d)) Z)
theorem a_ai (path:D)(σ:Store)(Qp:RV->Store->Prop)(h:a_bc path σ Qp) :DCalls prog d_o [.one path] σ Qp:=
 a_a mixed (by kernel_rfl) Tryz.func148 w_9 (Eq.mp (by kernel_rfl) h)
def a_j6:Ann:= { loops:= [(2,{ mods:= [(13,s6)],keep:= [1,2,11,12] })] }
def a_pw (kind in_ pos:Int)(σ:Store)(Qp:RV->Store->Prop) :Prop:=
 DCalls prog i_o [iA kind] σ (fun r Z=>∃d:D,(r=(.a (.one d) :RV))/\wL d fun len=>∃I:Int->Store->Prop,∃μ:Int->Store->Nat,(I 0 Z)/\∀n:Int,∀Z1,(I n Z1)->a_b (decide (n < (len:Int))) (wI prog Z1 d 3 n fun row=>∃n1 n2 n3:Int,((List.take 3 row) =([iD n1,iD n2,iD n3]:List D))/\a_b (n3 != 0) (a_b (n3 != pos) ((I (w64 (n+1)) Z1)/\((μ (w64 (n+1)) Z1) < (μ n Z1))) (a_b (n1 == in_) (Qp (.tup [iA n2,bA true]) Z1) (a_b (n2 == in_) (Qp (.tup [iA n1,bA true]) Z1) ((I (w64 (n+1)) Z1)/\((μ (w64 (n+1)) Z1) < (μ n Z1)))))) (a_b (n1 == in_) (Qp (.tup [iA n2,bA true]) Z1) (a_b (n2 == in_) (Qp (.tup [iA n1,bA true]) Z1) ((I (w64 (n+1)) Z1)/\((μ (w64 (n+1)) Z1) < (μ n Z1)))))) (Qp (.tup [iA 0,bA false]) Z1))
theorem a_my (kind in_ pos:Int)(σ:Store)(Qp:RV->Store->Prop)(h:a_pw kind in_ pos σ Qp) :DCalls prog j_l [iA kind,iA in_,iA pos] σ Qp:=
 a_a mixed (by kernel_rfl) Tryz.func152 a_j6 (Eq.mp (by kernel_rfl) h)
def a_mw:Ann:= { esc:= [3] }
def a_qv (path:D)(section_:Int)(σ:Store)(Qp:RV->Store->Prop) :Prop:=
 Fw.newObj σ (.live a_e [[iD section_]]) (fun id Z=>DCalls prog d_y [.one path, .one (.fn y_i [] [(false,[.el (.osl id 0 1) 0 0])])] Z (fun r Z1=>∃b:Bool,(r=(.a (bA b) :RV))/\Qp (.a (bA b)) Z1))
theorem a_qo (path:D)(section_:Int)(σ:Store)(Qp:RV->Store->Prop)(h:a_qv path section_ σ Qp) :DCalls prog o_v [.one path,iA section_] σ Qp:=
 a_a mixed (by kernel_rfl) Tryz.func156 a_mw (Eq.mp (by kernel_rfl) h)
def a_la:Ann:= { joins:= [(3,{ keep:= [0,1] }),(8,{ mods:= [(46,SlotSh.one (Sh.bool))],keep:= [1,7,9] })],splits:= [(7,(DT.split 5 10 (DT.leaf { ord:= [0,1,2,3,6,7,8,9,4,5,10,11,12] }) (DT.leaf { ord:= [0,1,2,3,6,7,8,9,4,10,5,11,12],sp:= [4] })))] }
def a_pt (text:ByteArray)(at_:Int)(σ:Store)(Qp:RV->Store->Prop) :Prop:=
 ∀R:Store->Prop,(∀Z,(((0:Int)<=at_)/\(at_<=(ByteArray.size text:Int))/\DCalls prog o_g [.one (.str (ByteArray.extract text (Int.toNat at_) (ByteArray.size text)))] Z (fun r Z1=>∃n n1:Int,(r=(.tup [iA n,iA n1]:RV))/\a_b (n1 != 0) (Qp (.tup [.one (.str (ByteArray.mk (List.toArray []))),iA 0,iA n1]) Z1) (((0:Int)<=at_)/\(at_<=(w64 (at_+n)))/\((w64 (at_+n))<=(ByteArray.size text:Int))/\∀R1:Bool->Store->Prop,(∀b:Bool,∀Z2,(a_b b (Qp (.tup [.one (.str (ByteArray.mk (List.toArray []))),iA 0,iA 4]) Z2) (((0:Int)<=2)/\((2:Int)<=(w64 (n - 4)))/\((w64 (n - 4))<=(ByteArray.size (ByteArray.extract text (Int.toNat at_) (Int.toNat (w64 (at_+n)))) :Int))/\Qp (.tup [.one (.str (ByteArray.extract (ByteArray.extract text (Int.toNat at_) (Int.toNat (w64 (at_+n)))) 2 (Int.toNat (w64 (n - 4))))), .one (iD (w64 (at_+n))),iA 0]) Z2))->R1 b Z2)->(((0:Int)<=(w64 (n - 4)))/\((w64 (n - 4))<=(ByteArray.size (ByteArray.extract text (Int.toNat at_) (Int.toNat (w64 (at_+n)))) :Int))/\((0:Int)<=0)/\((0:Int)<=(w64 (n - 4)))/\((w64 (n - 4))<=(ByteArray.size (ByteArray.extract text (Int.toNat at_) (Int.toNat (w64 (at_+n)))) :Int))/\DCalls prog e_v [.one (.str (ByteArray.extract (ByteArray.extract text (Int.toNat at_) (Int.toNat (w64 (at_+n)))) (Int.toNat (w64 (n - 4))) (ByteArray.size (ByteArray.extract text (Int.toNat at_) (Int.toNat (w64 (at_+n)))))))] Z1 (fun r1 Z2=>∃d:D,(r1=(.a (.one d) :RV))/\DCalls prog d_u [.one d] Z2 (fun r2 Z3=>∃n2:Int,(r2=(.a (iA n2) :RV))/\Fw.newObj Z3 (.live q_v [[.str (ByteArray.extract (ByteArray.extract text (Int.toNat at_) (Int.toNat (w64 (at_+n)))) 0 (Int.toNat (w64 (n - 4))))]]) (fun id Z4=>DCalls prog l_m [.one (.osl id 0 1)] Z4 (fun r3 Z5=>∃n3:Int,(r3=(.a (iA n3) :RV))/\R1 (n2 != n3) Z5)))))/\∃pre:List A->Store->Prop,∃post:List A->Store->RV->Store->Prop,(b_7 prog e_v pre post)/\((0:Int)<=(w64 (n - 4)))/\((w64 (n - 4))<=(ByteArray.size (ByteArray.extract text (Int.toNat at_) (Int.toNat (w64 (at_+n)))) :Int))/\((0:Int)<=0)/\((0:Int)<=(w64 (n - 4)))/\((w64 (n - 4))<=(ByteArray.size (ByteArray.extract text (Int.toNat at_) (Int.toNat (w64 (at_+n)))) :Int))/\(pre [.one (.str (ByteArray.extract (ByteArray.extract text (Int.toNat at_) (Int.toNat (w64 (at_+n)))) (Int.toNat (w64 (n - 4))) (ByteArray.size (ByteArray.extract text (Int.toNat at_) (Int.toNat (w64 (at_+n)))))))] Z1)/\∀r1:RV,∀s:Store,(post [.one (.str (ByteArray.extract (ByteArray.extract text (Int.toNat at_) (Int.toNat (w64 (at_+n)))) (Int.toNat (w64 (n - 4))) (ByteArray.size (ByteArray.extract text (Int.toNat at_) (Int.toNat (w64 (at_+n)))))))] Z1 r1 s)->∃d:D,(r1=(.a (.one d) :RV))/\Fw.newObj s (.live q_v [[.str (ByteArray.extract (ByteArray.extract text (Int.toNat at_) (Int.toNat (w64 (at_+n)))) 0 (Int.toNat (w64 (n - 4))))]]) (fun id Z2=>DCalls prog d_u [.one d] Z2 (fun r2 Z3=>∃n2:Int,(r2=(.a (iA n2) :RV))/\DCalls prog l_m [.one (.osl id 0 1)] Z3 (fun r3 Z4=>∃n3:Int,(r3=(.a (iA n3) :RV))/\R1 (n2 != n3) Z4))))))->R Z)->a_b (decide (at_ < 0)) (Qp (.tup [.one (.str (ByteArray.mk (List.toArray []))),iA 0,iA 20]) σ) (a_b (decide (at_ > (ByteArray.size text:Int))) (Qp (.tup [.one (.str (ByteArray.mk (List.toArray []))),iA 0,iA 20]) σ) (R σ))
theorem a_oj (text:ByteArray)(at_:Int)(σ:Store)(Qp:RV->Store->Prop)(h:a_pt text at_ σ Qp) :DCalls prog q_9 [.one (.str text),iA at_] σ Qp:=
 a_a mixed (by kernel_rfl) Tryz.func160 a_la (Eq.mp (by kernel_rfl) h)
def r_f:Ann:= { }
def s_i (t:D)(σ:Store)(Qp:RV->Store->Prop) :Prop:=
 wR t σ fun s i off row=>∃n:Int,((List.take 1 (List.drop (off+0) row)) =([iD n]:List D))/\Qp (.a (bA (n == 0))) σ
theorem t_b (t:D)(σ:Store)(Qp:RV->Store->Prop)(h:s_i t σ Qp) :DCalls prog c_p [.one t] σ Qp:=
 a_a mixed (by kernel_rfl) Tryz.func164 r_f (Eq.mp (by kernel_rfl) h)
def a_hc:Ann:= { draws:= [(4,{ ord:= [0,1,2,3,4,5,6,7,8] })] }
def a_mn (text:ByteArray)(σ:Store)(Qp:RV->Store->Prop) :Prop:=
 DCalls prog o_0 [.one (.str text),iA 0] σ (fun r Z=>∃s:ByteArray,∃n n1:Int,(r=(.tup [.one (.str s),iA n,iA n1]:RV))/\a_b (n1 == 1) (Qp (.tup [.one (.str (ByteArray.mk (List.toArray []))),iA n1]) Z) (a_b (n1 == 2) (Qp (.tup [.one (.str (ByteArray.mk (List.toArray []))),iA n1]) Z) (∃n2:Int,(r_k text 0 n2)/\∃n3:Int,(r_k text 1 n3)/\a_b (decide ((ByteArray.size text:Int) > (w64 ((w64 ((w64 ((w64 n2) * 256)) + (w64 n3))) +6)))) (Qp (.tup [.one (.str (ByteArray.mk (List.toArray []))),iA 3]) Z) (a_b (n1 != 0) (Qp (.tup [.one (.str (ByteArray.mk (List.toArray []))),iA n1]) Z) (a_b (n !=(ByteArray.size text:Int)) (Qp (.tup [.one (.str (ByteArray.mk (List.toArray []))),iA n1]) Z) (Qp (.tup [.one (.str s),iA 0]) Z))))))
theorem a_kq (text:ByteArray)(σ:Store)(Qp:RV->Store->Prop)(h:a_mn text σ Qp) :DCalls prog o_6 [.one (.str text)] σ Qp:=
 a_a mixed (by kernel_rfl) Tryz.func168 a_hc (Eq.mp (by kernel_rfl) h)
def m_t:Ann:= { loops:= [(2,{ mods:= [(8,s6)],keep:= [0,1,7] })] }
def n_1 (s f:D)(σ:Store)(Qp:RV->Store->Prop) :Prop:=
 wL s fun len=>∃I:Int->Store->Prop,∃μ:Int->Store->Nat,(I 0 σ)/\∀n:Int,∀Z,(I n Z)->a_b (decide (n < (len:Int))) (wI prog Z s 2 n fun row=>∃n1 n2:Int,((List.take 2 row) =([iD n1,iD n2]:List D))/\∃f1:FuncId,∃a:List (Bool × (List D)),∃b:List (Bool × (List D)),∃as0':List A,∃bs:List A,(f=(.fn f1 a b:D))/\((c_7 a) =(Option.some as0'))/\((c_7 b) =(Option.some bs))/\DCalls prog f1 (HAppend.hAppend (HAppend.hAppend as0' [.agg [iD n1,iD n2]]) bs) Z (fun r Z1=>∃b1:Bool,(r=(.a (bA b1) :RV))/\a_b b1 (Qp (.a (iA n)) Z1) ((I (w64 (n+1)) Z1)/\((μ (w64 (n+1)) Z1) < (μ n Z))))) (Qp (.a (iA (-1))) Z)
theorem n_e (s f:D)(σ:Store)(Qp:RV->Store->Prop)(h:n_1 s f σ Qp) :DCalls prog e_s [.one s, .one f] σ Qp:=
 a_a mixed (by kernel_rfl) Tryz.func172 m_t (Eq.mp (by kernel_rfl) h)
def m_7:Ann:= { loops:= [(2,{ mods:= [(8,s6)],keep:= [0,1,7] })] }
def n_0 (s f:D)(σ:Store)(Qp:RV->Store->Prop) :Prop:=
 wL s fun len=>∃I:Int->Store->Prop,∃μ:Int->Store->Nat,(I 0 σ)/\∀n:Int,∀Z,(I n Z)->a_b (decide (n < (len:Int))) (wI prog Z s 3 n fun row=>∃n1 n2 n3:Int,((List.take 3 row) =([iD n1,iD n2,iD n3]:List D))/\∃f1:FuncId,∃a:List (Bool × (List D)),∃b:List (Bool × (List D)),∃as0':List A,∃bs:List A,(f=(.fn f1 a b:D))/\((c_7 a) =(Option.some as0'))/\((c_7 b) =(Option.some bs))/\DCalls prog f1 (HAppend.hAppend (HAppend.hAppend as0' [.agg [iD n1,iD n2,iD n3]]) bs) Z (fun r Z1=>∃b1:Bool,(r=(.a (bA b1) :RV))/\a_b b1 (Qp (.a (iA n)) Z1) ((I (w64 (n+1)) Z1)/\((μ (w64 (n+1)) Z1) < (μ n Z))))) (Qp (.a (iA (-1))) Z)
theorem n_y (s f:D)(σ:Store)(Qp:RV->Store->Prop)(h:n_0 s f σ Qp) :DCalls prog e_p [.one s, .one f] σ Qp:=
 a_a mixed (by kernel_rfl) Tryz.func176 m_7 (Eq.mp (by kernel_rfl) h)
end Go.Proofs.YtaklhjodjbgmgaaGreat
end
section
set_option maxRecDepth 100000
namespace Go.Proofs.YtaklhjodjbgmgaaGreat
open Go.Fw Go.Proofs
open Go.Proofs.Tryz (prog)
def a_d0:Ann:= { joins:= [(4,{ keep:= [1] }),(8,{ keep:= [1] })],frz:= [8,10] }
def a_hy (σ:Store)(Qp:RV->Store->Prop) :Prop:=
 DCalls prog p_i [] σ (fun r Z=>∃d d1 d2 d3 d4:D,∃n n1 n2 n3:Int,(r=(.a (.agg [d,d1,d2,d3,d4,iD n,iD n1,iD n2,iD n3]) :RV))/\DCalls prog o_c [.agg [d,d1,d2,d3,d4,iD n,iD n1,iD n2,iD n3], .one (.sl 2 [[.sl 1 [[iD 0]],iD 1]])] Z (fun r1 Z1=>∃d5:D,∃n4:Int,(r1=(.tup [.one d5,iA n4]:RV))/\∀R:Store->Prop,(∀Z2,(DCalls prog f_8 [.one d5,iA 5] Z2 (fun r2 Z3=>(r2=(.tup []:RV))/\DCalls prog k_i [iA 50,iA 1,iA 5, .one (.str (ByteArray.mk (List.toArray [2,0,2,0])))] Z3 (fun r3 Z4=>∃s:ByteArray,∃n5:Int,(r3=(.tup [.one (.str s),iA n5]:RV))/\∀R1:Store->Prop,(∀Z5,(DCalls prog g_a [.one d5] Z5 (fun r4 Z6=>(r4=(.tup []:RV))/\DCalls prog e_r [.one d5,iA 0] Z6 (fun r5 Z7=>∃n6:Int,(r5=(.a (iA n6) :RV))/\a_b (n6 != 0) (Qp (.a (bA false)) Z7) (DCalls prog e_7 [.one d5] Z7 (fun r6 Z8=>∃d6:D,(r6=(.a (.one d6) :RV))/\wL d6 fun len=>a_b ((len:Int) == 1) (wI prog Z8 d6 2 0 fun row=>∃d7:D,((List.take 1 row) =([d7]:List D))/\wL d7 fun len2=>a_b ((len2:Int) == 2) (wI prog Z8 d6 2 0 fun row1=>∃d8:D,((List.take 1 row1) =([d8]:List D))/\wI prog Z8 d8 1 0 fun row2=>∃n7:Int,((List.take 1 row2) =([iD n7]:List D))/\a_b (n7 == 1) (wI prog Z8 d6 2 0 fun row3=>∃n8:Int,((List.take 1 (List.drop 1 row3)) =([iD n8]:List D))/\a_b (n8 == 1) (DCalls prog e_o [.one d5] Z8 (fun r7 Z9=>∃d9:D,(r7=(.a (.one d9) :RV))/\wL d9 fun len6=>Qp (.a (.one (.bool ((len6:Int) == 0)))) Z9)) (Qp (.a (bA false)) Z8)) (Qp (.a (bA false)) Z8)) (Qp (.a (bA false)) Z8)) (Qp (.a (bA false)) Z8))))))->R1 Z5)->DCalls prog f_5 [.one d5,iA 0, .one (.str s)] Z4 (fun r4 Z5=>∃n6:Int,(r4=(.a (iA n6) :RV))/\a_b (n6 != 0) (Qp (.a (bA false)) Z5) (DCalls prog e_b [.one d5,iA 0] Z5 (fun r5 Z6=>∃n7:Int,(r5=(.a (iA n7) :RV))/\a_b (n7 != 2) (Qp (.a (bA false)) Z6) (R1 Z6)))))))->R Z2)->∃b:Bool,(h_s .pt d5 b)/\a_b (b != false) (Qp (.a (bA false)) Z1) (a_b (n4 != 0) (Qp (.a (bA false)) Z1) (DCalls prog e_r [.one d5,iA 0] Z1 (fun r2 Z2=>∃n5:Int,(r2=(.a (iA n5) :RV))/\a_b (n5 != 29) (Qp (.a (bA false)) Z2) (R Z2))))))
theorem a_gx (σ:Store)(Qp:RV->Store->Prop)(h:a_hy σ Qp) :DCalls prog m_0 [] σ Qp:=
 a_a mixed (by kernel_rfl) Tryz.func8 a_d0 (Eq.mp (by kernel_rfl) h)
def a_hm:Ann:= { }
def a_j1 (peer number stamp:Int)(payload:ByteArray)(σ:Store)(Qp:RV->Store->Prop) :Prop:=
 DCalls prog q_0 [iA 7] σ (fun r Z=>∃d:D,(r=(.a (.one d) :RV))/\DCalls prog d_t [.one d,iA peer,iA 1] Z (fun r1 Z1=>(r1=(.tup []:RV))/\DCalls prog d_t [.one d,iA number,iA 2] Z1 (fun r2 Z2=>(r2=(.tup []:RV))/\DCalls prog d_t [.one d,iA stamp,iA 4] Z2 (fun r3 Z3=>(r3=(.tup []:RV))/\DCalls prog g_n [.one d] Z3 (fun r4 Z4=>∃s:ByteArray,∃n:Int,(r4=(.tup [.one (.str s),iA n]:RV))/\a_b (n != 0) (Qp (.tup [.one (.str (ByteArray.mk (List.toArray []))),iA n]) Z4) (a_b (decide ((ByteArray.size payload:Int) > 1000)) (Qp (.tup [.one (.str (ByteArray.mk (List.toArray []))),iA 2]) Z4) ((((ByteArray.size s:Int) + (ByteArray.size payload:Int))<=9223372036854775807)/\DCalls prog k_j [.one (.str (ByteArray.mk (Array.mk (HAppend.hAppend (Array.toList (ByteArray.data s)) (Array.toList (ByteArray.data payload))))))] Z4 (fun r5 Z5=>∃s1:ByteArray,∃n1:Int,(r5=(.tup [.one (.str s1),iA n1]:RV))/\Qp (.tup [.one (.str s1),iA n1]) Z5))))))))
theorem a_kt (peer number stamp:Int)(payload:ByteArray)(σ:Store)(Qp:RV->Store->Prop)(h:a_j1 peer number stamp payload σ Qp) :DCalls prog k_i [iA peer,iA number,iA stamp, .one (.str payload)] σ Qp:=
 a_a mixed (by kernel_rfl) Tryz.func12 a_hm (Eq.mp (by kernel_rfl) h)
def v_u:Ann:= { draws:= [(3,{ ord:= [0,1,2,3,4,5,6,7,8,9,10,11,12,13,14,15,16,17,18,19,20,21,22,23] }),(4,{ ord:= [0,1,2,3,4,5,6,7,8,9,10,11,12,13,14,15,16,17,18,19,20,21,22] })],joins:= [(3,{ keep:= [0,1] })] }
def x_v (y:D)(x:Int)(σ:Store)(Qp:RV->Store->Prop) :Prop:=
 ∀R:Store->Prop,(∀Z,(wR y Z fun s i off row=>∃d:D,((List.take 1 (List.drop (off+13) row)) =([d]:List D))/\wR y Z fun s1 i1 off1 row1=>∃d1:D,((List.take 1 (List.drop ((off1+1) +0) row1)) =([d1]:List D))/\wR y Z fun s2 i2 off2 row2=>∃d2:D,((List.take 1 (List.drop ((off2+1) +2) row2)) =([d2]:List D))/\wI prog Z d2 2 x fun row3=>∃n:Int,((List.take 1 row3) =([iD n]:List D))/\wI prog Z d1 3 n fun row4=>∃n1:Int,((List.take 1 (List.drop 1 row4)) =([iD n1]:List D))/\wI prog Z d 1 n1 fun row5=>∃d3:D,((List.take 1 row5) =([d3]:List D))/\wR d3 Z fun s3 i3 off3 row6=>∃n2:Int,((List.take 1 (List.drop (off3+5) row6)) =([iD n2]:List D))/\a_b (decide (n2 < 0)) (Qp (.a (iA 0)) Z) (wR y Z fun s4 i4 off4 row7=>∃n3:Int,((List.take 1 (List.drop (off4+15) row7)) =([iD n3]:List D))/\wR d3 Z fun s5 i5 off5 row8=>∃n4:Int,((List.take 1 (List.drop (off5+5) row8)) =([iD n4]:List D))/\wR y Z fun s6 i6 off6 row9=>∃n5:Int,((List.take 1 (List.drop (((off6+1) +5) +0) row9)) =([iD n5]:List D))/\a_b (decide ((w64 (n3 - n4)) > n5)) (Qp (.a (iA 0)) Z) (wR y Z fun s7 i7 off7 row10=>∃d4:D,((List.take 1 (List.drop (off7+12) row10)) =([d4]:List D))/\wI prog Z d4 2 x fun row11=>∃n6:Int,((List.take 1 row11) =([iD n6]:List D))/\Qp (.a (iA n6)) Z)))->R Z)->a_b (decide (x < 0)) (Qp (.a (iA 0)) σ) (wR y σ fun s i off row=>∃d:D,((List.take 1 (List.drop (off+12) row)) =([d]:List D))/\wL d fun len=>a_b (decide (x>=(len:Int))) (Qp (.a (iA 0)) σ) (R σ))
theorem x_z (y:D)(x:Int)(σ:Store)(Qp:RV->Store->Prop)(h:x_v y x σ Qp) :DCalls prog e_b [.one y,iA x] σ Qp:=
 a_a mixed (by kernel_rfl) Tryz.func16 v_u (Eq.mp (by kernel_rfl) h)
def x_o:Ann:= { draws:= [(6,{ ord:= [0,1,2,3,4,5,6,7,8,9,10,11,12,13,14] })] }
def a_a4 (y:D)(t:Int)(σ:Store)(Qp:RV->Store->Prop) :Prop:=
 DCalls prog c_k [.one y,iA t] σ (fun r Z=>∃d:D,(r=(.a (.one d) :RV))/\∃b:Bool,(h_s .pt d b)/\a_b (b != false) (Qp (.a (iA 30)) Z) (wR d Z fun s i off row=>∃d1:D,((List.take 1 (List.drop (off+0) row)) =([d1]:List D))/\wL d1 fun len=>a_b ((len:Int) == 1) (Qp (.a (iA 29)) Z) (wR d Z fun s1 i1 off1 row1=>∃d2:D,((List.take 1 (List.drop (off1+0) row1)) =([d2]:List D))/\wR d Z fun s2 i2 off2 row2=>∃d3:D,((List.take 1 (List.drop (off2+0) row2)) =([d3]:List D))/\wL d3 fun len1=>∃len2:Nat,(IdxN prog Z d2 1 len2)/\((0:Int)<=0)/\((0:Int)<=(w64 ((len1:Int) - 1)))/\((w64 ((len1:Int) - 1))<=(len2:Int))/\(a_u d)/\∃s3:D,∃i3 off3:Nat,(d=(.el s3 i3 off3:D))/\a_k [h_u d2 0 (Int.toNat (w64 ((len1:Int) - 1)))] Z s3 i3 (off3+0) (fun Z1=>Qp (.a (iA 0)) Z1))))
theorem z_z (y:D)(t:Int)(σ:Store)(Qp:RV->Store->Prop)(h:a_a4 y t σ Qp) :DCalls prog i_s [.one y,iA t] σ Qp:=
 a_a mixed (by kernel_rfl) Tryz.func20 x_o (Eq.mp (by kernel_rfl) h)
def a_ib:Ann:= { cbs:= [5],draws:= [(6,{ ord:= [0,1,2,3,4,6,7,8,9,10,5,11,12,13],nb:= [8,10] }),(11,{ ord:= [0,1,2,3,4,5,6,8,9,10,11,12,13,14,7,15,16,17],nb:= [10,12,14] }),(13,{ ord:= [0,1,2,4,5,6,3,7,8,9],nb:= [6] }),(15,{ ord:= [0,1,2,4,5,6,3,7,8,9],nb:= [6] }),(17,{ ord:= [0,1,2,4,5,6,3,7,8,9],nb:= [6] }),(19,{ ord:= [0,1,2,4,5,6,3,7,8,9],nb:= [6] }),(21,{ ord:= [0,1,2,4,5,6,3,7,8,9],nb:= [6] })] }
def a_l3 (y m:D)(o0 o1 o2:Int)(o3:Bool)(o4:ByteArray)(σ:Store)(Qp:RV->Store->Prop) :Prop:=
 a_b (o0 == 1) (DCalls prog f_8 [.one y,iA o1] σ (fun r Z=>(r=(.tup []:RV))/\DCalls prog i_e [.one m,iA o1] Z (fun r1 Z1=>(r1=(.tup []:RV))/\Qp (.a (bA true)) Z1))) (a_b (o0 == 2) (DCalls prog f_5 [.one y,iA o1, .one (.str o4)] σ (fun r Z=>∃n:Int,(r=(.a (iA n) :RV))/\DCalls prog i_d [.one m,iA o1, .one (.str o4)] Z (fun r1 Z1=>∃n1:Int,(r1=(.a (iA n1) :RV))/\Qp (.a (bA (n == n1))) Z1))) (a_b (o0 == 3) (DCalls prog g_a [.one y] σ (fun r Z=>(r=(.tup []:RV))/\DCalls prog h_x [.one m] Z (fun r1 Z1=>(r1=(.tup []:RV))/\Qp (.a (bA true)) Z1))) (a_b (o0 == 4) (DCalls prog h_y [.one y,iA o2,iA o1,bA o3] σ (fun r Z=>∃n:Int,(r=(.a (iA n) :RV))/\DCalls prog g_3 [.one m,iA o2,iA o1,bA o3] Z (fun r1 Z1=>∃n1:Int,(r1=(.a (iA n1) :RV))/\Qp (.a (bA (n == n1))) Z1))) (a_b (o0 == 5) (DCalls prog e_r [.one y,iA o1] σ (fun r Z=>∃n:Int,(r=(.a (iA n) :RV))/\DCalls prog i_a [.one m,iA o1] Z (fun r1 Z1=>∃n1:Int,(r1=(.a (iA n1) :RV))/\Qp (.a (bA (n == n1))) Z1))) (a_b (o0 == 6) (DCalls prog i_s [.one y,iA o1] σ (fun r Z=>∃n:Int,(r=(.a (iA n) :RV))/\DCalls prog h_w [.one m,iA o1] Z (fun r1 Z1=>∃n1:Int,(r1=(.a (iA n1) :RV))/\Qp (.a (bA (n == n1))) Z1))) (a_b (o0 == 7) (DCalls prog i_0 [.one y,iA o1] σ (fun r Z=>∃n:Int,(r=(.a (iA n) :RV))/\DCalls prog h_4 [.one m,iA o1] Z (fun r1 Z1=>∃n1:Int,(r1=(.a (iA n1) :RV))/\Qp (.a (bA (n == n1))) Z1))) (a_b (o0 == 8) (DCalls prog h_8 [.one y,iA o1] σ (fun r Z=>∃n:Int,(r=(.a (iA n) :RV))/\DCalls prog h_g [.one m,iA o1] Z (fun r1 Z1=>∃n1:Int,(r1=(.a (iA n1) :RV))/\Qp (.a (bA (n == n1))) Z1))) (a_b (o0 == 9) (DCalls prog h_1 [.one y,iA o1] σ (fun r Z=>∃n:Int,(r=(.a (iA n) :RV))/\DCalls prog g_9 [.one m,iA o1] Z (fun r1 Z1=>∃n1:Int,(r1=(.a (iA n1) :RV))/\Qp (.a (bA (n == n1))) Z1))) (Qp (.a (bA true)) σ)))))))))
theorem a_mi (y m:D)(o0 o1 o2:Int)(o3:Bool)(o4:ByteArray)(σ:Store)(Qp:RV->Store->Prop)(h:a_l3 y m o0 o1 o2 o3 o4 σ Qp) :DCalls prog o_k [.one y, .one m, .agg [iD o0,iD o1,iD o2, .bool o3, .str o4]] σ Qp:=
 a_a mixed (by kernel_rfl) Tryz.func24 a_ib (Eq.mp (by kernel_rfl) h)
def a_gv:Ann:= { cbs:= [1],loops:= [(11,{ mods:= [(33,s6)],keep:= [1,3,31,32] })] }
def a_ku (c0 c1 c2 c3 c4:D)(c5 c6 c7 c8:Int)(σ:Store)(Qp:RV->Store->Prop) :Prop:=
 DCalls prog o_y [.one c0, .one c1] σ (fun r Z=>∃n:Int,(r=(.a (iA n) :RV))/\a_b (n != 0) (Qp (.a (iA 6)) Z) (DCalls prog g_g [.agg [c0,c1,c2,c3,c4,iD c5,iD c6,iD c7,iD c8]] Z (fun r1 Z1=>∃b:Bool,(r1=(.a (bA b) :RV))/\a_b (!b) (Qp (.a (iA 7)) Z1) (DCalls prog f_i [.agg [c0,c1,c2,c3,c4,iD c5,iD c6,iD c7,iD c8]] Z1 (fun r2 Z2=>∃b1:Bool,(r2=(.a (bA b1) :RV))/\a_b (!b1) (Qp (.a (iA 8)) Z2) (wL c4 fun len=>a_b (decide ((len:Int) > 12)) (Qp (.a (iA 9)) Z2) (wL c4 fun len1=>∃I:Int->Store->Prop,∃μ:Int->Store->Nat,(I 0 Z2)/\∀n1:Int,∀Z3,(I n1 Z3)->a_b (decide (n1 < (len1:Int))) (wI prog Z3 c4 6 n1 fun row=>∃n2 n3:Int,∃d d1 d2:D,∃b2:Bool,((List.take 6 row) =([iD n2,iD n3,d,d1,d2, .bool b2]:List D))/\DCalls prog h_z [.agg [c0,c1,c2,c3,c4,iD c5,iD c6,iD c7,iD c8], .agg [iD n2,iD n3,d,d1,d2, .bool b2]] Z3 (fun r3 Z4=>∃n4:Int,(r3=(.a (iA n4) :RV))/\a_b (n4 != 0) (Qp (.a (iA n4)) Z4) ((([[c0,c1,c2,c3,c4,iD c5,iD c6,iD c7,iD c8]]:List (List D)) =([[c0,c1,c2,c3,c4,iD c5,iD c6,iD c7,iD c8]]:List (List D)))/\(I (w64 (n1+1)) Z4)/\((μ (w64 (n1+1)) Z4) < (μ n1 Z3))))) (DCalls prog c_4 [iA c5,iA 1,iA 8] Z3 (fun r3 Z4=>∃b2:Bool,(r3=(.a (bA b2) :RV))/\a_b (!b2) (Qp (.a (iA 12)) Z4) (DCalls prog c_4 [iA c6,iA 0,iA 8] Z4 (fun r4 Z5=>∃b3:Bool,(r4=(.a (bA b3) :RV))/\a_b (!b3) (Qp (.a (iA 12)) Z5) (DCalls prog c_4 [iA c7, .one (iD (w64 ((w64 (c5+c6)) +1))),iA 40] Z5 (fun r5 Z6=>∃b4:Bool,(r5=(.a (bA b4) :RV))/\a_b (!b4) (Qp (.a (iA 12)) Z6) (DCalls prog c_4 [iA c8,iA 1,iA 1000000] Z6 (fun r6 Z7=>∃b5:Bool,(r6=(.a (bA b5) :RV))/\a_b (!b5) (Qp (.a (iA 12)) Z7) (Qp (.a (iA 0)) Z7))))))))))))))))
theorem a_lu (c0 c1 c2 c3 c4:D)(c5 c6 c7 c8:Int)(σ:Store)(Qp:RV->Store->Prop)(h:a_ku c0 c1 c2 c3 c4 c5 c6 c7 c8 σ Qp) :DCalls prog o_m [.agg [c0,c1,c2,c3,c4,iD c5,iD c6,iD c7,iD c8]] σ Qp:=
 a_a mixed (by kernel_rfl) Tryz.func28 a_gv (Eq.mp (by kernel_rfl) h)
def t_r:Ann:= { }
def u_g (s:D)(σ:Store)(Qp:RV->Store->Prop) :Prop:=
 ∃b:Bool,(h_s .sl s b)/\a_b (b != false) (Qp (.a (.one .nils)) σ) (Fw.newObj σ (.live a_e []) (fun id Z=>a_j prog Z a_e 8 (.osl id 0 0) s (fun d Z1=>Qp (.a (.one d)) Z1)))
theorem l_h (s:D)(σ:Store)(Qp:RV->Store->Prop)(h:u_g s σ Qp) :DCalls prog b_l [.one s] σ Qp:=
 a_a mixed (by kernel_rfl) Tryz.func32 t_r (Eq.mp (by kernel_rfl) h)
def t_t:Ann:= { esc:= [9] }
def w_h (peer age:Int)(σ:Store)(Qp:RV->Store->Prop) :Prop:=
 Fw.newObj σ (.live b_o [[iD (-1),iD 0,iD 0,iD peer,iD age]]) (fun id Z=>Qp (.a (.one (.el (.osl id 0 1) 0 0))) Z)
theorem u_x (peer age:Int)(σ:Store)(Qp:RV->Store->Prop)(h:w_h peer age σ Qp) :DCalls prog e_6 [iA peer,iA age] σ Qp:=
 a_a mixed (by kernel_rfl) Tryz.func36 t_t (Eq.mp (by kernel_rfl) h)
def a_dr:Ann:= { loops:= [(3,{ mods:= [(5,SlotSh.one (Sh.any)),(15,s6)],keep:= [13,14] }),(6,{ mods:= [(5,SlotSh.one (Sh.any)),(21,s6)],keep:= [13,14,15,19,20] })] }
def a_ie (kind:Int)(lists:D)(σ:Store)(Qp:RV->Store->Prop) :Prop:=
 Fw.newObj σ (.live c_t [[.int .u8 (IntKind.wrap .u8 kind)]]) (fun id Z=>wL lists fun len=>∃I:D->Int->Store->Prop,∃μ:D->Int->Store->Nat,(I (.osl id 0 1) 0 Z)/\∀d:D,∀n:Int,∀Z1,(I d n Z1)->a_b (decide (n < (len:Int))) (wI prog Z1 lists 1 n fun row=>∃d1:D,((List.take 1 row) =([d1]:List D))/\wL d1 fun len2=>∃I1:D->Int->Store->Prop,∃μ1:D->Int->Store->Nat,(I1 d 0 Z1)/\∀d2:D,∀n1:Int,∀Z2,(I1 d2 n1 Z2)->a_b (decide (n1 < (len2:Int))) (wI prog Z2 d1 1 n1 fun row1=>∃n2:Int,((List.take 1 row1) =([iD n2]:List D))/\Fw.newObj Z2 (.live c_t [[.int .u8 (IntKind.wrap .u8 n2)]]) (fun id1 Z3=>a_j prog Z3 c_t 1 d2 (.osl id1 0 1) (fun d3 Z4=>(I1 d3 (w64 (n1+1)) Z4)/\((μ1 d3 (w64 (n1+1)) Z4) < (μ1 d2 n1 Z2))))) ((I d2 (w64 (n+1)) Z2)/\((μ d2 (w64 (n+1)) Z2) < (μ d n Z1)))) (∃b:ByteArray,(Fw.Rows prog Z1 c_t d (c_3 b))/\Qp (.a (.one (.str b))) Z1))
theorem a_io (kind:Int)(lists:D)(σ:Store)(Qp:RV->Store->Prop)(h:a_ie kind lists σ Qp) :DCalls prog m_x [iA kind, .one lists] σ Qp:=
 a_a mixed (by kernel_rfl) Tryz.func40 a_dr (Eq.mp (by kernel_rfl) h)
def a_hd:Ann:= { }
def a_l7 (body:ByteArray)(σ:Store)(Qp:RV->Store->Prop) :Prop:=
 a_b (decide ((ByteArray.size body:Int) > 1024)) (Qp (.tup [.one (.str (ByteArray.mk (List.toArray []))),iA 2]) σ) (DCalls prog j_g [iA (ByteArray.size body:Int),iA 2] σ (fun r Z=>∃s:ByteArray,(r=(.a (.one (.str s)) :RV))/\(((ByteArray.size s:Int) + (ByteArray.size body:Int))<=9223372036854775807)/\DCalls prog q_y [.one (.str (ByteArray.mk (Array.mk (HAppend.hAppend (Array.toList (ByteArray.data s)) (Array.toList (ByteArray.data body))))))] Z (fun r1 Z1=>∃n:Int,(r1=(.a (iA n) :RV))/\DCalls prog j_g [iA n,iA 4] Z1 (fun r2 Z2=>∃s1:ByteArray,(r2=(.a (.one (.str s1)) :RV))/\(((ByteArray.size (ByteArray.mk (Array.mk (HAppend.hAppend (Array.toList (ByteArray.data s)) (Array.toList (ByteArray.data body))))) :Int) + (ByteArray.size s1:Int))<=9223372036854775807)/\Qp (.tup [.one (.str (ByteArray.mk (Array.mk (HAppend.hAppend (Array.toList (ByteArray.data (ByteArray.append s body))) (Array.toList (ByteArray.data s1)))))),iA 0]) Z2))))
theorem a_kz (body:ByteArray)(σ:Store)(Qp:RV->Store->Prop)(h:a_l7 body σ Qp) :DCalls prog k_j [.one (.str body)] σ Qp:=
 a_a mixed (by kernel_rfl) Tryz.func44 a_hd (Eq.mp (by kernel_rfl) h)
def u_r:Ann:= { esc:= [6],cbs:= [2] }
def x_x (h0 h1 h2 h3:D)(text:ByteArray)(σ:Store)(Qp:RV->Store->Prop) :Prop:=
 Fw.newObj σ (.live i_c [[.nils, .nils, .nils]]) (fun id Z=>DCalls prog t_7 [.agg [h0,h1,h2,h3], .one (.el (.osl id 0 1) 0 0)] Z (fun r Z1=>∃d:D,(r=(.a (.one d) :RV))/\DCalls prog q_k [.one (.str text),iA 2, .one d] Z1 (fun r1 Z2=>∃n:Int,(r1=(.a (iA n) :RV))/\a_b (n != 0) (Qp (.tup [.agg [.nils, .nils, .nils],iA n]) Z2) (∃row:List D,(Row Z2 (.osl id 0 1) 0 row)/\∃d1 d2 d3:D,((List.take 3 row) =([d1,d2,d3]:List D))/\Qp (.tup [.agg [d1,d2,d3],iA 0]) Z2))))
theorem y_7 (h0 h1 h2 h3:D)(text:ByteArray)(σ:Store)(Qp:RV->Store->Prop)(h:x_x h0 h1 h2 h3 text σ Qp) :DCalls prog f_o [.agg [h0,h1,h2,h3], .one (.str text)] σ Qp:=
 a_a mixed (by kernel_rfl) Tryz.func48 u_r (Eq.mp (by kernel_rfl) h)
def a_j3:Ann:= { draws:= [(5,{ ord:= [0,1,2,3,4,5,6] }),(7,{ ord:= [0,1,2,3,4,5,6] })],loops:= [(2,{ mods:= [(13,s6)],keep:= [1,2,11,12] })] }
def a_pg (joints:D)(section_ end_:Int)(σ:Store)(Qp:RV->Store->Prop) :Prop:=
 wL joints fun len=>∃I:Int->Store->Prop,∃μ:Int->Store->Nat,(I 0 σ)/\∀n:Int,∀Z,(I n Z)->a_b (decide (n < (len:Int))) (wI prog Z joints 4 n fun row=>∃n1 n2 n3 n4:Int,((List.take 4 row) =([iD n1,iD n2,iD n3,iD n4]:List D))/\a_b (n1 == section_) (a_b (n2 == end_) (Qp (.tup [iA n3,iA n4,bA true]) Z) (a_b (n3 == section_) (a_b (n4 == end_) (Qp (.tup [iA n1,iA n2,bA true]) Z) ((I (w64 (n+1)) Z)/\((μ (w64 (n+1)) Z) < (μ n Z)))) ((I (w64 (n+1)) Z)/\((μ (w64 (n+1)) Z) < (μ n Z))))) (a_b (n3 == section_) (a_b (n4 == end_) (Qp (.tup [iA n1,iA n2,bA true]) Z) ((I (w64 (n+1)) Z)/\((μ (w64 (n+1)) Z) < (μ n Z)))) ((I (w64 (n+1)) Z)/\((μ (w64 (n+1)) Z) < (μ n Z))))) (Qp (.tup [iA 0,iA 0,bA false]) Z)
theorem a_o0 (joints:D)(section_ end_:Int)(σ:Store)(Qp:RV->Store->Prop)(h:a_pg joints section_ end_ σ Qp) :DCalls prog d_4 [.one joints,iA section_,iA end_] σ Qp:=
 a_a mixed (by kernel_rfl) Tryz.func52 a_j3 (Eq.mp (by kernel_rfl) h)
def s_k:Ann:= { }
def w_1 (y:D)(s e_:Int)(σ:Store)(Qp:RV->Store->Prop) :Prop:=
 wR y σ fun s1 i off row=>∃d:D,((List.take 1 (List.drop ((off+1) +1) row)) =([d]:List D))/\DCalls prog d_4 [.one d,iA s,iA e_] σ (fun r Z=>∃n n1:Int,∃b:Bool,(r=(.tup [iA n,iA n1,bA b]:RV))/\a_b (!b) (Qp (.a (bA true)) Z) (DCalls prog c_x [.one y,iA s,iA e_] Z (fun r1 Z1=>∃n2:Int,(r1=(.a (iA n2) :RV))/\Qp (.a (.one (.bool (decide (n2>=0))))) Z1)))
theorem v_t (y:D)(s e_:Int)(σ:Store)(Qp:RV->Store->Prop)(h:w_1 y s e_ σ Qp) :DCalls prog c_a [.one y,iA s,iA e_] σ Qp:=
 a_a mixed (by kernel_rfl) Tryz.func56 s_k (Eq.mp (by kernel_rfl) h)
def a_mg:Ann:= { esc:= [8] }
def a_m6 (peer age:Int)(σ:Store)(Qp:RV->Store->Prop) :Prop:=
 Fw.newObj σ (.live a_t [[iD peer,iD age,iD (-1), .nils]]) (fun id Z=>Qp (.a (.one (.el (.osl id 0 1) 0 0))) Z)
theorem a_n2 (peer age:Int)(σ:Store)(Qp:RV->Store->Prop)(h:a_m6 peer age σ Qp) :DCalls prog q_1 [iA peer,iA age] σ Qp:=
 a_a mixed (by kernel_rfl) Tryz.func60 a_mg (Eq.mp (by kernel_rfl) h)
def u_h:Ann:= { draws:= [(1,{ ord:= [1,2,3,4,5,6,8,9,10,11,12,13,15,16,17,18,19,20,22,23,24,25,26,27,29,30,31,32,33,34,36,37,38,39,40,41,0,7,14,21,28,35,42,43,44] })],joins:= [(9,{ keep:= [0,1,2,3] })] }
def x_8 (y:D)(kind n:Int)(on_:Bool)(σ:Store)(Qp:RV->Store->Prop) :Prop:=
 wR y σ fun s i off row=>∃d:D,((List.take 1 (List.drop ((off+1) +0) row)) =([d]:List D))/\wL d fun len=>wR y σ fun s1 i1 off1 row1=>∃d1:D,((List.take 1 (List.drop ((off1+1) +0) row1)) =([d1]:List D))/\wL d1 fun len1=>wR y σ fun s2 i2 off2 row2=>∃d2:D,((List.take 1 (List.drop ((off2+1) +0) row2)) =([d2]:List D))/\wL d2 fun len2=>wR y σ fun s3 i3 off3 row3=>∃d3:D,((List.take 1 (List.drop ((off3+1) +2) row3)) =([d3]:List D))/\wL d3 fun len3=>wR y σ fun s4 i4 off4 row4=>∃d4:D,((List.take 1 (List.drop ((off4+1) +3) row4)) =([d4]:List D))/\wL d4 fun len4=>wR y σ fun s5 i5 off5 row5=>∃d5:D,((List.take 1 (List.drop ((off5+1) +3) row5)) =([d5]:List D))/\wL d5 fun len5=>Fw.newObj σ (.mp 0 []) (fun id Z=>MPut prog a_e Z (.omap id) (iA 1) (iA (len:Int)) (fun Z1=>MPut prog a_e Z1 (.omap id) (iA 2) (iA (len1:Int)) (fun Z2=>MPut prog a_e Z2 (.omap id) (iA 3) (iA (len2:Int)) (fun Z3=>MPut prog a_e Z3 (.omap id) (iA 4) (iA (len3:Int)) (fun Z4=>MPut prog a_e Z4 (.omap id) (iA 5) (iA (len4:Int)) (fun Z5=>MPut prog a_e Z5 (.omap id) (iA 6) (iA (len5:Int)) (fun Z6=>∃r:Option A,(h_o prog a_e Z6 (.omap id) (iA kind) r)/\∃n1:Int,((Option.getD r (iA 0)) =(iA n1:A))/\∀R:Store->Prop,(∀Z7,(wR y Z7 fun s6 i6 off6 row6=>∃d6:D,((List.take 1 (List.drop ((off6+0) +0) row6)) =([d6]:List D))/\MPut prog j_k Z7 d6 (.agg [iD kind,iD n]) (bA on_) (fun Z8=>Qp (.a (iA 0)) Z8))->R Z7)->a_b (!(Option.isSome.match_1 (fun (x:Option A)=>Bool) r (fun (val:A)=>true) (fun (_:Unit)=>false))) (Qp (.a (iA 27)) Z6) (a_b (decide (n < 0)) (Qp (.a (iA 20)) Z6) (a_b (decide (n>=n1)) (Qp (.a (iA 20)) Z6) (a_b (kind == 2) (wR y Z6 fun s6 i6 off6 row6=>∃d6:D,((List.take 1 (List.drop ((off6+1) +0) row6)) =([d6]:List D))/\wI prog Z6 d6 3 n fun row7=>∃n2:Int,((List.take 1 row7) =([iD n2]:List D))/\a_b (n2 != 1) (Qp (.a (iA 20)) Z6) (R Z6)) (a_b (kind == 3) (wR y Z6 fun s6 i6 off6 row6=>∃d6:D,((List.take 1 (List.drop ((off6+1) +0) row6)) =([d6]:List D))/\wI prog Z6 d6 3 n fun row7=>∃n2:Int,((List.take 1 row7) =([iD n2]:List D))/\a_b (n2 != 1) (Qp (.a (iA 20)) Z6) (R Z6)) (R Z6))))))))))))
theorem x_3 (y:D)(kind n:Int)(on_:Bool)(σ:Store)(Qp:RV->Store->Prop)(h:x_8 y kind n on_ σ Qp) :DCalls prog h_y [.one y,iA kind,iA n,bA on_] σ Qp:=
 a_a mixed (by kernel_rfl) Tryz.func64 u_h (Eq.mp (by kernel_rfl) h)
def u_i:Ann:= { draws:= [(6,{ ord:= [0,1,2,3,4,5,6,7,8] }),(7,{ ord:= [0,1,2,3,4,5,6,7,8,9,10,11,12,13,14] }),(9,{ ord:= [0,1,2,3,4,5,6,7,8,9,10] })],joins:= [(3,{ keep:= [0,1] }),(6,{ keep:= [0,1,5] })] }
def y_1 (y:D)(t:Int)(σ:Store)(Qp:RV->Store->Prop) :Prop:=
 ∀R:Store->Prop,(∀Z,(wR y Z fun s i off row=>∃d:D,((List.take 1 (List.drop (off+11) row)) =([d]:List D))/\wI prog Z d 2 t fun row1=>∃d1:D,∃n:Int,((List.take 2 row1) =([d1,iD n]:List D))/\∀R1:Store->Prop,(∀Z1,(wI prog Z1 d1 1 0 fun row2=>∃n1:Int,((List.take 1 row2) =([iD n1]:List D))/\DCalls prog d_m [.one y,iA n1,iA n] Z1 (fun r Z2=>∃n2:Int,(r=(.a (iA n2) :RV))/\a_b (decide (n2 < 0)) (Qp (.a (iA 29)) Z2) (wR y Z2 fun s1 i1 off1 row3=>∃d2 d3 d4 d5 d6:D,∃n3 n4 n5 n6:Int,((List.take 9 (List.drop (off1+0) row3)) =([d2,d3,d4,d5,d6,iD n3,iD n4,iD n5,iD n6]:List D))/\wI prog Z2 d1 1 0 fun row4=>∃n7:Int,((List.take 1 row4) =([iD n7]:List D))/\DCalls prog k_m [.agg [d2,d3,d4,d5,d6,iD n3,iD n4,iD n5,iD n6],iA n7,iA n2] Z2 (fun r1 Z3=>∃b:Bool,(r1=(.a (bA b) :RV))/\a_b (!b) (Qp (.a (iA 29)) Z3) (wR y Z3 fun s2 i2 off2 row5=>∃d7:D,((List.take 1 (List.drop (off2+11) row5)) =([d7]:List D))/\∃len3:Nat,(Idx prog Z3 d7 2 len3)/\((0:Int)<=t)/\(t < (len3:Int))/\a_k [d1,iD n2] Z3 d7 (Int.toNat t) 0 (fun Z4=>Qp (.a (iA 0)) Z4))))))->R1 Z1)->wL d1 fun len1=>a_b ((len1:Int) != 1) (Qp (.a (iA 29)) Z) (a_b (decide (n < 0)) (Qp (.a (iA 29)) Z) ((([[d1,iD n]]:List (List D)) =([[d1,iD n]]:List (List D)))/\R1 Z)))->R Z)->a_b (decide (t < 0)) (Qp (.a (iA 30)) σ) (wR y σ fun s i off row=>∃d:D,((List.take 1 (List.drop (off+11) row)) =([d]:List D))/\wL d fun len=>a_b (decide (t>=(len:Int))) (Qp (.a (iA 30)) σ) (R σ))
theorem y_b (y:D)(t:Int)(σ:Store)(Qp:RV->Store->Prop)(h:y_1 y t σ Qp) :DCalls prog h_4 [.one y,iA t] σ Qp:=
 a_a mixed (by kernel_rfl) Tryz.func68 u_i (Eq.mp (by kernel_rfl) h)
def t_l:Ann:= { }
def w_5 (y:D)(line:Int)(σ:Store)(Qp:RV->Store->Prop) :Prop:=
 wR y σ fun s i off row=>∃d d1 d2 d3 d4:D,∃n n1 n2 n3:Int,((List.take 9 (List.drop (off+0) row)) =([d,d1,d2,d3,d4,iD n,iD n1,iD n2,iD n3]:List D))/\DCalls prog j_1 [.agg [d,d1,d2,d3,d4,iD n,iD n1,iD n2,iD n3],iA line] σ (fun r Z=>∃n4:Int,(r=(.a (iA n4) :RV))/\a_b (decide (n4 < 0)) (Qp (.a (iA 20)) Z) (wR y Z fun s1 i1 off1 row1=>∃d5:D,((List.take 1 (List.drop (off1+11) row1)) =([d5]:List D))/\wL d5 fun len=>a_b (decide ((len:Int)>=4)) (Qp (.a (iA 5)) Z) (wR y Z fun s2 i2 off2 row2=>∃d6 d7 d8 d9 d10:D,∃n5 n6 n7 n8:Int,((List.take 9 (List.drop (off2+0) row2)) =([d6,d7,d8,d9,d10,iD n5,iD n6,iD n7,iD n8]:List D))/\DCalls prog f_w [.agg [d6,d7,d8,d9,d10,iD n5,iD n6,iD n7,iD n8],iA n4,iA 0] Z (fun r1 Z1=>∃n9:Int,(r1=(.a (iA n9) :RV))/\a_b (decide (n9 < 0)) (Qp (.a (iA 29)) Z1) (wR y Z1 fun s3 i3 off3 row3=>∃d11:D,((List.take 1 (List.drop (off3+11) row3)) =([d11]:List D))/\Fw.newObj Z1 (.live a_e [[iD n4]]) (fun id Z2=>Fw.newObj Z2 (.live a_m [[.osl id 0 1,iD 0]]) (fun id1 Z3=>a_j prog Z3 a_m 32 d11 (.osl id1 0 1) (fun d12 Z4=>(a_u y)/\∃s4:D,∃i4 off4:Nat,(y=(.el s4 i4 off4:D))/\a_k [d12] Z4 s4 i4 (off4+11) (fun Z5=>Qp (.a (iA 0)) Z5)))))))))
theorem w_z (y:D)(line:Int)(σ:Store)(Qp:RV->Store->Prop)(h:w_5 y line σ Qp) :DCalls prog g_9 [.one y,iA line] σ Qp:=
 a_a mixed (by kernel_rfl) Tryz.func72 t_l (Eq.mp (by kernel_rfl) h)
def x_p:Ann:= { }
def z_x (y:D)(i:Int)(σ:Store)(Qp:RV->Store->Prop) :Prop:=
 wR y σ fun s i1 off row=>∃d:D,((List.take 1 (List.drop (off+11) row)) =([d]:List D))/\∃len:Nat,(Idx prog σ d 3 len)/\((0:Int)<=i)/\(i < (len:Int))/\DCalls prog b_y [.one (.el d (Int.toNat i) 0)] σ (fun r Z=>∃b:Bool,(r=(.a (bA b) :RV))/\a_b (!b) (wR y Z fun s1 i2 off1 row1=>∃d1:D,((List.take 1 (List.drop (off1+11) row1)) =([d1]:List D))/\wI prog Z d1 3 i fun row2=>∃n:Int,((List.take 1 row2) =([iD n]:List D))/\Qp (.a (bA (n == 1))) Z) (Qp (.a (bA false)) Z))
theorem a_ah (y:D)(i:Int)(σ:Store)(Qp:RV->Store->Prop)(h:z_x y i σ Qp) :DCalls prog g_b [.one y,iA i] σ Qp:=
 a_a mixed (by kernel_rfl) Tryz.func76 x_p (Eq.mp (by kernel_rfl) h)
def o_x:Ann:= { cbs:= [1],loops:= [(3,{ mods:= [(13,s6)],keep:= [1,3,11,12] })] }
def p_j (p0 p1 p2 p3 p4:D)(p5 p6 p7 p8:Int)(σ:Store)(Qp:RV->Store->Prop) :Prop:=
 Fw.newObj σ (.mp 0 []) (fun id Z=>wL p3 fun len=>∃I:Int->Store->Prop,∃μ:Int->Store->Nat,(I 0 Z)/\∀n:Int,∀Z1,(I n Z1)->a_b (decide (n < (len:Int))) (wI prog Z1 p3 1 n fun row=>∃n1:Int,((List.take 1 row) =([iD n1]:List D))/\DCalls prog b_0 [.agg [p0,p1,p2,p3,p4,iD p5,iD p6,iD p7,iD p8],iA n1] Z1 (fun r Z2=>∃n2 n3 n4:Int,∃b:Bool,(r=(.tup [.agg [iD n2,iD n3,iD n4],bA b]:RV))/\∃r1:Option A,(h_o prog a_e Z2 (.omap id) (iA n1) r1)/\∃n5:Int,((Option.getD r1 (iA 0)) =(iA n5:A))/\MPut prog a_e Z2 (.omap id) (iA n1) (.one (iD (w64 (n5+1)))) (fun Z3=>a_b (!b) (Qp (.a (bA false)) Z3) (a_b (n4 != 0) (Qp (.a (bA false)) Z3) (∃r2:Option A,(h_o prog a_e Z3 (.omap id) (iA n1) r2)/\∃n6:Int,((Option.getD r2 (iA 0)) =(iA n6:A))/\a_b (decide (n6 > 1)) (Qp (.a (bA false)) Z3) ((I (w64 (n+1)) Z3)/\((μ (w64 (n+1)) Z3) < (μ n Z1)))))))) (wL p3 fun len1=>Qp (.a (.one (.bool (decide ((len1:Int)<=4))))) Z1))
theorem p_q (p0 p1 p2 p3 p4:D)(p5 p6 p7 p8:Int)(σ:Store)(Qp:RV->Store->Prop)(h:p_j p0 p1 p2 p3 p4 p5 p6 p7 p8 σ Qp) :DCalls prog f_i [.agg [p0,p1,p2,p3,p4,iD p5,iD p6,iD p7,iD p8]] σ Qp:=
 a_a mixed (by kernel_rfl) Tryz.func80 o_x (Eq.mp (by kernel_rfl) h)
def a_cs:Ann:= { draws:= [(1,{ ord:= [0,1,2,3,4,5,6,7,8,9,10,11,12,13,14,15,16,17,18,19] })] }
def a_e8 (section_:Int)(a1 a2:D)(σ:Store)(Qp:RV->Store->Prop) :Prop:=
 a_b (decide (section_>=0)) (∃s:D,∃i off:Nat,(a1=(.el s i off:D))/\∃row:List D,(Row σ s i row)/\∃d:D,((List.take 1 (List.drop (off+0) row)) =([d]:List D))/\wL d fun len=>a_b (decide (section_ < (len:Int))) (∃s1:D,∃i1 off1:Nat,(a1=(.el s1 i1 off1:D))/\∃row1:List D,(Row σ s1 i1 row1)/\∃d1:D,((List.take 1 (List.drop (off1+0) row1)) =([d1]:List D))/\wI prog σ d1 3 section_ fun row2=>∃n:Int,((List.take 1 (List.drop 1 row2)) =([iD n]:List D))/\∃s2:D,∃i2 off2:Nat,(a2=(.el s2 i2 off2:D))/\∃row3:List D,(Row σ s2 i2 row3)/\∃n1:Int,((List.take 1 (List.drop off2 row3)) =([iD n1]:List D))/\Qp (.a (bA (n == n1))) σ) (Qp (.a (bA false)) σ)) (Qp (.a (bA false)) σ)
theorem a_dw (section_:Int)(a1 a2:D)(σ:Store)(Qp:RV->Store->Prop)(h:a_e8 section_ a1 a2 σ Qp) :DCalls prog e_m [iA section_, .one a1, .one a2] σ Qp:=
 a_a mixed (by kernel_rfl) Tryz.func84 a_cs (Eq.mp (by kernel_rfl) h)
def a_lv:Ann:= { draws:= [(9,{ ord:= [0,2,4,6,7,1,3,5,8,9,10,11,12] })] }
def a_p5 (text:ByteArray)(σ:Store)(Qp:RV->Store->Prop) :Prop:=
 DCalls prog q_h [.one (.str text)] σ (fun r Z=>∃s:ByteArray,∃n:Int,(r=(.tup [.one (.str s),iA n]:RV))/\a_b (n != 0) (Qp (.tup [iA 0,iA 0,iA 0, .one (.str (ByteArray.mk (List.toArray []))),iA n]) Z) (a_b (decide ((ByteArray.size s:Int) < 7)) (Qp (.tup [iA 0,iA 0,iA 0, .one (.str (ByteArray.mk (List.toArray []))),iA 3]) Z) (a_b (decide ((ByteArray.size s:Int) > 1007)) (Qp (.tup [iA 0,iA 0,iA 0, .one (.str (ByteArray.mk (List.toArray []))),iA 2]) Z) (DCalls prog e_v [.one (.str s)] Z (fun r1 Z1=>∃d:D,(r1=(.a (.one d) :RV))/\((0:Int)<=7)/\((7:Int)<=(ByteArray.size s:Int))/\DCalls prog c_w [.one d] Z1 (fun r2 Z2=>∃n1:Int,(r2=(.a (iA n1) :RV))/\DCalls prog e_5 [.one d] Z2 (fun r3 Z3=>∃n2:Int,(r3=(.a (iA n2) :RV))/\DCalls prog d_u [.one d] Z3 (fun r4 Z4=>∃n3:Int,(r4=(.a (iA n3) :RV))/\Qp (.tup [iA n1,iA n2,iA n3, .one (.str (ByteArray.extract s 7 (ByteArray.size s))),iA 0]) Z4))))))))
theorem a_m9 (text:ByteArray)(σ:Store)(Qp:RV->Store->Prop)(h:a_p5 text σ Qp) :DCalls prog r_c [.one (.str text)] σ Qp:=
 a_a mixed (by kernel_rfl) Tryz.func88 a_lv (Eq.mp (by kernel_rfl) h)
def o_a:Ann:= { cbs:= [3],draws:= [(4,{ ord:= [0,1,2,3,4,5] })],loops:= [(2,{ mods:= [(8,s6)],keep:= [0,3,7] })] }
def p_v (s:D)(v0 v1:Int)(σ:Store)(Qp:RV->Store->Prop) :Prop:=
 wL s fun len=>∃I:Int->Store->Prop,∃μ:Int->Store->Nat,(I 0 σ)/\∀n:Int,∀Z,(I n Z)->a_b (decide (n < (len:Int))) (wI prog Z s 2 n fun row=>∃n1 n2:Int,((List.take 2 row) =([iD n1,iD n2]:List D))/\a_b ((v0 == n1) && (v1 == n2)) (Qp (.a (iA n)) Z) ((I (w64 (n+1)) Z)/\((μ (w64 (n+1)) Z) < (μ n Z)))) (Qp (.a (iA (-1))) Z)
theorem p_w (s:D)(v0 v1:Int)(σ:Store)(Qp:RV->Store->Prop)(h:p_v s v0 v1 σ Qp) :DCalls prog d_z [.one s, .agg [iD v0,iD v1]] σ Qp:=
 a_a mixed (by kernel_rfl) Tryz.func92 o_a (Eq.mp (by kernel_rfl) h)
def a_fr:Ann:= { draws:= [(14,{ ord:= [0,1,2,3,4,5,6,7] }),(22,{ ord:= [0,1,2,3,4,5,6,7,8,9,10,11,12,13,14,15,16,17,18,19,20,21,22,23,24,25,26,27,28,29,30,31,32,33,34,35,36,37,38,39,40,41,42,43,44,45,46,47,48,49],nb:= [5,22] })],loops:= [(4,{ mods:= [(25,s6)],keep:= [0,1,23,24] }),(12,{ mods:= [(7,s6)],keep:= [0,1,5,6,23,24,25] }),(18,{ mods:= [(82,s6)],keep:= [0,1,80,81] })],joins:= [(3,{ keep:= [0,1] }),(8,{ keep:= [0,1,5,6,23,24,25] }),(24,{ keep:= [0,1,80,81,82] }),(22,{ keep:= [0,1,9,80,81,82] })] }
def a_ij (sections joints:D)(σ:Store)(Qp:RV->Store->Prop) :Prop:=
 ∀R:Store->Prop,(∀Z,(wL sections fun len=>∃I:Int->Store->Prop,∃μ:Int->Store->Nat,(I 0 Z)/\∀n:Int,∀Z1,(I n Z1)->a_b (decide (n < (len:Int))) (wI prog Z1 sections 3 n fun row=>∃n1 n2 n3:Int,((List.take 3 row) =([iD n1,iD n2,iD n3]:List D))/\∀R1:Store->Prop,(∀Z2,(a_b (n3 == 0) ((I (w64 (n+1)) Z2)/\((μ (w64 (n+1)) Z2) < (μ n Z1))) (a_b (n1 != 0) (Qp (.a (iA 6)) Z2) (DCalls prog g_z [.one joints,iA n,iA 1] Z2 (fun r Z3=>∃n4:Int,(r=(.a (iA n4) :RV))/\a_b (decide (n4 > 0)) (Qp (.a (iA 6)) Z3) (∃I1:Int->Store->Prop,∃μ1:Int->Store->Nat,(I1 0 Z3)/\∀n5:Int,∀Z4,(I1 n5 Z4)->a_b (decide (n5 < n)) (wI prog Z4 sections 3 n5 fun row1=>∃n6:Int,((List.take 1 (List.drop 2 row1)) =([iD n6]:List D))/\a_b (n6 == n3) (Qp (.a (iA 6)) Z4) ((([[iD n1,iD n2,iD n3]]:List (List D)) =([[iD n1,iD n2,iD n3]]:List (List D)))/\(I1 (w64 (n5+1)) Z4)/\((μ1 (w64 (n5+1)) Z4) < (μ1 n5 Z4)))) ((I (w64 (n+1)) Z4)/\((μ (w64 (n+1)) Z4) < (μ n Z1))))))))->R1 Z2)->DCalls prog f_6 [iA n1] Z1 (fun r Z2=>∃n4:Int,(r=(.a (iA n4) :RV))/\a_b (n4 == 0) (Qp (.a (iA 6)) Z2) (a_b (decide (n2 < 0)) (Qp (.a (iA 6)) Z2) (a_b (decide (n2>=4)) (Qp (.a (iA 6)) Z2) (a_b (decide (n3 < 0)) (Qp (.a (iA 6)) Z2) (a_b (decide (n3 > 3)) (Qp (.a (iA 6)) Z2) ((([[iD n1,iD n2,iD n3]]:List (List D)) =([[iD n1,iD n2,iD n3]]:List (List D)))/\R1 Z2))))))) (wL joints fun len1=>∃I1:Int->Store->Prop,∃μ1:Int->Store->Nat,(I1 0 Z1)/\∀n1:Int,∀Z2,(I1 n1 Z2)->a_b (decide (n1 < (len1:Int))) (∀R1:Store->Prop,(∀Z3,((I1 (w64 (n1+1)) Z3)/\((μ1 (w64 (n1+1)) Z3) < (μ1 n1 Z2)))->R1 Z3)->wI prog Z2 joints 4 n1 fun row=>∃n2 n3 n4 n5:Int,((List.take 4 row) =([iD n2,iD n3,iD n4,iD n5]:List D))/\∀R2:Store->Prop,(∀Z3,(a_b (decide (n3 < 0)) (Qp (.a (iA 6)) Z3) (wI prog Z3 sections 3 n2 fun row1=>∃n6:Int,((List.take 1 row1) =([iD n6]:List D))/\DCalls prog f_6 [iA n6] Z3 (fun r Z4=>∃n7:Int,(r=(.a (iA n7) :RV))/\a_b (decide (n3>=n7)) (Qp (.a (iA 6)) Z4) (a_b (decide (n5 < 0)) (Qp (.a (iA 6)) Z4) (wI prog Z4 sections 3 n4 fun row2=>∃n8:Int,((List.take 1 row2) =([iD n8]:List D))/\DCalls prog f_6 [iA n8] Z4 (fun r1 Z5=>∃n9:Int,(r1=(.a (iA n9) :RV))/\a_b (decide (n5>=n9)) (Qp (.a (iA 6)) Z5) (DCalls prog g_z [.one joints,iA n2,iA n3] Z5 (fun r2 Z6=>∃n10:Int,(r2=(.a (iA n10) :RV))/\a_b (decide (n10 > 1)) (Qp (.a (iA 6)) Z6) (DCalls prog g_z [.one joints,iA n4,iA n5] Z6 (fun r3 Z7=>∃n11:Int,(r3=(.a (iA n11) :RV))/\a_b (decide (n11 > 1)) (Qp (.a (iA 6)) Z7) (R1 Z7)))))))))))->R2 Z3)->a_b (decide (n2 < 0)) (Qp (.a (iA 6)) Z2) (wL sections fun len3=>a_b (decide (n2>=(len3:Int))) (Qp (.a (iA 6)) Z2) (a_b (decide (n4 < 0)) (Qp (.a (iA 6)) Z2) (wL sections fun len4=>a_b (decide (n4>=(len4:Int))) (Qp (.a (iA 6)) Z2) (a_b (n2 == n4) (Qp (.a (iA 6)) Z2) ((([[iD n2,iD n3,iD n4,iD n5]]:List (List D)) =([[iD n2,iD n3,iD n4,iD n5]]:List (List D)))/\R2 Z2)))))) (Qp (.a (iA 0)) Z2)))->R Z)->wL sections fun len=>a_b (decide ((len:Int) < 1)) (Qp (.a (iA 6)) σ) (wL sections fun len1=>a_b (decide ((len1:Int) > 16)) (Qp (.a (iA 6)) σ) (wL joints fun len2=>a_b (decide ((len2:Int) > 24)) (Qp (.a (iA 6)) σ) (R σ)))
theorem a_ip (sections joints:D)(σ:Store)(Qp:RV->Store->Prop)(h:a_ij sections joints σ Qp) :DCalls prog m_o [.one sections, .one joints] σ Qp:=
 a_a mixed (by kernel_rfl) Tryz.func96 a_fr (Eq.mp (by kernel_rfl) h)
def w_x:Ann:= { draws:= [(6,{ ord:= [0,1,2,3,4,5,6,7,8] })],loops:= [(4,{ mods:= [(13,s6)],keep:= [0,1,12] })] }
def x_s (a b:D)(σ:Store)(Qp:RV->Store->Prop) :Prop:=
 wL a fun len=>wL b fun len1=>a_b ((len:Int) !=(len1:Int)) (Qp (.a (bA false)) σ) (wL a fun len2=>∃I:Int->Store->Prop,∃μ:Int->Store->Nat,(I 0 σ)/\∀n:Int,∀Z,(I n Z)->a_b (decide (n < (len2:Int))) (wI prog Z a 2 n fun row=>∃n1 n2:Int,((List.take 2 row) =([iD n1,iD n2]:List D))/\wI prog Z b 2 n fun row1=>∃n3 n4:Int,((List.take 2 row1) =([iD n3,iD n4]:List D))/\a_b (!((n1 == n3) && (n2 == n4))) (Qp (.a (bA false)) Z) ((I (w64 (n+1)) Z)/\((μ (w64 (n+1)) Z) < (μ n Z)))) (Qp (.a (bA true)) Z))
theorem z_j (a b:D)(σ:Store)(Qp:RV->Store->Prop)(h:x_s a b σ Qp) :DCalls prog h_9 [.one a, .one b] σ Qp:=
 a_a mixed (by kernel_rfl) Tryz.func100 w_x (Eq.mp (by kernel_rfl) h)
def a_ag:Ann:= { cbs:= [2,3],joins:= [(3,{ keep:= [2,3] }),(8,{ mods:= [(9,s6)],keep:= [2,3,6,8] })] }
def a_co (c0 c1 c2 c3 c4:D)(c5 c6 c7 c8 r0 r1:Int)(r2 r3 r4:D)(r5:Bool)(σ:Store)(Qp:RV->Store->Prop) :Prop:=
 ∀R:Store->Prop,(∀Z,(wI prog Z c2 2 r1 fun row=>∃n n1:Int,((List.take 2 row) =([iD n,iD n1]:List D))/\DCalls prog d_e [.one c1,iA n,iA n1] Z (fun r Z1=>∃n2 n3:Int,∃b:Bool,(r=(.tup [iA n2,iA n3,bA b]:RV))/\∀R1:Int->Store->Prop,(∀n4:Int,∀Z2,(a_b (!b) (Qp (.a (.one .nils)) Z2) (a_b (decide (n2 < 0)) (Qp (.a (.one .nils)) Z2) (wL c0 fun len1=>a_b (decide (n2>=(len1:Int))) (Qp (.a (.one .nils)) Z2) (DCalls prog d_o [.one r2] Z2 (fun r6 Z3=>∃d:D,(r6=(.a (.one d) :RV))/\DCalls prog d_r [.one d,iA n2] Z3 (fun r7 Z4=>∃b1:Bool,(r7=(.a (bA b1) :RV))/\a_b b1 (Qp (.a (.one .nils)) Z4) (a_b (n2 == n4) (Qp (.a (.one .nils)) Z4) (wI prog Z4 c0 3 n2 fun row1=>∃n5:Int,((List.take 1 (List.drop 2 row1)) =([iD n5]:List D))/\a_b (n5 != 0) (Qp (.a (.one .nils)) Z4) (Fw.newObj Z4 (.live a_e [[iD n2]]) (fun id Z5=>Qp (.a (.one (.osl id 0 1))) Z5))))))))))->R1 n4 Z2)->a_b (decide (r0>=0)) (wL c2 fun len1=>a_b (decide (r0 < (len1:Int))) (wI prog Z1 c2 2 r0 fun row1=>∃n4:Int,((List.take 1 row1) =([iD n4]:List D))/\R1 n4 Z1) (R1 (-1) Z1)) (R1 (-1) Z1)))->R Z)->a_b r5 (Qp (.a (.one .nils)) σ) (a_b (decide (r1 < 0)) (Qp (.a (.one .nils)) σ) (wL c2 fun len=>a_b (decide (r1>=(len:Int))) (Qp (.a (.one .nils)) σ) (R σ)))
theorem a_da (c0 c1 c2 c3 c4:D)(c5 c6 c7 c8 r0 r1:Int)(r2 r3 r4:D)(r5:Bool)(σ:Store)(Qp:RV->Store->Prop)(h:a_co c0 c1 c2 c3 c4 c5 c6 c7 c8 r0 r1 r2 r3 r4 r5 σ Qp) :DCalls prog j_w [.agg [c0,c1,c2,c3,c4,iD c5,iD c6,iD c7,iD c8], .agg [iD r0,iD r1,r2,r3,r4, .bool r5]] σ Qp:=
 a_a mixed (by kernel_rfl) Tryz.func104 a_ag (Eq.mp (by kernel_rfl) h)
def t_p:Ann:= { }
def v_e (y:D)(kind n:Int)(σ:Store)(Qp:RV->Store->Prop) :Prop:=
 wR y σ fun s i off row=>∃d:D,((List.take 1 (List.drop (off+16) row)) =([d]:List D))/\∃r:Option A,(h_o prog j_k σ d (.agg [iD kind,iD n]) r)/\∃n1:Int,((Option.getD r (iA 0)) =(iA n1:A))/\Qp (.a (bA (n1 == 1))) σ
theorem w_7 (y:D)(kind n:Int)(σ:Store)(Qp:RV->Store->Prop)(h:v_e y kind n σ Qp) :DCalls prog e_2 [.one y,iA kind,iA n] σ Qp:=
 a_a mixed (by kernel_rfl) Tryz.func108 t_p (Eq.mp (by kernel_rfl) h)
def t_h:Ann:= { draws:= [(3,{ ord:= [0,1,2,3,4,5,6,7,8,9,10,11,12,13,14,15,16,17,18,19,20,21,22,23] }),(4,{ ord:= [0,1,2,3,4,5,6,7,8,9,10,11,12,13,14,15,16] })],joins:= [(3,{ keep:= [0,1] })] }
def u_1 (y:D)(x:Int)(σ:Store)(Qp:RV->Store->Prop) :Prop:=
 ∀R:Store->Prop,(∀Z,(wR y Z fun s i off row=>∃d:D,((List.take 1 (List.drop (off+14) row)) =([d]:List D))/\wR y Z fun s1 i1 off1 row1=>∃d1:D,((List.take 1 (List.drop ((off1+0) +0) row1)) =([d1]:List D))/\wR y Z fun s2 i2 off2 row2=>∃d2:D,((List.take 1 (List.drop ((off2+0) +2) row2)) =([d2]:List D))/\wI prog Z d2 2 x fun row3=>∃n:Int,((List.take 1 row3) =([iD n]:List D))/\wI prog Z d1 3 n fun row4=>∃n1:Int,((List.take 1 (List.drop 1 row4)) =([iD n1]:List D))/\wI prog Z d 1 n1 fun row5=>∃n2:Int,((List.take 1 row5) =([iD n2]:List D))/\a_b (decide (n2 < 0)) (Qp (.a (iA 0)) Z) (wR y Z fun s3 i3 off3 row6=>∃n3:Int,((List.take 1 (List.drop (off3+17) row6)) =([iD n3]:List D))/\wR y Z fun s4 i4 off4 row7=>∃n4:Int,((List.take 1 (List.drop (((off4+0) +5) +0) row7)) =([iD n4]:List D))/\a_b (decide ((w64 (n3 - n2)) > n4)) (Qp (.a (iA 0)) Z) (wR y Z fun s5 i5 off5 row8=>∃d3:D,((List.take 1 (List.drop (off5+13) row8)) =([d3]:List D))/\wI prog Z d3 1 x fun row9=>∃n5:Int,((List.take 1 row9) =([iD n5]:List D))/\Qp (.a (iA n5)) Z)))->R Z)->a_b (decide (x < 0)) (Qp (.a (iA 0)) σ) (wR y σ fun s i off row=>∃d:D,((List.take 1 (List.drop ((off+0) +2) row)) =([d]:List D))/\wL d fun len=>a_b (decide (x>=(len:Int))) (Qp (.a (iA 0)) σ) (R σ))
theorem u_4 (y:D)(x:Int)(σ:Store)(Qp:RV->Store->Prop)(h:u_1 y x σ Qp) :DCalls prog g_4 [.one y,iA x] σ Qp:=
 a_a mixed (by kernel_rfl) Tryz.func112 t_h (Eq.mp (by kernel_rfl) h)
def q_3:Ann:= { cbs:= [2] }
def t_y (x0 x1 x2:Int)(a1:D)(σ:Store)(Qp:RV->Store->Prop) :Prop:=
 ∃s:D,∃i off:Nat,(a1=(.el s i off:D))/\∃row:List D,(Row σ s i row)/\∃n:Int,((List.take 1 (List.drop off row)) =([iD n]:List D))/\Qp (.a (bA (x2 == n))) σ
theorem s_w (x0 x1 x2:Int)(a1:D)(σ:Store)(Qp:RV->Store->Prop)(h:t_y x0 x1 x2 a1 σ Qp) :DCalls prog j_2 [.agg [iD x0,iD x1,iD x2], .one a1] σ Qp:=
 a_a mixed (by kernel_rfl) Tryz.func116 q_3 (Eq.mp (by kernel_rfl) h)
def q_q:Ann:= { cbs:= [2] }
def t_i (p0 p1 p2 p3 p4:D)(p5 p6 p7 p8 s:Int)(σ:Store)(Qp:RV->Store->Prop) :Prop:=
 a_b (decide (s < 0)) (Qp (.tup [.agg [iD 0,iD 0,iD 0],bA false]) σ) (wL p0 fun len=>a_b (decide (s>=(len:Int))) (Qp (.tup [.agg [iD 0,iD 0,iD 0],bA false]) σ) (wI prog σ p0 3 s fun row=>∃n n1 n2:Int,((List.take 3 row) =([iD n,iD n1,iD n2]:List D))/\Qp (.tup [.agg [iD n,iD n1,iD n2],bA true]) σ))
theorem t_m (p0 p1 p2 p3 p4:D)(p5 p6 p7 p8 s:Int)(σ:Store)(Qp:RV->Store->Prop)(h:t_i p0 p1 p2 p3 p4 p5 p6 p7 p8 s σ Qp) :DCalls prog b_0 [.agg [p0,p1,p2,p3,p4,iD p5,iD p6,iD p7,iD p8],iA s] σ Qp:=
 a_a mixed (by kernel_rfl) Tryz.func120 q_q (Eq.mp (by kernel_rfl) h)
def p_k:Ann:= { cbs:= [2,3] }
def q_j (p0 p1 p2 p3 p4:D)(p5 p6 p7 p8 r0 r1:Int)(r2 r3 r4:D)(r5:Bool)(σ:Store)(Qp:RV->Store->Prop) :Prop:=
 DCalls prog c_y [.agg [p0,p1,p2,p3,p4,iD p5,iD p6,iD p7,iD p8],iA r0] σ (fun r Z=>∃n n1:Int,∃b:Bool,(r=(.tup [.agg [iD n,iD n1],bA b]:RV))/\a_b (!b) (Qp (.a (iA (-1))) Z) (Qp (.a (iA n)) Z))
theorem q_w (p0 p1 p2 p3 p4:D)(p5 p6 p7 p8 r0 r1:Int)(r2 r3 r4:D)(r5:Bool)(σ:Store)(Qp:RV->Store->Prop)(h:q_j p0 p1 p2 p3 p4 p5 p6 p7 p8 r0 r1 r2 r3 r4 r5 σ Qp) :DCalls prog e_a [.agg [p0,p1,p2,p3,p4,iD p5,iD p6,iD p7,iD p8], .agg [iD r0,iD r1,r2,r3,r4, .bool r5]] σ Qp:=
 a_a mixed (by kernel_rfl) Tryz.func124 p_k (Eq.mp (by kernel_rfl) h)
def a_j9:Ann:= { }
def a_pa (text:ByteArray)(σ:Store)(Qp:RV->Store->Prop) :Prop:=
 DCalls prog o_g [.one (.str text)] σ (fun r Z=>∃n n1:Int,(r=(.tup [iA n,iA n1]:RV))/\a_b (n1 != 0) (Qp (.tup [.one (.str (ByteArray.mk (List.toArray []))),iA n1]) Z) (a_b (decide (n < (ByteArray.size text:Int))) (Qp (.tup [.one (.str (ByteArray.mk (List.toArray []))),iA 3]) Z) (DCalls prog q_9 [.one (.str text),iA 0] Z (fun r1 Z1=>∃s:ByteArray,∃n2 n3:Int,(r1=(.tup [.one (.str s),iA n2,iA n3]:RV))/\Qp (.tup [.one (.str s),iA n3]) Z1))))
theorem a_ok (text:ByteArray)(σ:Store)(Qp:RV->Store->Prop)(h:a_pa text σ Qp) :DCalls prog q_h [.one (.str text)] σ Qp:=
 a_a mixed (by kernel_rfl) Tryz.func129 a_j9 (Eq.mp (by kernel_rfl) h)
def t_d:Ann:= { }
def v_y (r:D)(σ:Store)(Qp:RV->Store->Prop) :Prop:=
 DCalls prog d_d [.one r,iA 4] σ (fun r1 Z=>∃n:Int,(r1=(.a (iA n) :RV))/\Qp (.a (iA n)) Z)
theorem w_t (r:D)(σ:Store)(Qp:RV->Store->Prop)(h:v_y r σ Qp) :DCalls prog d_u [.one r] σ Qp:=
 a_a mixed (by kernel_rfl) Tryz.func133 t_d (Eq.mp (by kernel_rfl) h)
def v_f:Ann:= { }
def x_a (r:D)(σ:Store)(Qp:RV->Store->Prop) :Prop:=
 (a_u r)/\∃s:D,∃i off:Nat,(r=(.el s i off:D))/\DCalls prog c_p [.one (.el s i (off+0))] σ (fun r1 Z=>∃b:Bool,(r1=(.a (bA b) :RV))/\a_b b (wR r Z fun s1 i1 off1 row=>∃s2:ByteArray,((List.take 1 (List.drop (off1+1) row)) =([.str s2]:List D))/\a_b (!((ByteArray.toList s2) ==(ByteArray.toList (ByteArray.mk (List.toArray []))))) (Qp (.a (iA 3)) Z) (wR r Z fun s3 i2 off2 row1=>∃n:Int,((List.take 1 (List.drop ((off2+0) +0) row1)) =([iD n]:List D))/\Qp (.a (iA n)) Z)) (wR r Z fun s1 i1 off1 row=>∃n:Int,((List.take 1 (List.drop ((off1+0) +0) row)) =([iD n]:List D))/\Qp (.a (iA n)) Z))
theorem x_4 (r:D)(σ:Store)(Qp:RV->Store->Prop)(h:x_a r σ Qp) :DCalls prog i_k [.one r] σ Qp:=
 a_a mixed (by kernel_rfl) Tryz.func137 v_f (Eq.mp (by kernel_rfl) h)
def a_ht:Ann:= { cbs:= [2] }
def a_k4 (c0 c1 c2 c3 c4:D)(c5 c6 c7 c8 s:Int)(σ:Store)(Qp:RV->Store->Prop) :Prop:=
 a_b (decide (s < 0)) (Qp (.a (iA (-1))) σ) (wL c0 fun len=>a_b (decide (s>=(len:Int))) (Qp (.a (iA (-1))) σ) (wI prog σ c0 3 s fun row=>∃n:Int,((List.take 1 row) =([iD n]:List D))/\Qp (.a (iA n)) σ))
theorem a_j5 (c0 c1 c2 c3 c4:D)(c5 c6 c7 c8 s:Int)(σ:Store)(Qp:RV->Store->Prop)(h:a_k4 c0 c1 c2 c3 c4 c5 c6 c7 c8 s σ Qp) :DCalls prog f_7 [.agg [c0,c1,c2,c3,c4,iD c5,iD c6,iD c7,iD c8],iA s] σ Qp:=
 a_a mixed (by kernel_rfl) Tryz.func145 a_ht (Eq.mp (by kernel_rfl) h)
def a_hx:Ann:= { esc:= [26],draws:= [(9,{ ord:= [0,2,4,6,7,1,3,5,8,9,10] })] }
def a_lx (text:ByteArray)(σ:Store)(Qp:RV->Store->Prop) :Prop:=
 DCalls prog o_6 [.one (.str text)] σ (fun r Z=>∃s:ByteArray,∃n:Int,(r=(.tup [.one (.str s),iA n]:RV))/\a_b (n != 0) (Qp (.tup [.agg [iD 0,iD 0,iD 0, .str (ByteArray.mk (List.toArray []))],iA n]) Z) (a_b (decide ((ByteArray.size s:Int) < 7)) (Qp (.tup [.agg [iD 0,iD 0,iD 0, .str (ByteArray.mk (List.toArray []))],iA 3]) Z) (a_b (decide ((ByteArray.size s:Int) > 1007)) (Qp (.tup [.agg [iD 0,iD 0,iD 0, .str (ByteArray.mk (List.toArray []))],iA 2]) Z) (Fw.newObj Z (.live q_p [[.str s, .bool false]]) (fun id Z1=>((0:Int)<=7)/\((7:Int)<=(ByteArray.size s:Int))/\DCalls prog d_w [.one (.el (.osl id 0 1) 0 0),iA 1] Z1 (fun r1 Z2=>∃n1:Int,(r1=(.a (iA n1) :RV))/\DCalls prog d_w [.one (.el (.osl id 0 1) 0 0),iA 2] Z2 (fun r2 Z3=>∃n2:Int,(r2=(.a (iA n2) :RV))/\DCalls prog d_w [.one (.el (.osl id 0 1) 0 0),iA 4] Z3 (fun r3 Z4=>∃n3:Int,(r3=(.a (iA n3) :RV))/\Qp (.tup [.agg [iD n1,iD n2,iD n3, .str (ByteArray.extract s 7 (ByteArray.size s))],iA 0]) Z4))))))))
theorem a_mf (text:ByteArray)(σ:Store)(Qp:RV->Store->Prop)(h:a_lx text σ Qp) :DCalls prog k_b [.one (.str text)] σ Qp:=
 a_a mixed (by kernel_rfl) Tryz.func149 a_hx (Eq.mp (by kernel_rfl) h)
def t_x:Ann:= { cbs:= [2] }
def w_u (p0 p1 p2 p3 p4:D)(p5 p6 p7 p8 x:Int)(σ:Store)(Qp:RV->Store->Prop) :Prop:=
 a_b (decide (x < 0)) (Qp (.tup [.agg [iD 0,iD 0],bA false]) σ) (wL p2 fun len=>a_b (decide (x>=(len:Int))) (Qp (.tup [.agg [iD 0,iD 0],bA false]) σ) (wI prog σ p2 2 x fun row=>∃n n1:Int,((List.take 2 row) =([iD n,iD n1]:List D))/\Qp (.tup [.agg [iD n,iD n1],bA true]) σ))
theorem w_d (p0 p1 p2 p3 p4:D)(p5 p6 p7 p8 x:Int)(σ:Store)(Qp:RV->Store->Prop)(h:w_u p0 p1 p2 p3 p4 p5 p6 p7 p8 x σ Qp) :DCalls prog c_y [.agg [p0,p1,p2,p3,p4,iD p5,iD p6,iD p7,iD p8],iA x] σ Qp:=
 a_a mixed (by kernel_rfl) Tryz.func153 t_x (Eq.mp (by kernel_rfl) h)
def k_l:Ann:= { }
def l_a (s f:D)(σ:Store)(Qp:RV->Store->Prop) :Prop:=
 DCalls prog e_s [.one s, .one f] σ (fun r Z=>∃n:Int,(r=(.a (iA n) :RV))/\Qp (.a (.one (.bool (decide (n>=0))))) Z)
theorem l_f (s f:D)(σ:Store)(Qp:RV->Store->Prop)(h:l_a s f σ Qp) :DCalls prog c_h [.one s, .one f] σ Qp:=
 a_a mixed (by kernel_rfl) Tryz.func157 k_l (Eq.mp (by kernel_rfl) h)
def q_4:Ann:= { loops:= [(3,{ mods:= [(5,s6),(13,s6)],keep:= [11,12] })] }
def s_l (r:D)(n:Int)(σ:Store)(Qp:RV->Store->Prop) :Prop:=
 DCalls prog h_f [.one r,iA 0,iA n] σ (fun r1 Z=>∃s:ByteArray,(r1=(.a (.one (.str s)) :RV))/\∃len:Nat,(Len (.sl 1 (c_3 s)) len)/\∃I:Int->Int->Store->Prop,∃μ:Int->Int->Store->Nat,(I 0 0 Z)/\∀n1 n2:Int,∀Z1,(I n1 n2 Z1)->a_b (decide (n2 < (len:Int))) (∃len1:Nat,(Idx prog Z1 (.sl 1 (c_3 s)) 1 len1)/\((0:Int)<=n2)/\(n2 < (len1:Int))/\∃row:List D,(Row Z1 (.sl 1 (c_3 s)) (Int.toNat n2) row)/\∃n3:Int,((List.take 1 row) =([.int .u8 n3]:List D))/\(I (w64 (BitVec.toNat ((BitVec.ofInt 64 (w64 (n1 * (2 ^ 8)))) ||| (BitVec.ofInt 64 (w64 n3))) :Int)) (w64 (n2+1)) Z1)/\((μ (w64 (BitVec.toNat ((BitVec.ofInt (IntKind.bits .i64) (w64 (n1 * (2 ^ (Min.min (Int.toNat 8) (IntKind.bits .i64)))))) ||| (BitVec.ofInt (IntKind.bits .i64) (w64 n3))) :Int)) (w64 (n2+1)) Z1) < (μ n1 n2 Z1))) (Qp (.a (iA n1)) Z1))
theorem s_2 (r:D)(n:Int)(σ:Store)(Qp:RV->Store->Prop)(h:s_l r n σ Qp) :DCalls prog d_d [.one r,iA n] σ Qp:=
 a_a mixed (by kernel_rfl) Tryz.func161 q_4 (Eq.mp (by kernel_rfl) h)
def t_e:Ann:= { loops:= [(6,{ mods:= [(5,s6),(6,s6)],keep:= [0,1] })],joins:= [(4,{ keep:= [0,1] })] }
def u_u (r:D)(width:Int)(σ:Store)(Qp:RV->Store->Prop) :Prop:=
 ∀R:Store->Prop,(∀Z,(∃I:Int->Int->Store->Prop,∃μ:Int->Int->Store->Nat,(I 0 0 Z)/\∀n n1:Int,∀Z1,(I n n1 Z1)->a_b (decide (n1 < width)) (wR r Z1 fun s i off row=>∃s1:ByteArray,((List.take 1 (List.drop (off+0) row)) =([.str s1]:List D))/\∃n2:Int,(r_k s1 n1 n2)/\(I (w64 ((w64 (256 * n)) + (w64 n2))) (w64 (n1+1)) Z1)/\((μ (w64 ((w64 (256 * n)) + (w64 n2))) (w64 (n1+1)) Z1) < (μ n n1 Z1))) (wR r Z1 fun s i off row=>∃s1:ByteArray,((List.take 1 (List.drop (off+0) row)) =([.str s1]:List D))/\((0:Int)<=width)/\(width<=(ByteArray.size s1:Int))/\(a_u r)/\∃s2:D,∃i1 off1:Nat,(r=(.el s2 i1 off1:D))/\a_k [.str (ByteArray.extract s1 (Int.toNat width) (ByteArray.size s1))] Z1 s2 i1 (off1+0) (fun Z2=>Qp (.a (iA n)) Z2)))->R Z)->wR r σ fun s i off row=>∃b:Bool,((List.take 1 (List.drop (off+1) row)) =([.bool b]:List D))/\a_b b ((a_u r)/\∃s1:D,∃i1 off1:Nat,(r=(.el s1 i1 off1:D))/\a_k [.bool true] σ s1 i1 (off1+1) (fun Z=>Qp (.a (iA 0)) Z)) (wR r σ fun s1 i1 off1 row1=>∃s2:ByteArray,((List.take 1 (List.drop (off1+0) row1)) =([.str s2]:List D))/\a_b (decide ((ByteArray.size s2:Int) < width)) ((a_u r)/\∃s3:D,∃i2 off2:Nat,(r=(.el s3 i2 off2:D))/\a_k [.bool true] σ s3 i2 (off2+1) (fun Z=>Qp (.a (iA 0)) Z)) (R σ))
theorem v_k (r:D)(width:Int)(σ:Store)(Qp:RV->Store->Prop)(h:u_u r width σ Qp) :DCalls prog d_w [.one r,iA width] σ Qp:=
 a_a mixed (by kernel_rfl) Tryz.func169 t_e (Eq.mp (by kernel_rfl) h)
def a_ni:Ann:= { loops:= [(3,{ mods:= [(3,SlotSh.one (Sh.int IntKind.u32)),(9,s6)],keep:= [7,8] }),(6,{ mods:= [(3,SlotSh.one (Sh.int IntKind.u32)),(15,s6)],keep:= [5,7,8,9,14] }),(10,{ mods:= [(3,SlotSh.one (Sh.int IntKind.u32)),(25,s6)],keep:= [5,7,8,9,14,15] })] }
def a_rh (parts:D)(σ:Store)(Qp:RV->Store->Prop) :Prop:=
 wL parts fun len=>∃I:Int->Int->Store->Prop,∃μ:Int->Int->Store->Nat,(I 4294967295 0 σ)/\∀n n1:Int,∀Z,(I n n1 Z)->a_b (decide (n1 < (len:Int))) (wI prog Z parts 1 n1 fun row=>∃s:ByteArray,((List.take 1 row) =([.str s]:List D))/\∃I1:Int->Int->Store->Prop,∃μ1:Int->Int->Store->Nat,(I1 n 0 Z)/\∀n2 n3:Int,∀Z1,(I1 n2 n3 Z1)->a_b (decide (n3 < (ByteArray.size s:Int))) (∃n4:Int,(r_k s n3 n4)/\∃I2:Int->Int->Store->Prop,∃μ2:Int->Int->Store->Nat,(I2 (IntKind.wrap .u32 (BitVec.toNat ((BitVec.ofInt 32 n2) ^^^ (BitVec.ofInt 32 (IntKind.wrap .u32 ((IntKind.wrap .u32 n4) * (2 ^ 24))))) :Int)) 0 Z1)/\∀n5 n6:Int,∀Z2,(I2 n5 n6 Z2)->a_b (decide (n6 < 8)) ((I2 (IntKind.wrap .u32 (BitVec.toNat ((BitVec.ofInt 32 (IntKind.wrap .u32 (n5 * (2 ^ 1)))) ^^^ (BitVec.ofInt 32 (IntKind.wrap .u32 (BitVec.toNat ((BitVec.ofInt 32 79764919) &&& (BitVec.ofInt 32 (IntKind.wrap .u32 (0 - (Int.fdiv n5 (2 ^ 31)))))) :Int)))) :Int)) (w64 (n6+1)) Z2)/\((μ2 (IntKind.wrap .u32 (BitVec.toNat ((BitVec.ofInt (IntKind.bits .u32) (IntKind.wrap .u32 (n5 * (2 ^ (Min.min (Int.toNat 1) (IntKind.bits .u32)))))) ^^^ (BitVec.ofInt (IntKind.bits .u32) (IntKind.wrap .u32 (BitVec.toNat ((BitVec.ofInt (IntKind.bits .u32) 79764919) &&& (BitVec.ofInt (IntKind.bits .u32) (IntKind.wrap .u32 (0 - (Int.fdiv n5 (2 ^ (Min.min (Int.toNat 31) (IntKind.bits .u32)))))))) :Int)))) :Int)) (w64 (n6+1)) Z2) < (μ2 n5 n6 Z2))) ((I1 n5 (w64 (n3+1)) Z2)/\((μ1 n5 (w64 (n3+1)) Z2) < (μ1 n2 n3 Z1)))) ((I n2 (w64 (n1+1)) Z1)/\((μ n2 (w64 (n1+1)) Z1) < (μ n n1 Z)))) (Qp (.a (iA (w64 n))) Z)
theorem a_q5 (parts:D)(σ:Store)(Qp:RV->Store->Prop)(h:a_rh parts σ Qp) :DCalls prog l_m [.one parts] σ Qp:=
 a_a mixed (by kernel_rfl) Tryz.func173 a_ni (Eq.mp (by kernel_rfl) h)
def q_2:Ann:= { }
def t_j (t:D)(e_:Int)(σ:Store)(Qp:RV->Store->Prop) :Prop:=
 wR t σ fun s i off row=>∃n:Int,((List.take 1 (List.drop (off+0) row)) =([iD n]:List D))/\a_b (n == 0) ((a_u t)/\∃s1:D,∃i1 off1:Nat,(t=(.el s1 i1 off1:D))/\a_k [iD e_] σ s1 i1 (off1+0) (fun Z=>Qp (.tup []) Z)) (Qp (.tup []) σ)
theorem s_3 (t:D)(e_:Int)(σ:Store)(Qp:RV->Store->Prop)(h:t_j t e_ σ Qp) :DCalls prog g_k [.one t,iA e_] σ Qp:=
 a_a mixed (by kernel_rfl) Tryz.func177 q_2 (Eq.mp (by kernel_rfl) h)
end Go.Proofs.YtaklhjodjbgmgaaGreat
end
section
set_option maxRecDepth 100000
namespace Go.Proofs.YtaklhjodjbgmgaaGreat
open Go.Fw Go.Proofs
open Go.Proofs.Tryz (prog)
def a_no:Ann:= { esc:= [39,111],draws:= [(6,{ ord:= [0,1,3,4,6,7,9,10,2,12,5,8,11,13,14,15,16,17,18,19],nb:= [4,7,10] }),(13,{ ord:= [0,1,2,3,4,5,6,8,9,7,10,11,12,13,14,15],nb:= [9],sp:= [7] }),(21,{ ord:= [0,1,2,3,4,5,6,7,8,9,11,12,10,13,14,15,16,17,18,19,20],nb:= [11],sp:= [10,13] })],loops:= [(9,{ mods:= [(42,s6)],keep:= [2,7,40,41] }),(19,{ mods:= [(93,s6)],keep:= [2,7] })] }
def a_rp (c0 c1 c2 c3 c4:D)(c5 c6 c7 c8:Int)(trains:D)(σ:Store)(Qp:RV->Store->Prop) :Prop:=
 DCalls prog o_m [.agg [c0,c1,c2,c3,c4,iD c5,iD c6,iD c7,iD c8]] σ (fun r Z=>∃n:Int,(r=(.a (iA n) :RV))/\a_b (n != 0) (Qp (.tup [.one .nilp,iA n]) Z) (wL trains fun len=>a_b (decide ((len:Int) > 4)) (Qp (.tup [.one .nilp,iA 5]) Z) (DCalls prog d_g [.one c0] Z (fun r1 Z1=>∃d:D,(r1=(.a (.one d) :RV))/\DCalls prog d_8 [.one c1] Z1 (fun r2 Z2=>∃d1:D,(r2=(.a (.one d1) :RV))/\DCalls prog d_0 [.one c2] Z2 (fun r3 Z3=>∃d2:D,(r3=(.a (.one d2) :RV))/\DCalls prog b_l [.one c3] Z3 (fun r4 Z4=>∃d3:D,(r4=(.a (.one d3) :RV))/\Fw.newObj Z4 (.mp 0 []) (fun id Z5=>Fw.newObj Z5 (.live a_y [[.omap id,d,d1,d2,d3,c4,iD c5,iD c6,iD c7,iD c8, .nils, .nils, .nils, .nils, .nils,iD 0]]) (fun id1 Z6=>wL trains fun len1=>∃I:Int->Store->Prop,∃μ:Int->Store->Nat,(I 0 Z6)/\∀n1:Int,∀Z7,(I n1 Z7)->a_b (decide (n1 < (len1:Int))) (wI prog Z7 trains 2 n1 fun row=>∃d4:D,∃n2:Int,((List.take 2 row) =([d4,iD n2]:List D))/\DCalls prog i_v [.one (.el (.osl id1 0 1) 0 0), .agg [d4,iD n2]] Z7 (fun r5 Z8=>∃b:Bool,(r5=(.a (bA b) :RV))/\a_b (!b) (Qp (.tup [.one .nilp,iA 30]) Z8) (∃pre:List A->Store->Prop,∃post:List A->Store->RV->Store->Prop,(b_7 prog b_l pre post)/\∃row1:List D,(Row Z8 (.osl id1 0 1) 0 row1)/\∃d5:D,((List.take 1 (List.drop 14 row1)) =([d5]:List D))/\(pre [.one d4] Z8)/\∀r6:RV,∀s:Store,(post [.one d4] Z8 r6 s)->∃d6:D,(r6=(.a (.one d6) :RV))/\Fw.newObj s (.live a_m [[d6,iD n2]]) (fun id2 Z9=>a_j prog Z9 a_m 32 d5 (.osl id2 0 1) (fun d7 Z10=>a_k [d7] Z10 (.osl id1 0 1) 0 14 (fun Z11=>(([[d,d1,d2,d3,c4,iD c5,iD c6,iD c7,iD c8]]:List (List D)) =([[d,d1,d2,d3,c4,iD c5,iD c6,iD c7,iD c8]]:List (List D)))/\(I (w64 (n1+1)) Z11)/\((μ (w64 (n1+1)) Z11) < (μ n1 Z7)))))))) (Fw.newObj Z7 (.live a_l [[iD 1,iD 1,iD 0]]) (fun id2 Z8=>wL d fun len2=>DCalls prog c_n [.one (.osl id2 0 1),iA (len2:Int)] Z8 (fun r5 Z9=>∃d4:D,(r5=(.a (.one d4) :RV))/\a_k [d4] Z9 (.osl id1 0 1) 0 10 (fun Z10=>Fw.newObj Z10 (.live a_l [[iD 1,iD 1,iD 0]]) (fun id3 Z11=>wL d3 fun len3=>DCalls prog c_n [.one (.osl id3 0 1),iA (len3:Int)] Z11 (fun r6 Z12=>∃d5:D,(r6=(.a (.one d5) :RV))/\a_k [d5] Z12 (.osl id1 0 1) 0 11 (fun Z13=>Fw.newObj Z13 (.live b_c [[iD 0,iD (-1)]]) (fun id4 Z14=>wL d2 fun len4=>DCalls prog d_2 [.one (.osl id4 0 1),iA (len4:Int)] Z14 (fun r7 Z15=>∃d6:D,(r7=(.a (.one d6) :RV))/\a_k [d6] Z15 (.osl id1 0 1) 0 12 (fun Z16=>∃I1:Int->Store->Prop,∃μ1:Int->Store->Nat,(I1 0 Z16)/\∀n2:Int,∀Z17,(I1 n2 Z17)->a_b (decide (n2 < 4)) (∃pre:List A->Store->Prop,∃post:List A->Store->RV->Store->Prop,(b_7 prog e_6 pre post)/\∃pre1:List A->Store->Prop,∃post1:List A->Store->RV->Store->Prop,(b_7 prog i_j pre1 post1)/\∃row:List D,(Row Z17 (.osl id1 0 1) 0 row)/\∃d7:D,((List.take 1 (List.drop 13 row)) =([d7]:List D))/\(pre [.one (iD (w64 (n2+50))),iA c5] Z17)/\∀r8:RV,∀s:Store,(post [.one (iD (w64 (n2+50))),iA c5] Z17 r8 s)->∃d8:D,(r8=(.a (.one d8) :RV))/\(pre1 [.agg [d,d1,d2,d3,c4,iD c5,iD c6,iD c7,iD c8],iA n2] s)/\∀r9:RV,∀s1:Store,(post1 [.agg [d,d1,d2,d3,c4,iD c5,iD c6,iD c7,iD c8],iA n2] s r9 s1)->∃d9 d10 d11 d12:D,(r9=(.a (.agg [d9,d10,d11,d12]) :RV))/\Fw.newObj s1 (.live d_j [[d8,d9,d10,d11,d12,iD (-1)]]) (fun id5 Z18=>Fw.newObj Z18 (.live b_5 [[.el (.osl id5 0 1) 0 0]]) (fun id6 Z19=>a_j prog Z19 b_5 8 d7 (.osl id6 0 1) (fun d13 Z20=>a_k [d13] Z20 (.osl id1 0 1) 0 13 (fun Z21=>(([[d,d1,d2,d3,c4,iD c5,iD c6,iD c7,iD c8]]:List (List D)) =([[d,d1,d2,d3,c4,iD c5,iD c6,iD c7,iD c8]]:List (List D)))/\(I1 (w64 (n2+1)) Z21)/\((μ1 (w64 (n2+1)) Z21) < (μ1 n2 Z17))))))) (Qp (.tup [.one (.el (.osl id1 0 1) 0 0),iA 0]) Z17))))))))))))))))))))
theorem a_qc (c0 c1 c2 c3 c4:D)(c5 c6 c7 c8:Int)(trains:D)(σ:Store)(Qp:RV->Store->Prop)(h:a_rp c0 c1 c2 c3 c4 c5 c6 c7 c8 trains σ Qp) :DCalls prog o_c [.agg [c0,c1,c2,c3,c4,iD c5,iD c6,iD c7,iD c8], .one trains] σ Qp:=
 a_a mixed (by kernel_rfl) Tryz.func9 a_no (Eq.mp (by kernel_rfl) h)
def x_5:Ann:= { draws:= [(5,{ ord:= [0,1,2,3,4,5,6,7,8,9,10,11],sp:= [10] }),(10,{ ord:= [0,1,2,3,4,5,6,7,8,9,10,11],sp:= [10] })],loops:= [(3,{ mods:= [(21,s6)],keep:= [0,20] }),(8,{ mods:= [(42,s6)],keep:= [0,41] })] }
def z_m (y:D)(now:Int)(σ:Store)(Qp:RV->Store->Prop) :Prop:=
 wR y σ fun s i off row=>∃n:Int,((List.take 1 (List.drop (off+15) row)) =([iD n]:List D))/\a_b (decide (now<=n)) (Qp (.tup []) σ) ((a_u y)/\∃s1:D,∃i1 off1:Nat,(y=(.el s1 i1 off1:D))/\a_k [iD now] σ s1 i1 (off1+15) (fun Z=>wR y Z fun s2 i2 off2 row1=>∃d:D,((List.take 1 (List.drop (off2+10) row1)) =([d]:List D))/\wL d fun len=>∃I:Int->Store->Prop,∃μ:Int->Store->Nat,(I 0 Z)/\∀n1:Int,∀Z1,(I n1 Z1)->a_b (decide (n1 < (len:Int))) (∃pre:List A->Store->Prop,∃post:List A->Store->RV->Store->Prop,(b_7 prog b_f pre post)/\wR y Z1 fun s3 i3 off3 row2=>∃d1:D,((List.take 1 (List.drop (off3+10) row2)) =([d1]:List D))/\∃len1:Nat,(Idx prog Z1 d1 3 len1)/\((0:Int)<=n1)/\(n1 < (len1:Int))/\(a_u y)/\∃s4:D,∃i4 off4:Nat,(y=(.el s4 i4 off4:D))/\(pre [.one (.el s4 i4 (off4+0)),iA 3,iA n1] Z1)/\∀r:RV,∀s5:Store,(post [.one (.el s4 i4 (off4+0)),iA 3,iA n1] Z1 r s5)->∃b:Bool,(r=(.a (bA b) :RV))/\DCalls prog f_p [.one (.el d1 (Int.toNat n1) 0),bA b] s5 (fun r1 Z2=>(r1=(.tup []:RV))/\(I (w64 (n1+1)) Z2)/\((μ (w64 (n1+1)) Z2) < (μ n1 Z1)))) (wR y Z1 fun s3 i3 off3 row2=>∃d1:D,((List.take 1 (List.drop (off3+11) row2)) =([d1]:List D))/\wL d1 fun len1=>∃I1:Int->Store->Prop,∃μ1:Int->Store->Nat,(I1 0 Z1)/\∀n2:Int,∀Z2,(I1 n2 Z2)->a_b (decide (n2 < (len1:Int))) (∃pre:List A->Store->Prop,∃post:List A->Store->RV->Store->Prop,(b_7 prog b_f pre post)/\wR y Z2 fun s4 i4 off4 row3=>∃d2:D,((List.take 1 (List.drop (off4+11) row3)) =([d2]:List D))/\∃len2:Nat,(Idx prog Z2 d2 3 len2)/\((0:Int)<=n2)/\(n2 < (len2:Int))/\(a_u y)/\∃s5:D,∃i5 off5:Nat,(y=(.el s5 i5 off5:D))/\(pre [.one (.el s5 i5 (off5+0)),iA 6,iA n2] Z2)/\∀r:RV,∀s6:Store,(post [.one (.el s5 i5 (off5+0)),iA 6,iA n2] Z2 r s6)->∃b:Bool,(r=(.a (bA b) :RV))/\DCalls prog f_p [.one (.el d2 (Int.toNat n2) 0),bA b] s6 (fun r1 Z3=>(r1=(.tup []:RV))/\(I1 (w64 (n2+1)) Z3)/\((μ1 (w64 (n2+1)) Z3) < (μ1 n2 Z2)))) (Qp (.tup []) Z2))))
theorem a_bd (y:D)(now:Int)(σ:Store)(Qp:RV->Store->Prop)(h:z_m y now σ Qp) :DCalls prog f_8 [.one y,iA now] σ Qp:=
 a_a mixed (by kernel_rfl) Tryz.func13 x_5 (Eq.mp (by kernel_rfl) h)
def a_c3:Ann:= { draws:= [(5,{ ord:= [0,2,3,5,6,1,4,7,8,9,10],nb:= [6] })],loops:= [(3,{ mods:= [(3,SlotSh.one (Sh.any)),(8,s6)],keep:= [6,7] })] }
def a_ev (l:D)(σ:Store)(Qp:RV->Store->Prop) :Prop:=
 wL l fun len=>∃I:D->Int->Store->Prop,∃μ:D->Int->Store->Nat,(I .nils 0 σ)/\∀d:D,∀n:Int,∀Z,(I d n Z)->a_b (decide (n < (len:Int))) (wI prog Z l 2 n fun row=>∃d1:D,∃n1:Int,((List.take 2 row) =([d1,iD n1]:List D))/\Fw.newObj Z (.live a_e []) (fun id Z1=>a_j prog Z1 a_e 8 (.osl id 0 0) d1 (fun d2 Z2=>Fw.newObj Z2 (.live a_m [[d2,iD n1]]) (fun id1 Z3=>a_j prog Z3 a_m 32 d (.osl id1 0 1) (fun d3 Z4=>(I d3 (w64 (n+1)) Z4)/\((μ d3 (w64 (n+1)) Z4) < (μ d n Z))))))) (Qp (.a (.one d)) Z)
theorem a_fh (l:D)(σ:Store)(Qp:RV->Store->Prop)(h:a_ev l σ Qp) :DCalls prog i_b [.one l] σ Qp:=
 a_a mixed (by kernel_rfl) Tryz.func17 a_c3 (Eq.mp (by kernel_rfl) h)
def x_k:Ann:= { draws:= [(6,{ ord:= [0,1,2,3,4,5,6,7,8,9,10,11,12] })],joins:= [(6,{ keep:= [0,5] })] }
def z_o (y:D)(t:Int)(σ:Store)(Qp:RV->Store->Prop) :Prop:=
 DCalls prog c_k [.one y,iA t] σ (fun r Z=>∃d:D,(r=(.a (.one d) :RV))/\∀R:Store->Prop,(∀Z1,(wR d Z1 fun s i off row=>∃d1:D,((List.take 1 (List.drop (off+0) row)) =([d1]:List D))/\wI prog Z1 d1 1 0 fun row1=>∃n:Int,((List.take 1 row1) =([iD n]:List D))/\wR d Z1 fun s1 i1 off1 row2=>∃n1:Int,((List.take 1 (List.drop (off1+1) row2)) =([iD n1]:List D))/\DCalls prog d_a [.one y,iA n,iA n1] Z1 (fun r1 Z2=>∃n2:Int,(r1=(.a (iA n2) :RV))/\a_b (decide (n2 < 0)) (Qp (.a (iA 29)) Z2) (wR d Z2 fun s2 i2 off2 row3=>∃d2:D,((List.take 1 (List.drop (off2+0) row3)) =([d2]:List D))/\wI prog Z2 d2 1 0 fun row4=>∃n3:Int,((List.take 1 row4) =([iD n3]:List D))/\DCalls prog c_a [.one y,iA n3,iA n2] Z2 (fun r2 Z3=>∃b:Bool,(r2=(.a (bA b) :RV))/\a_b (!b) (Qp (.a (iA 29)) Z3) ((a_u d)/\∃s3:D,∃i3 off3:Nat,(d=(.el s3 i3 off3:D))/\a_k [iD n2] Z3 s3 i3 (off3+1) (fun Z4=>Qp (.a (iA 0)) Z4))))))->R Z1)->∃b:Bool,(h_s .pt d b)/\a_b (b != false) (Qp (.a (iA 30)) Z) (wR d Z fun s i off row=>∃d1:D,((List.take 1 (List.drop (off+0) row)) =([d1]:List D))/\wL d1 fun len=>a_b ((len:Int) != 1) (Qp (.a (iA 29)) Z) (wR d Z fun s1 i1 off1 row1=>∃n:Int,((List.take 1 (List.drop (off1+1) row1)) =([iD n]:List D))/\a_b (decide (n < 0)) (Qp (.a (iA 29)) Z) (R Z))))
theorem z_3 (y:D)(t:Int)(σ:Store)(Qp:RV->Store->Prop)(h:z_o y t σ Qp) :DCalls prog i_0 [.one y,iA t] σ Qp:=
 a_a mixed (by kernel_rfl) Tryz.func21 x_k (Eq.mp (by kernel_rfl) h)
def t_q:Ann:= { draws:= [(8,{ ord:= [0,1,2,3,4,5,6,7,8,9,10,11,12,13,14,15,16,17],nb:= [1] }),(21,{ ord:= [0,1,2,3,4,5,6,7,8,9,10,11,12,13,14,15,16,17],nb:= [1] }),(26,{ ord:= [0,1,2,3,4,5,6,7,8,9,10,11,12],nb:= [1] })],loops:= [(6,{ mods:= [(5,SlotSh.bx [Sh.any,Sh.any,Sh.any,Sh.any]),(41,s6)],keep:= [0,4,6,39,40] }),(11,{ mods:= [(5,SlotSh.bx [Sh.any,Sh.any,Sh.any,Sh.any]),(66,s6)],keep:= [0,4,6,64,65] }),(19,{ mods:= [(5,SlotSh.bx [Sh.any,Sh.any,Sh.any,Sh.any]),(102,s6)],keep:= [0,4,6,100,101] }),(24,{ mods:= [(5,SlotSh.bx [Sh.any,Sh.any,Sh.any,Sh.any]),(127,s6)],keep:= [0,4,125,126] })],joins:= [(4,{ mods:= [(4,SlotSh.bx [Sh.any,Sh.any,Sh.any,Sh.any])],keep:= [0,1,5] })] }
def v_i (y:D)(oc:Int)(σ:Store)(Qp:RV->Store->Prop) :Prop:=
 ∀R:D->D->D->D->Store->Prop,(∀d d1 d2 d3:D,∀Z,(wR y Z fun s i off row=>∃d4:D,((List.take 1 (List.drop (off+13) row)) =([d4]:List D))/\wI prog Z d4 1 oc fun row1=>∃d5:D,((List.take 1 row1) =([d5]:List D))/\wR d5 Z fun s1 i1 off1 row2=>∃d6 d7 d8 d9:D,((List.take 4 (List.drop (off1+1) row2)) =([d6,d7,d8,d9]:List D))/\wL d6 fun len1=>∃I:D->D->D->D->Int->Store->Prop,∃μ:D->D->D->D->Int->Store->Nat,(I .nils .nils .nils .nils 0 Z)/\∀d10 d11 d12 d13:D,∀n:Int,∀Z1,(I d10 d11 d12 d13 n Z1)->a_b (decide (n < (len1:Int))) (wI prog Z1 d6 1 n fun row3=>∃n1:Int,((List.take 1 row3) =([iD n1]:List D))/\DCalls prog b_j [.one y,iA n1] Z1 (fun r Z2=>∃n2:Int,(r=(.a (iA n2) :RV))/\a_b (decide (n2 > 0)) (DCalls prog g_7 [bA true] Z2 (fun r1 Z3=>∃n3:Int,(r1=(.a (iA n3) :RV))/\Fw.newObj Z3 (.live a_e [[iD n3]]) (fun id Z4=>a_j prog Z4 a_e 8 d10 (.osl id 0 1) (fun d14 Z5=>(([[d,d1,d2,d3],[d6,d7,d8,d9]]:List (List D)) =([[d,d1,d2,d3],[d6,d7,d8,d9]]:List (List D)))/\(I d14 d11 d12 d13 (w64 (n+1)) Z5)/\((μ d14 d11 d12 d13 (w64 (n+1)) Z5) < (μ d10 d11 d12 d13 n Z1)))))) ((a_u y)/\∃s2:D,∃i2 off2:Nat,(y=(.el s2 i2 off2:D))/\DCalls prog b_f [.one (.el s2 i2 (off2+0)),iA 1,iA n1] Z2 (fun r1 Z3=>∃b:Bool,(r1=(.a (bA b) :RV))/\DCalls prog g_7 [bA b] Z3 (fun r2 Z4=>∃n3:Int,(r2=(.a (iA n3) :RV))/\Fw.newObj Z4 (.live a_e [[iD n3]]) (fun id Z5=>a_j prog Z5 a_e 8 d10 (.osl id 0 1) (fun d14 Z6=>(([[d,d1,d2,d3],[d6,d7,d8,d9]]:List (List D)) =([[d,d1,d2,d3],[d6,d7,d8,d9]]:List (List D)))/\(I d14 d11 d12 d13 (w64 (n+1)) Z6)/\((μ d14 d11 d12 d13 (w64 (n+1)) Z6) < (μ d10 d11 d12 d13 n Z1))))))))) (wL d7 fun len2=>∃I1:D->D->D->D->Int->Store->Prop,∃μ1:D->D->D->D->Int->Store->Nat,(I1 d10 d11 d12 d13 0 Z1)/\∀d14 d15 d16 d17:D,∀n1:Int,∀Z2,(I1 d14 d15 d16 d17 n1 Z2)->a_b (decide (n1 < (len2:Int))) (wI prog Z2 d7 1 n1 fun row3=>∃n2:Int,((List.take 1 row3) =([iD n2]:List D))/\wR y Z2 fun s2 i2 off2 row4=>∃d18:D,((List.take 1 (List.drop (off2+10) row4)) =([d18]:List D))/\wI prog Z2 d18 3 n2 fun row5=>∃n3:Int,((List.take 1 row5) =([iD n3]:List D))/\wR y Z2 fun s3 i3 off3 row6=>∃d19:D,((List.take 1 (List.drop (off3+10) row6)) =([d19]:List D))/\∃len5:Nat,(Idx prog Z2 d19 3 len5)/\((0:Int)<=n2)/\(n2 < (len5:Int))/\DCalls prog b_y [.one (.el d19 (Int.toNat n2) 0)] Z2 (fun r Z3=>∃b:Bool,(r=(.a (bA b) :RV))/\a_b b (Fw.newObj Z3 (.live a_e [[iD 0]]) (fun id Z4=>a_j prog Z4 a_e 8 d15 (.osl id 0 1) (fun d20 Z5=>(([[d,d1,d2,d3],[d6,d7,d8,d9]]:List (List D)) =([[d,d1,d2,d3],[d6,d7,d8,d9]]:List (List D)))/\(I1 d14 d20 d16 d17 (w64 (n1+1)) Z5)/\((μ1 d14 d20 d16 d17 (w64 (n1+1)) Z5) < (μ1 d14 d15 d16 d17 n1 Z2))))) ((a_u y)/\∃s4:D,∃i4 off4:Nat,(y=(.el s4 i4 off4:D))/\DCalls prog b_f [.one (.el s4 i4 (off4+0)),iA 2,iA n2] Z3 (fun r1 Z4=>∃b1:Bool,(r1=(.a (bA b1) :RV))/\a_b b1 (Fw.newObj Z4 (.live a_e [[iD 0]]) (fun id Z5=>a_j prog Z5 a_e 8 d15 (.osl id 0 1) (fun d20 Z6=>(([[d,d1,d2,d3],[d6,d7,d8,d9]]:List (List D)) =([[d,d1,d2,d3],[d6,d7,d8,d9]]:List (List D)))/\(I1 d14 d20 d16 d17 (w64 (n1+1)) Z6)/\((μ1 d14 d20 d16 d17 (w64 (n1+1)) Z6) < (μ1 d14 d15 d16 d17 n1 Z2))))) (Fw.newObj Z4 (.live a_e [[iD n3]]) (fun id Z5=>a_j prog Z5 a_e 8 d15 (.osl id 0 1) (fun d20 Z6=>(([[d,d1,d2,d3],[d6,d7,d8,d9]]:List (List D)) =([[d,d1,d2,d3],[d6,d7,d8,d9]]:List (List D)))/\(I1 d14 d20 d16 d17 (w64 (n1+1)) Z6)/\((μ1 d14 d20 d16 d17 (w64 (n1+1)) Z6) < (μ1 d14 d15 d16 d17 n1 Z2))))))))) (wL d8 fun len3=>∃I2:D->D->D->D->Int->Store->Prop,∃μ2:D->D->D->D->Int->Store->Nat,(I2 d14 d15 d16 d17 0 Z2)/\∀d18 d19 d20 d21:D,∀n2:Int,∀Z3,(I2 d18 d19 d20 d21 n2 Z3)->a_b (decide (n2 < (len3:Int))) (wI prog Z3 d8 1 n2 fun row3=>∃n3:Int,((List.take 1 row3) =([iD n3]:List D))/\DCalls prog g_b [.one y,iA n3] Z3 (fun r Z4=>∃b:Bool,(r=(.a (bA b) :RV))/\a_b b ((a_u y)/\∃s2:D,∃i2 off2:Nat,(y=(.el s2 i2 off2:D))/\DCalls prog b_f [.one (.el s2 i2 (off2+0)),iA 5,iA n3] Z4 (fun r1 Z5=>∃b1:Bool,(r1=(.a (bA b1) :RV))/\DCalls prog g_7 [bA (!b1)] Z5 (fun r2 Z6=>∃n4:Int,(r2=(.a (iA n4) :RV))/\Fw.newObj Z6 (.live a_e [[iD n4]]) (fun id Z7=>a_j prog Z7 a_e 8 d20 (.osl id 0 1) (fun d22 Z8=>(([[d,d1,d2,d3],[d6,d7,d8,d9]]:List (List D)) =([[d,d1,d2,d3],[d6,d7,d8,d9]]:List (List D)))/\(I2 d18 d19 d22 d21 (w64 (n2+1)) Z8)/\((μ2 d18 d19 d22 d21 (w64 (n2+1)) Z8) < (μ2 d18 d19 d20 d21 n2 Z3))))))) (DCalls prog g_7 [bA false] Z4 (fun r1 Z5=>∃n4:Int,(r1=(.a (iA n4) :RV))/\Fw.newObj Z5 (.live a_e [[iD n4]]) (fun id Z6=>a_j prog Z6 a_e 8 d20 (.osl id 0 1) (fun d22 Z7=>(([[d,d1,d2,d3],[d6,d7,d8,d9]]:List (List D)) =([[d,d1,d2,d3],[d6,d7,d8,d9]]:List (List D)))/\(I2 d18 d19 d22 d21 (w64 (n2+1)) Z7)/\((μ2 d18 d19 d22 d21 (w64 (n2+1)) Z7) < (μ2 d18 d19 d20 d21 n2 Z3)))))))) (wL d9 fun len4=>∃I3:D->D->D->D->Int->Store->Prop,∃μ3:D->D->D->D->Int->Store->Nat,(I3 d18 d19 d20 d21 0 Z3)/\∀d22 d23 d24 d25:D,∀n3:Int,∀Z4,(I3 d22 d23 d24 d25 n3 Z4)->a_b (decide (n3 < (len4:Int))) (wI prog Z4 d9 1 n3 fun row3=>∃n4:Int,((List.take 1 row3) =([iD n4]:List D))/\(a_u y)/\∃s2:D,∃i2 off2:Nat,(y=(.el s2 i2 off2:D))/\DCalls prog b_f [.one (.el s2 i2 (off2+0)),iA 4,iA n4] Z4 (fun r Z5=>∃b:Bool,(r=(.a (bA b) :RV))/\DCalls prog g_7 [bA (!b)] Z5 (fun r1 Z6=>∃n5:Int,(r1=(.a (iA n5) :RV))/\Fw.newObj Z6 (.live a_e [[iD n5]]) (fun id Z7=>a_j prog Z7 a_e 8 d25 (.osl id 0 1) (fun d26 Z8=>(([[d,d1,d2,d3]]:List (List D)) =([[d,d1,d2,d3]]:List (List D)))/\(I3 d22 d23 d24 d26 (w64 (n3+1)) Z8)/\((μ3 d22 d23 d24 d26 (w64 (n3+1)) Z8) < (μ3 d22 d23 d24 d25 n3 Z4))))))) (Qp (.a (.agg [d22,d23,d24,d25])) Z4)))))->R d d1 d2 d3 Z)->a_b (decide (oc < 0)) (Qp (.a (.agg [.nils, .nils, .nils, .nils])) σ) (wR y σ fun s i off row=>∃d:D,((List.take 1 (List.drop (off+13) row)) =([d]:List D))/\wL d fun len=>a_b (decide (oc>=(len:Int))) (Qp (.a (.agg [.nils, .nils, .nils, .nils])) σ) ((([[.nils, .nils, .nils, .nils]]:List (List D)) =([[.nils, .nils, .nils, .nils]]:List (List D)))/\R .nils .nils .nils .nils σ))
theorem u_3 (y:D)(oc:Int)(σ:Store)(Qp:RV->Store->Prop)(h:v_i y oc σ Qp) :DCalls prog e_4 [.one y,iA oc] σ Qp:=
 a_a mixed (by kernel_rfl) Tryz.func25 t_q (Eq.mp (by kernel_rfl) h)
def n_v:Ann:= { }
def o_o (s:D)(σ:Store)(Qp:RV->Store->Prop) :Prop:=
 ∃b:Bool,(h_s .sl s b)/\a_b (b != false) (Qp (.a (.one .nils)) σ) (Fw.newObj σ (.live d_n []) (fun id Z=>a_j prog Z d_n 24 (.osl id 0 0) s (fun d Z1=>Qp (.a (.one d)) Z1)))
theorem o_4 (s:D)(σ:Store)(Qp:RV->Store->Prop)(h:o_o s σ Qp) :DCalls prog d_g [.one s] σ Qp:=
 a_a mixed (by kernel_rfl) Tryz.func29 n_v (Eq.mp (by kernel_rfl) h)
def y_8:Ann:= { cbs:= [3],draws:= [(1,{ ord:= [0,1,2,3,4,5,6,7,8,9,10,11,12,13,14,15,16,17,18,19,20,21,22,23] })],joins:= [(3,{ keep:= [0,3] })] }
def z_p (y t0:D)(t1:Int)(σ:Store)(Qp:RV->Store->Prop) :Prop:=
 ∀R:Store->Prop,(∀Z,(wI prog Z t0 1 0 fun row=>∃n:Int,((List.take 1 row) =([iD n]:List D))/\wR y Z fun s i off row1=>∃d:D,((List.take 1 (List.drop ((off+1) +0) row1)) =([d]:List D))/\wI prog Z d 3 n fun row2=>∃n1:Int,((List.take 1 row2) =([iD n1]:List D))/\a_b (n1 == 0) (a_b (t1 == 0) (DCalls prog b_j [.one y,iA n] Z (fun r Z1=>∃n2:Int,(r=(.a (iA n2) :RV))/\a_b (n2 == 0) (DCalls prog c_a [.one y,iA n,iA t1] Z1 (fun r1 Z2=>∃b:Bool,(r1=(.a (bA b) :RV))/\Qp (.a (bA b)) Z2)) (Qp (.a (bA false)) Z1))) (a_b (t1 == 1) (DCalls prog b_j [.one y,iA n] Z (fun r Z1=>∃n2:Int,(r=(.a (iA n2) :RV))/\a_b (n2 == 0) (DCalls prog c_a [.one y,iA n,iA t1] Z1 (fun r1 Z2=>∃b:Bool,(r1=(.a (bA b) :RV))/\Qp (.a (bA b)) Z2)) (Qp (.a (bA false)) Z1))) (Qp (.a (bA false)) Z))) (Qp (.a (bA false)) Z))->R Z)->wL t0 fun len=>a_b ((len:Int) != 1) (Qp (.a (bA false)) σ) (wI prog σ t0 1 0 fun row=>∃n:Int,((List.take 1 row) =([iD n]:List D))/\a_b (decide (n < 0)) (Qp (.a (bA false)) σ) (wI prog σ t0 1 0 fun row1=>∃n1:Int,((List.take 1 row1) =([iD n1]:List D))/\wR y σ fun s i off row2=>∃d:D,((List.take 1 (List.drop ((off+1) +0) row2)) =([d]:List D))/\wL d fun len3=>a_b (decide (n1>=(len3:Int))) (Qp (.a (bA false)) σ) (R σ)))
theorem a_ax (y t0:D)(t1:Int)(σ:Store)(Qp:RV->Store->Prop)(h:z_p y t0 t1 σ Qp) :DCalls prog i_v [.one y, .agg [t0,iD t1]] σ Qp:=
 a_a mixed (by kernel_rfl) Tryz.func33 y_8 (Eq.mp (by kernel_rfl) h)
def a_h4:Ann:= { esc:= [2,3],loops:= [(4,{ mods:= [(6,SlotSh.bx [Sh.any,Sh.any,Sh.any,Sh.any]),(17,s6)],keep:= [2,4,5,15,16] }),(12,{ mods:= [(6,SlotSh.bx [Sh.any,Sh.any,Sh.any,Sh.any]),(44,s6)],keep:= [2,4,5,42,43] }),(18,{ mods:= [(6,SlotSh.bx [Sh.any,Sh.any,Sh.any,Sh.any]),(62,s6)],keep:= [4,5,60,61] })] }
def a_kn (c0 c1 c2 c3 c4:D)(c5 c6 c7 c8 oc:Int)(σ:Store)(Qp:RV->Store->Prop) :Prop:=
 Fw.newObj σ (.live a_v1 [[c0,c1,c2,c3,c4,iD c5,iD c6,iD c7,iD c8]]) (fun id Z=>Fw.newObj Z (.live a_e [[iD oc]]) (fun id1 Z1=>∃row:List D,(Row Z1 (.osl id 0 1) 0 row)/\∃d:D,((List.take 1 row) =([d]:List D))/\wL d fun len=>∃I:D->D->D->D->Int->Store->Prop,∃μ:D->D->D->D->Int->Store->Nat,(I .nils .nils .nils .nils 0 Z1)/\∀d1 d2 d3 d4:D,∀n:Int,∀Z2,(I d1 d2 d3 d4 n Z2)->a_b (decide (n < (len:Int))) (wI prog Z2 d 3 n fun row1=>∃n1 n2 n3:Int,((List.take 3 row1) =([iD n1,iD n2,iD n3]:List D))/\∃f:FuncId,∃a:List (Bool × (List D)),∃b:List (Bool × (List D)),∃as0':List A,∃bs:List A,((.fn e_m [] [(false,[.el (.osl id 0 1) 0 0]),(false,[.el (.osl id1 0 1) 0 0])]:D) =(.fn f a b:D))/\((c_7 a) =(Option.some as0'))/\((c_7 b) =(Option.some bs))/\DCalls prog f (HAppend.hAppend (HAppend.hAppend as0' [iA n]) bs) Z2 (fun r Z3=>∃b1:Bool,(r=(.a (bA b1) :RV))/\a_b b1 (Fw.newObj Z3 (.live a_e [[iD n]]) (fun id2 Z4=>a_j prog Z4 a_e 8 d1 (.osl id2 0 1) (fun d5 Z5=>a_b (n1 == 1) (Fw.newObj Z5 (.live a_e [[iD n]]) (fun id3 Z6=>a_j prog Z6 a_e 8 d2 (.osl id3 0 1) (fun d6 Z7=>(([[.nils, .nils, .nils, .nils]]:List (List D)) =([[.nils, .nils, .nils, .nils]]:List (List D)))/\(I d5 d6 d3 d4 (w64 (n+1)) Z7)/\((μ d5 d6 d3 d4 (w64 (n+1)) Z7) < (μ d1 d2 d3 d4 n Z2))))) ((([[.nils, .nils, .nils, .nils]]:List (List D)) =([[.nils, .nils, .nils, .nils]]:List (List D)))/\(I d5 d2 d3 d4 (w64 (n+1)) Z5)/\((μ d5 d2 d3 d4 (w64 (n+1)) Z5) < (μ d1 d2 d3 d4 n Z2)))))) ((([[.nils, .nils, .nils, .nils]]:List (List D)) =([[.nils, .nils, .nils, .nils]]:List (List D)))/\(I d1 d2 d3 d4 (w64 (n+1)) Z3)/\((μ d1 d2 d3 d4 (w64 (n+1)) Z3) < (μ d1 d2 d3 d4 n Z2))))) (∃row1:List D,(Row Z2 (.osl id 0 1) 0 row1)/\∃d5:D,((List.take 1 (List.drop 3 row1)) =([d5]:List D))/\wL d5 fun len1=>∃I1:D->D->D->D->Int->Store->Prop,∃μ1:D->D->D->D->Int->Store->Nat,(I1 d1 d2 d3 d4 0 Z2)/\∀d6 d7 d8 d9:D,∀n1:Int,∀Z3,(I1 d6 d7 d8 d9 n1 Z3)->a_b (decide (n1 < (len1:Int))) (wI prog Z3 d5 1 n1 fun row2=>∃n2:Int,((List.take 1 row2) =([iD n2]:List D))/\∃f:FuncId,∃a:List (Bool × (List D)),∃b:List (Bool × (List D)),∃as0':List A,∃bs:List A,((.fn e_m [] [(false,[.el (.osl id 0 1) 0 0]),(false,[.el (.osl id1 0 1) 0 0])]:D) =(.fn f a b:D))/\((c_7 a) =(Option.some as0'))/\((c_7 b) =(Option.some bs))/\DCalls prog f (HAppend.hAppend (HAppend.hAppend as0' [iA n2]) bs) Z3 (fun r Z4=>∃b1:Bool,(r=(.a (bA b1) :RV))/\a_b b1 (Fw.newObj Z4 (.live a_e [[iD n1]]) (fun id2 Z5=>a_j prog Z5 a_e 8 d8 (.osl id2 0 1) (fun d10 Z6=>(([[.nils, .nils, .nils, .nils]]:List (List D)) =([[.nils, .nils, .nils, .nils]]:List (List D)))/\(I1 d6 d7 d10 d9 (w64 (n1+1)) Z6)/\((μ1 d6 d7 d10 d9 (w64 (n1+1)) Z6) < (μ1 d6 d7 d8 d9 n1 Z3))))) ((([[.nils, .nils, .nils, .nils]]:List (List D)) =([[.nils, .nils, .nils, .nils]]:List (List D)))/\(I1 d6 d7 d8 d9 (w64 (n1+1)) Z4)/\((μ1 d6 d7 d8 d9 (w64 (n1+1)) Z4) < (μ1 d6 d7 d8 d9 n1 Z3))))) (∃row2:List D,(Row Z3 (.osl id 0 1) 0 row2)/\∃d10:D,((List.take 1 (List.drop 2 row2)) =([d10]:List D))/\wL d10 fun len2=>∃I2:D->D->D->D->Int->Store->Prop,∃μ2:D->D->D->D->Int->Store->Nat,(I2 d6 d7 d8 d9 0 Z3)/\∀d11 d12 d13 d14:D,∀n2:Int,∀Z4,(I2 d11 d12 d13 d14 n2 Z4)->a_b (decide (n2 < (len2:Int))) (wI prog Z4 d10 2 n2 fun row3=>∃n3 n4:Int,((List.take 2 row3) =([iD n3,iD n4]:List D))/\∃f:FuncId,∃a:List (Bool × (List D)),∃b:List (Bool × (List D)),∃as0':List A,∃bs:List A,((.fn e_m [] [(false,[.el (.osl id 0 1) 0 0]),(false,[.el (.osl id1 0 1) 0 0])]:D) =(.fn f a b:D))/\((c_7 a) =(Option.some as0'))/\((c_7 b) =(Option.some bs))/\DCalls prog f (HAppend.hAppend (HAppend.hAppend as0' [iA n3]) bs) Z4 (fun r Z5=>∃b1:Bool,(r=(.a (bA b1) :RV))/\a_b b1 (Fw.newObj Z5 (.live a_e [[iD n2]]) (fun id2 Z6=>a_j prog Z6 a_e 8 d14 (.osl id2 0 1) (fun d15 Z7=>(([[.nils, .nils, .nils, .nils]]:List (List D)) =([[.nils, .nils, .nils, .nils]]:List (List D)))/\(I2 d11 d12 d13 d15 (w64 (n2+1)) Z7)/\((μ2 d11 d12 d13 d15 (w64 (n2+1)) Z7) < (μ2 d11 d12 d13 d14 n2 Z4))))) ((([[.nils, .nils, .nils, .nils]]:List (List D)) =([[.nils, .nils, .nils, .nils]]:List (List D)))/\(I2 d11 d12 d13 d14 (w64 (n2+1)) Z5)/\((μ2 d11 d12 d13 d14 (w64 (n2+1)) Z5) < (μ2 d11 d12 d13 d14 n2 Z4))))) (Qp (.a (.agg [d11,d12,d13,d14])) Z4)))))
theorem a_mo (c0 c1 c2 c3 c4:D)(c5 c6 c7 c8 oc:Int)(σ:Store)(Qp:RV->Store->Prop)(h:a_kn c0 c1 c2 c3 c4 c5 c6 c7 c8 oc σ Qp) :DCalls prog i_j [.agg [c0,c1,c2,c3,c4,iD c5,iD c6,iD c7,iD c8],iA oc] σ Qp:=
 a_a mixed (by kernel_rfl) Tryz.func37 a_h4 (Eq.mp (by kernel_rfl) h)
def a_kj:Ann:= { esc:= [6] }
def a_oy (limit:Int)(σ:Store)(Qp:RV->Store->Prop) :Prop:=
 Fw.newObj σ (.live l_x [[.nils,iD (ite ((0:Int) > limit) 0 limit),iD 0]]) (fun id Z=>Qp (.a (.one (.el (.osl id 0 1) 0 0))) Z)
theorem a_o3 (limit:Int)(σ:Store)(Qp:RV->Store->Prop)(h:a_oy limit σ Qp) :DCalls prog q_0 [iA limit] σ Qp:=
 a_a mixed (by kernel_rfl) Tryz.func41 a_kj (Eq.mp (by kernel_rfl) h)
def w_p:Ann:= { }
def y_g (x:D)(stuck:Bool)(σ:Store)(Qp:RV->Store->Prop) :Prop:=
 DCalls prog b_y [.one x] σ (fun r Z=>∃b:Bool,(r=(.a (bA b) :RV))/\a_b (!b) (Qp (.tup []) Z) (a_b stuck (Qp (.tup []) Z) (wR x Z fun s i off row=>∃n:Int,((List.take 1 (List.drop (off+2) row)) =([iD n]:List D))/\(a_u x)/\∃s1:D,∃i1 off1:Nat,(x=(.el s1 i1 off1:D))/\a_k [iD (w64 (n - 1))] Z s1 i1 (off1+2) (fun Z1=>DCalls prog b_y [.one x] Z1 (fun r1 Z2=>∃b1:Bool,(r1=(.a (bA b1) :RV))/\a_b (!b1) (wR x Z2 fun s2 i2 off2 row1=>∃n1:Int,((List.take 1 (List.drop (off2+1) row1)) =([iD n1]:List D))/\(a_u x)/\∃s3:D,∃i3 off3:Nat,(x=(.el s3 i3 off3:D))/\a_k [iD n1] Z2 s3 i3 (off3+0) (fun Z3=>Qp (.tup []) Z3)) (Qp (.tup []) Z2))))))
theorem y_d (x:D)(stuck:Bool)(σ:Store)(Qp:RV->Store->Prop)(h:y_g x stuck σ Qp) :DCalls prog f_p [.one x,bA stuck] σ Qp:=
 a_a mixed (by kernel_rfl) Tryz.func45 w_p (Eq.mp (by kernel_rfl) h)
def s_6:Ann:= { }
def w_s (r:D)(σ:Store)(Qp:RV->Store->Prop) :Prop:=
 wR r σ fun s i off row=>∃n:Int,((List.take 1 (List.drop (off+0) row)) =([iD n]:List D))/\Qp (.a (iA n)) σ
theorem w_j (r:D)(σ:Store)(Qp:RV->Store->Prop)(h:w_s r σ Qp) :DCalls prog g_8 [.one r] σ Qp:=
 a_a mixed (by kernel_rfl) Tryz.func49 s_6 (Eq.mp (by kernel_rfl) h)
def s_7:Ann:= { }
def v_l (y:D)(s e_:Int)(σ:Store)(Qp:RV->Store->Prop) :Prop:=
 wR y σ fun s1 i off row=>∃d:D,((List.take 1 (List.drop ((off+1) +2) row)) =([d]:List D))/\DCalls prog d_z [.one d, .agg [iD s,iD e_]] σ (fun r Z=>∃n:Int,(r=(.a (iA n) :RV))/\Qp (.a (iA n)) Z)
theorem u_q (y:D)(s e_:Int)(σ:Store)(Qp:RV->Store->Prop)(h:v_l y s e_ σ Qp) :DCalls prog c_x [.one y,iA s,iA e_] σ Qp:=
 a_a mixed (by kernel_rfl) Tryz.func53 s_7 (Eq.mp (by kernel_rfl) h)
def a_fw:Ann:= { cbs:= [1],draws:= [(14,{ ord:= [0,1,2,3,4,6,7,5,8,9,10],nb:= [1,2,7] }),(16,{ ord:= [0,1,2,3,4,5,6],nb:= [1] })],loops:= [(10,{ mods:= [(25,s6)],keep:= [1,23,24] })] }
def a_im (c0 c1 c2 c3 c4:D)(c5 c6 c7 c8:Int)(σ:Store)(Qp:RV->Store->Prop) :Prop:=
 DCalls prog m_o [.one c0, .one c1] σ (fun r Z=>∃n:Int,(r=(.a (iA n) :RV))/\a_b (n != 0) (Qp (.a (iA 6)) Z) (DCalls prog j_u [.agg [c0,c1,c2,c3,c4,iD c5,iD c6,iD c7,iD c8]] Z (fun r1 Z1=>∃b:Bool,(r1=(.a (bA b) :RV))/\a_b (!b) (Qp (.a (iA 7)) Z1) (DCalls prog h_0 [.agg [c0,c1,c2,c3,c4,iD c5,iD c6,iD c7,iD c8]] Z1 (fun r2 Z2=>∃b1:Bool,(r2=(.a (bA b1) :RV))/\a_b (!b1) (Qp (.a (iA 8)) Z2) (wL c4 fun len=>a_b (decide ((len:Int) > 12)) (Qp (.a (iA 9)) Z2) (wL c4 fun len1=>∃I:Int->Store->Prop,∃μ:Int->Store->Nat,(I 0 Z2)/\∀n1:Int,∀Z3,(I n1 Z3)->a_b (decide (n1 < (len1:Int))) (wI prog Z3 c4 6 n1 fun row=>∃n2 n3:Int,∃d d1 d2:D,∃b2:Bool,((List.take 6 row) =([iD n2,iD n3,d,d1,d2, .bool b2]:List D))/\DCalls prog o_t [.agg [c0,c1,c2,c3,c4,iD c5,iD c6,iD c7,iD c8], .agg [iD n2,iD n3,d,d1,d2, .bool b2]] Z3 (fun r3 Z4=>∃b3:Bool,(r3=(.a (bA b3) :RV))/\a_b (!b3) (Qp (.a (iA 9)) Z4) (DCalls prog i_w [.agg [c0,c1,c2,c3,c4,iD c5,iD c6,iD c7,iD c8],iA n1] Z4 (fun r4 Z5=>∃n4:Int,(r4=(.a (iA n4) :RV))/\DCalls prog n_a [.agg [c0,c1,c2,c3,c4,iD c5,iD c6,iD c7,iD c8],iA n4, .one d] Z5 (fun r5 Z6=>∃d3:D,(r5=(.a (.one d3) :RV))/\DCalls prog h_9 [.one d1, .one d3] Z6 (fun r6 Z7=>∃b4:Bool,(r6=(.a (bA b4) :RV))/\a_b (!b4) (Qp (.a (iA 10)) Z7) (DCalls prog j_w [.agg [c0,c1,c2,c3,c4,iD c5,iD c6,iD c7,iD c8], .agg [iD n2,iD n3,d,d1,d2, .bool b2]] Z7 (fun r7 Z8=>∃d4:D,(r7=(.a (.one d4) :RV))/\DCalls prog i_5 [.one d2, .one d4] Z8 (fun r8 Z9=>∃b5:Bool,(r8=(.a (bA b5) :RV))/\a_b (!b5) (Qp (.a (iA 11)) Z9) ((I (w64 (n1+1)) Z9)/\((μ (w64 (n1+1)) Z9) < (μ n1 Z3)))))))))))) (a_b (decide (c5 < 1)) (Qp (.a (iA 12)) Z3) (a_b (decide (c5 > 8)) (Qp (.a (iA 12)) Z3) (a_b (decide (c6 < 0)) (Qp (.a (iA 12)) Z3) (a_b (decide (c6 > 8)) (Qp (.a (iA 12)) Z3) (a_b (decide (c7 < (w64 ((w64 (c5+c6)) +1)))) (Qp (.a (iA 12)) Z3) (a_b (decide (c7 > 40)) (Qp (.a (iA 12)) Z3) (a_b (decide (c8 < 1)) (Qp (.a (iA 12)) Z3) (a_b (decide (c8 > 1000000)) (Qp (.a (iA 12)) Z3) (Qp (.a (iA 0)) Z3))))))))))))))))
theorem a_g7 (c0 c1 c2 c3 c4:D)(c5 c6 c7 c8:Int)(σ:Store)(Qp:RV->Store->Prop)(h:a_im c0 c1 c2 c3 c4 c5 c6 c7 c8 σ Qp) :DCalls prog m_3 [.agg [c0,c1,c2,c3,c4,iD c5,iD c6,iD c7,iD c8]] σ Qp:=
 a_a mixed (by kernel_rfl) Tryz.func57 a_fw (Eq.mp (by kernel_rfl) h)
def v_m:Ann:= { draws:= [(5,{ ord:= [0,1,2,3,4,5,6,7,8,9,10,11,12,13,14,15,16,17],sp:= [14,15] }),(10,{ ord:= [0,1,2,3,4,5,6,7,8,9,10,11,12,13,14,15,16,17],sp:= [14,15] })],loops:= [(3,{ mods:= [(21,s6)],keep:= [0,20] }),(8,{ mods:= [(47,s6)],keep:= [0,46] })] }
def y_z (y:D)(now:Int)(σ:Store)(Qp:RV->Store->Prop) :Prop:=
 wR y σ fun s i off row=>∃n:Int,((List.take 1 (List.drop (off+17) row)) =([iD n]:List D))/\a_b (decide (now<=n)) (Qp (.tup []) σ) ((a_u y)/\∃s1:D,∃i1 off1:Nat,(y=(.el s1 i1 off1:D))/\a_k [iD now] σ s1 i1 (off1+17) (fun Z=>wR y Z fun s2 i2 off2 row1=>∃d:D,((List.take 1 (List.drop (off2+9) row1)) =([d]:List D))/\wL d fun len=>∃I:Int->Store->Prop,∃μ:Int->Store->Nat,(I 0 Z)/\∀n1:Int,∀Z1,(I n1 Z1)->a_b (decide (n1 < (len:Int))) (∃pre:List A->Store->Prop,∃post:List A->Store->RV->Store->Prop,(b_7 prog e_2 pre post)/\∃pre1:List A->Store->Prop,∃post1:List A->Store->RV->Store->Prop,(b_7 prog i_f pre1 post1)/\wR y Z1 fun s3 i3 off3 row2=>∃d1:D,((List.take 1 (List.drop (off3+9) row2)) =([d1]:List D))/\wR y Z1 fun s4 i4 off4 row3=>∃d2:D,((List.take 1 (List.drop (off4+9) row3)) =([d2]:List D))/\wI prog Z1 d2 3 n1 fun row4=>∃n2 n3 n4:Int,((List.take 3 row4) =([iD n2,iD n3,iD n4]:List D))/\(pre [.one y,iA 3,iA n1] Z1)/\∀r:RV,∀s5:Store,(post [.one y,iA 3,iA n1] Z1 r s5)->∃b:Bool,(r=(.a (bA b) :RV))/\(pre1 [.agg [iD n2,iD n3,iD n4],bA b] s5)/\∀r1:RV,∀s6:Store,(post1 [.agg [iD n2,iD n3,iD n4],bA b] s5 r1 s6)->∃n5 n6 n7:Int,(r1=(.a (.agg [iD n5,iD n6,iD n7]) :RV))/\∃len2:Nat,(Idx prog s6 d1 3 len2)/\((0:Int)<=n1)/\(n1 < (len2:Int))/\a_k [iD n5,iD n6,iD n7] s6 d1 (Int.toNat n1) 0 (fun Z2=>(I (w64 (n1+1)) Z2)/\((μ (w64 (n1+1)) Z2) < (μ n1 Z1)))) (wR y Z1 fun s3 i3 off3 row2=>∃d1:D,((List.take 1 (List.drop (off3+10) row2)) =([d1]:List D))/\wL d1 fun len1=>∃I1:Int->Store->Prop,∃μ1:Int->Store->Nat,(I1 0 Z1)/\∀n2:Int,∀Z2,(I1 n2 Z2)->a_b (decide (n2 < (len1:Int))) (∃pre:List A->Store->Prop,∃post:List A->Store->RV->Store->Prop,(b_7 prog e_2 pre post)/\∃pre1:List A->Store->Prop,∃post1:List A->Store->RV->Store->Prop,(b_7 prog i_f pre1 post1)/\wR y Z2 fun s4 i4 off4 row3=>∃d2:D,((List.take 1 (List.drop (off4+10) row3)) =([d2]:List D))/\wR y Z2 fun s5 i5 off5 row4=>∃d3:D,((List.take 1 (List.drop (off5+10) row4)) =([d3]:List D))/\wI prog Z2 d3 3 n2 fun row5=>∃n3 n4 n5:Int,((List.take 3 row5) =([iD n3,iD n4,iD n5]:List D))/\(pre [.one y,iA 6,iA n2] Z2)/\∀r:RV,∀s6:Store,(post [.one y,iA 6,iA n2] Z2 r s6)->∃b:Bool,(r=(.a (bA b) :RV))/\(pre1 [.agg [iD n3,iD n4,iD n5],bA b] s6)/\∀r1:RV,∀s7:Store,(post1 [.agg [iD n3,iD n4,iD n5],bA b] s6 r1 s7)->∃n6 n7 n8:Int,(r1=(.a (.agg [iD n6,iD n7,iD n8]) :RV))/\∃len3:Nat,(Idx prog s7 d2 3 len3)/\((0:Int)<=n2)/\(n2 < (len3:Int))/\a_k [iD n6,iD n7,iD n8] s7 d2 (Int.toNat n2) 0 (fun Z3=>(I1 (w64 (n2+1)) Z3)/\((μ1 (w64 (n2+1)) Z3) < (μ1 n2 Z2)))) (Qp (.tup []) Z2))))
theorem y_x (y:D)(now:Int)(σ:Store)(Qp:RV->Store->Prop)(h:y_z y now σ Qp) :DCalls prog i_e [.one y,iA now] σ Qp:=
 a_a mixed (by kernel_rfl) Tryz.func61 v_m (Eq.mp (by kernel_rfl) h)
def t_z:Ann:= { joins:= [(3,{ keep:= [0,1,2,3] }),(6,{ mods:= [(9,s6)],keep:= [0,1,2,3] }),(8,{ mods:= [(9,s6)],keep:= [0,1,2,3] }),(10,{ keep:= [0,1,2,3] })] }
def w_o (y:D)(kind n:Int)(on_:Bool)(σ:Store)(Qp:RV->Store->Prop) :Prop:=
 ∀R:Store->Prop,(∀Z,(wR y Z fun s i off row=>∃d:D,((List.take 1 (List.drop ((off+0) +0) row)) =([d]:List D))/\wL d fun len=>∀R1:Int->Store->Prop,(∀n1:Int,∀Z1,(∀R2:Int->Store->Prop,(∀n2:Int,∀Z2,(∀R3:Store->Prop,(∀Z3,(wR y Z3 fun s1 i1 off1 row1=>∃d1:D,((List.take 1 (List.drop (off1+16) row1)) =([d1]:List D))/\MPut prog j_k Z3 d1 (.agg [iD kind,iD n]) (iA 0) (fun Z4=>a_b on_ (wR y Z4 fun s2 i2 off2 row2=>∃d2:D,((List.take 1 (List.drop (off2+16) row2)) =([d2]:List D))/\MPut prog j_k Z4 d2 (.agg [iD kind,iD n]) (iA 1) (fun Z5=>Qp (.a (iA 0)) Z5)) (Qp (.a (iA 0)) Z4)))->R3 Z3)->a_b (decide (n < 0)) (Qp (.a (iA 20)) Z2) (a_b (decide (n>=n2)) (Qp (.a (iA 20)) Z2) (a_b (kind == 2) (wR y Z2 fun s1 i1 off1 row1=>∃d1:D,((List.take 1 (List.drop ((off1+0) +0) row1)) =([d1]:List D))/\wI prog Z2 d1 3 n fun row2=>∃n3:Int,((List.take 1 row2) =([iD n3]:List D))/\a_b (n3 != 1) (Qp (.a (iA 20)) Z2) (R3 Z2)) (a_b (kind == 3) (wR y Z2 fun s1 i1 off1 row1=>∃d1:D,((List.take 1 (List.drop ((off1+0) +0) row1)) =([d1]:List D))/\wI prog Z2 d1 3 n fun row2=>∃n3:Int,((List.take 1 row2) =([iD n3]:List D))/\a_b (n3 != 1) (Qp (.a (iA 20)) Z2) (R3 Z2)) (R3 Z2)))))->R2 n2 Z2)->a_b (kind == 5) (wR y Z1 fun s1 i1 off1 row1=>∃d1:D,((List.take 1 (List.drop ((off1+0) +3) row1)) =([d1]:List D))/\wL d1 fun len1=>R2 (len1:Int) Z1) (a_b (kind == 6) (wR y Z1 fun s1 i1 off1 row1=>∃d1:D,((List.take 1 (List.drop ((off1+0) +3) row1)) =([d1]:List D))/\wL d1 fun len1=>R2 (len1:Int) Z1) (R2 n1 Z1)))->R1 n1 Z1)->a_b (kind == 4) (wR y Z fun s1 i1 off1 row1=>∃d1:D,((List.take 1 (List.drop ((off1+0) +2) row1)) =([d1]:List D))/\wL d1 fun len1=>R1 (len1:Int) Z) (R1 (len:Int) Z))->R Z)->a_b (decide (kind < 1)) (Qp (.a (iA 27)) σ) (a_b (decide (kind > 6)) (Qp (.a (iA 27)) σ) (R σ))
theorem v_3 (y:D)(kind n:Int)(on_:Bool)(σ:Store)(Qp:RV->Store->Prop)(h:w_o y kind n on_ σ Qp) :DCalls prog g_3 [.one y,iA kind,iA n,bA on_] σ Qp:=
 a_a mixed (by kernel_rfl) Tryz.func65 t_z (Eq.mp (by kernel_rfl) h)
def w_n:Ann:= { draws:= [(4,{ ord:= [0,1,2,3,4,5,6,7,8,9,10,11,12,13,14,15,16,17,18,19,20,21,22,23,24,25,26,27,28,29,30] })] }
def y_4 (y:D)(t:Int)(σ:Store)(Qp:RV->Store->Prop) :Prop:=
 DCalls prog c_k [.one y,iA t] σ (fun r Z=>∃d:D,(r=(.a (.one d) :RV))/\∃b:Bool,(h_s .pt d b)/\a_b (b != false) (Qp (.a (iA 30)) Z) (wR d Z fun s i off row=>∃d1:D,((List.take 1 (List.drop (off+0) row)) =([d1]:List D))/\wL d1 fun len=>a_b ((len:Int) != 1) (Qp (.a (iA 29)) Z) (wR y Z fun s1 i1 off1 row1=>∃d2:D,((List.take 1 (List.drop ((off1+1) +0) row1)) =([d2]:List D))/\wR d Z fun s2 i2 off2 row2=>∃d3:D,((List.take 1 (List.drop (off2+0) row2)) =([d3]:List D))/\wI prog Z d3 1 0 fun row3=>∃n:Int,((List.take 1 row3) =([iD n]:List D))/\wI prog Z d2 3 n fun row4=>∃n1:Int,((List.take 1 (List.drop 2 row4)) =([iD n1]:List D))/\a_b (n1 == 0) (Qp (.a (iA 29)) Z) (wR d Z fun s3 i3 off3 row5=>∃n2:Int,((List.take 1 (List.drop (off3+1) row5)) =([iD n2]:List D))/\a_b (n2 != 1) (Qp (.a (iA 29)) Z) (wR y Z fun s4 i4 off4 row6=>∃d4:D,((List.take 1 (List.drop (off4+14) row6)) =([d4]:List D))/\DCalls prog f_m [.one d4,iA t, .one (iD (w64 (t+1)))] Z (fun r1 Z1=>∃d5:D,(r1=(.a (.one d5) :RV))/\(a_u y)/\∃s5:D,∃i5 off5:Nat,(y=(.el s5 i5 off5:D))/\a_k [d5] Z1 s5 i5 (off5+14) (fun Z2=>Qp (.a (iA 0)) Z2)))))))
theorem y_o (y:D)(t:Int)(σ:Store)(Qp:RV->Store->Prop)(h:y_4 y t σ Qp) :DCalls prog h_8 [.one y,iA t] σ Qp:=
 a_a mixed (by kernel_rfl) Tryz.func69 w_n (Eq.mp (by kernel_rfl) h)
def a_o1:Ann:= { }
def a_r0 (b:Bool)(σ:Store)(Qp:RV->Store->Prop) :Prop:=
 a_b b (Qp (.a (iA 1)) σ) (Qp (.a (iA 0)) σ)
theorem a_rb (b:Bool)(σ:Store)(Qp:RV->Store->Prop)(h:a_r0 b σ Qp) :DCalls prog g_7 [bA b] σ Qp:=
 a_a mixed (by kernel_rfl) Tryz.func73 a_o1 (Eq.mp (by kernel_rfl) h)
def s_t:Ann:= { }
def w_c (wrong:Bool)(kind section_:Int)(a3:D)(σ:Store)(Qp:RV->Store->Prop) :Prop:=
 a_b wrong (∃s:D,∃i off:Nat,(a3=(.el s i off:D))/\∃row:List D,(Row σ s i row)/\∃d:D,((List.take 1 (List.drop off row)) =([d]:List D))/\Fw.newObj σ (.live j_k [[iD kind,iD section_]]) (fun id Z=>a_j prog Z j_k 16 d (.osl id 0 1) (fun d1 Z1=>∃s1:D,∃i1 off1:Nat,(a3=(.el s1 i1 off1:D))/\a_k [d1] Z1 s1 i1 off1 (fun Z2=>Qp (.tup []) Z2)))) (Qp (.tup []) σ)
theorem u_t (wrong:Bool)(kind section_:Int)(a3:D)(σ:Store)(Qp:RV->Store->Prop)(h:w_c wrong kind section_ a3 σ Qp) :DCalls prog a_7 [bA wrong,iA kind,iA section_, .one a3] σ Qp:=
 a_a mixed (by kernel_rfl) Tryz.func77 s_t (Eq.mp (by kernel_rfl) h)
def u_w:Ann:= { cbs:= [2,3],draws:= [(3,{ ord:= [0,1,2,3,4,6,7,5,8,9,10,11],nb:= [1,2,7] }),(5,{ ord:= [0,1,2,3,4,5,6,7],nb:= [1] })] }
def y_f (p0 p1 p2 p3 p4:D)(p5 p6 p7 p8 r0 r1:Int)(r2 r3 r4:D)(r5:Bool)(σ:Store)(Qp:RV->Store->Prop) :Prop:=
 DCalls prog i_7 [.agg [p0,p1,p2,p3,p4,iD p5,iD p6,iD p7,iD p8], .agg [iD r0,iD r1,r2,r3,r4, .bool r5]] σ (fun r Z=>∃b:Bool,(r=(.a (bA b) :RV))/\a_b (!b) (Qp (.a (iA 9)) Z) (DCalls prog e_a [.agg [p0,p1,p2,p3,p4,iD p5,iD p6,iD p7,iD p8], .agg [iD r0,iD r1,r2,r3,r4, .bool r5]] Z (fun r6 Z1=>∃n:Int,(r6=(.a (iA n) :RV))/\DCalls prog i_p [.agg [p0,p1,p2,p3,p4,iD p5,iD p6,iD p7,iD p8],iA n, .one r2] Z1 (fun r7 Z2=>∃d:D,(r7=(.a (.one d) :RV))/\DCalls prog g_j [.one r3, .one d] Z2 (fun r8 Z3=>∃b1:Bool,(r8=(.a (bA b1) :RV))/\a_b (!b1) (Qp (.a (iA 10)) Z3) (DCalls prog g_l [.agg [p0,p1,p2,p3,p4,iD p5,iD p6,iD p7,iD p8], .agg [iD r0,iD r1,r2,r3,r4, .bool r5]] Z3 (fun r9 Z4=>∃d1:D,(r9=(.a (.one d1) :RV))/\DCalls prog h_b [.one r4, .one d1] Z4 (fun r10 Z5=>∃b2:Bool,(r10=(.a (bA b2) :RV))/\a_b (!b2) (Qp (.a (iA 11)) Z5) (Qp (.a (iA 0)) Z5)))))))))
theorem x_e (p0 p1 p2 p3 p4:D)(p5 p6 p7 p8 r0 r1:Int)(r2 r3 r4:D)(r5:Bool)(σ:Store)(Qp:RV->Store->Prop)(h:y_f p0 p1 p2 p3 p4 p5 p6 p7 p8 r0 r1 r2 r3 r4 r5 σ Qp) :DCalls prog h_z [.agg [p0,p1,p2,p3,p4,iD p5,iD p6,iD p7,iD p8], .agg [iD r0,iD r1,r2,r3,r4, .bool r5]] σ Qp:=
 a_a mixed (by kernel_rfl) Tryz.func81 u_w (Eq.mp (by kernel_rfl) h)
def s_x:Ann:= { draws:= [(3,{ ord:= [0,1,2,3,4,5,6,7,8,9,10,11,12] })] }
def u_c (w b:D)(right:Bool)(σ:Store)(Qp:RV->Store->Prop) :Prop:=
 wR w σ fun s i off row=>∃n:Int,((List.take 1 (List.drop (off+2) row)) =([iD n]:List D))/\a_b (n != 0) (Qp (.tup []) σ) (a_b (!right) ((a_u w)/\∃s1:D,∃i1 off1:Nat,(w=(.el s1 i1 off1:D))/\a_k [iD 32] σ s1 i1 (off1+2) (fun Z=>Qp (.tup []) Z)) (wL b fun len=>wR w σ fun s1 i1 off1 row1=>∃n1:Int,((List.take 1 (List.drop (off1+1) row1)) =([iD n1]:List D))/\wR w σ fun s2 i2 off2 row2=>∃d:D,((List.take 1 (List.drop (off2+0) row2)) =([d]:List D))/\wL d fun len1=>a_b (decide ((len:Int) > (w64 (n1 - (len1:Int))))) ((a_u w)/\∃s3:D,∃i3 off3:Nat,(w=(.el s3 i3 off3:D))/\a_k [iD 2] σ s3 i3 (off3+2) (fun Z=>Qp (.tup []) Z)) (wR w σ fun s3 i3 off3 row3=>∃d1:D,((List.take 1 (List.drop (off3+0) row3)) =([d1]:List D))/\a_j prog σ c_t 1 d1 b (fun d2 Z=>(a_u w)/\∃s4:D,∃i4 off4:Nat,(w=(.el s4 i4 off4:D))/\a_k [d2] Z s4 i4 (off4+0) (fun Z1=>Qp (.tup []) Z1)))))
theorem v_s (w b:D)(right:Bool)(σ:Store)(Qp:RV->Store->Prop)(h:u_c w b right σ Qp) :DCalls prog c_z [.one w, .one b,bA right] σ Qp:=
 a_a mixed (by kernel_rfl) Tryz.func85 s_x (Eq.mp (by kernel_rfl) h)
def s_r:Ann:= { draws:= [(3,{ ord:= [0,1,2,3,4,5,6,7,8,9,10,11,12,13,14],sp:= [10] })],joins:= [(2,{ mods:= [(1,s6)],keep:= [0,2] })] }
def v_o (r:D)(number stamp:Int)(σ:Store)(Qp:RV->Store->Prop) :Prop:=
 ∀R:Int->Store->Prop,(∀n:Int,∀Z,(wR r Z fun s i off row=>∃n1:Int,((List.take 1 (List.drop (off+0) row)) =([iD n1]:List D))/\a_b (decide (n1>=0)) (∃pre:List A->Store->Prop,∃post:List A->Store->RV->Store->Prop,(b_7 prog k_4 pre post)/\wR r Z fun s1 i1 off1 row1=>∃n2:Int,((List.take 1 (List.drop (off1+1) row1)) =([iD n2]:List D))/\wR r Z fun s2 i2 off2 row2=>∃n3:Int,((List.take 1 (List.drop (off2+2) row2)) =([iD n3]:List D))/\Fw.newObj Z (.live a_e [[iD n3],[iD n]]) (fun id Z1=>(pre [.one (.osl id 0 2)] Z1)/\∀r1:RV,∀s3:Store,(post [.one (.osl id 0 2)] Z1 r1 s3)->∃n4:Int,(r1=(.a (iA n4) :RV))/\(a_u r)/\∃s4:D,∃i3 off3:Nat,(r=(.el s4 i3 off3:D))/\a_k [iD (w64 (n2+n4))] s3 s4 i3 (off3+1) (fun Z2=>(a_u r)/\∃s5:D,∃i4 off4:Nat,(r=(.el s5 i4 off4:D))/\a_k [iD stamp] Z2 s5 i4 (off4+0) (fun Z3=>(a_u r)/\∃s6:D,∃i5 off5:Nat,(r=(.el s6 i5 off5:D))/\a_k [iD n] Z3 s6 i5 (off5+2) (fun Z4=>Qp (.tup []) Z4))))) ((a_u r)/\∃s1:D,∃i1 off1:Nat,(r=(.el s1 i1 off1:D))/\a_k [iD stamp] Z s1 i1 (off1+0) (fun Z1=>(a_u r)/\∃s2:D,∃i2 off2:Nat,(r=(.el s2 i2 off2:D))/\a_k [iD n] Z1 s2 i2 (off2+2) (fun Z2=>Qp (.tup []) Z2))))->R n Z)->wR r σ fun s i off row=>∃n:Int,((List.take 1 (List.drop (off+0) row)) =([iD n]:List D))/\a_b (decide (n>=0)) (wR r σ fun s1 i1 off1 row1=>∃n1:Int,((List.take 1 (List.drop (off1+2) row1)) =([iD n1]:List D))/\DCalls prog m_f [iA n1,iA number] σ (fun r1 Z=>∃b:Bool,(r1=(.a (bA b) :RV))/\a_b (!b) (wR r Z fun s2 i2 off2 row2=>∃n2:Int,((List.take 1 (List.drop (off2+2) row2)) =([iD n2]:List D))/\R n2 Z) (R number Z))) (R number σ)
theorem v_a (r:D)(number stamp:Int)(σ:Store)(Qp:RV->Store->Prop)(h:v_o r number stamp σ Qp) :DCalls prog h_d [.one r,iA number,iA stamp] σ Qp:=
 a_a mixed (by kernel_rfl) Tryz.func89 s_r (Eq.mp (by kernel_rfl) h)
def a_be:Ann:= { cbs:= [1],loops:= [(2,{ mods:= [(11,s6)],keep:= [1,9,10] })] }
def a_dd (c0 c1 c2 c3 c4:D)(c5 c6 c7 c8:Int)(σ:Store)(Qp:RV->Store->Prop) :Prop:=
 wL c2 fun len=>∃I:Int->Store->Prop,∃μ:Int->Store->Nat,(I 0 σ)/\∀n:Int,∀Z,(I n Z)->a_b (decide (n < (len:Int))) (wI prog Z c2 2 n fun row=>∃n1 n2:Int,((List.take 2 row) =([iD n1,iD n2]:List D))/\DCalls prog d_e [.one c1,iA n1,iA n2] Z (fun r Z1=>∃n3 n4:Int,∃b:Bool,(r=(.tup [iA n3,iA n4,bA b]:RV))/\a_b (!b) (Qp (.a (bA false)) Z1) (DCalls prog o_i [.agg [c0,c1,c2,c3,c4,iD c5,iD c6,iD c7,iD c8],iA n1,iA n2,iA n] Z1 (fun r1 Z2=>∃b1:Bool,(r1=(.a (bA b1) :RV))/\a_b b1 (Qp (.a (bA false)) Z2) ((I (w64 (n+1)) Z2)/\((μ (w64 (n+1)) Z2) < (μ n Z))))))) (wL c2 fun len1=>Qp (.a (.one (.bool (decide ((len1:Int)<=12))))) Z)
theorem a_db (c0 c1 c2 c3 c4:D)(c5 c6 c7 c8:Int)(σ:Store)(Qp:RV->Store->Prop)(h:a_dd c0 c1 c2 c3 c4 c5 c6 c7 c8 σ Qp) :DCalls prog j_u [.agg [c0,c1,c2,c3,c4,iD c5,iD c6,iD c7,iD c8]] σ Qp:=
 a_a mixed (by kernel_rfl) Tryz.func97 a_be (Eq.mp (by kernel_rfl) h)
def a_fb:Ann:= { cbs:= [3],loops:= [(4,{ mods:= [(7,SlotSh.one (Sh.any)),(8,SlotSh.one (Sh.any)),(18,s6)],keep:= [1,2,3,16,17] }),(8,{ mods:= [(7,SlotSh.one (Sh.any)),(8,SlotSh.one (Sh.any)),(12,s6)],keep:= [1,2,3,10,11,16,17,18] })],joins:= [(9,{ mods:= [(7,SlotSh.one (Sh.any)),(8,SlotSh.one (Sh.any))],keep:= [1,2,3,10,11,12,16,17,18] }),(11,{ keep:= [1,2,3,7,8,10,11,12,16,17,18] }),(13,{ keep:= [1,2,3,7,8,10,11,12,13,14,16,17,18] })] }
def a_hf (c0 c1 c2 c3 c4:D)(c5 c6 c7 c8 approach:Int)(path:D)(σ:Store)(Qp:RV->Store->Prop) :Prop:=
 wL path fun len=>∃I:D->D->Int->Store->Prop,∃μ:D->D->Int->Store->Nat,(I .nils .nils 0 σ)/\∀d d1:D,∀n:Int,∀Z,(I d d1 n Z)->a_b (decide (n < (len:Int))) (wI prog Z path 3 n fun row=>∃n1 n2 n3:Int,((List.take 3 row) =([iD n1,iD n2,iD n3]:List D))/\DCalls prog f_7 [.agg [c0,c1,c2,c3,c4,iD c5,iD c6,iD c7,iD c8],iA n1] Z (fun r Z1=>∃n4:Int,(r=(.a (iA n4) :RV))/\∃I1:D->D->Int->Store->Prop,∃μ1:D->D->Int->Store->Nat,(I1 d d1 0 Z1)/\∀d2 d3:D,∀n5:Int,∀Z2,(I1 d2 d3 n5 Z2)->DCalls prog f_6 [iA n4] Z2 (fun r1 Z3=>∃n6:Int,(r1=(.a (iA n6) :RV))/\a_b (decide (n5 < n6)) (∀R:D->D->Store->Prop,(∀d4 d5:D,∀Z4,((([[iD n1,iD n2,iD n3]]:List (List D)) =([[iD n1,iD n2,iD n3]]:List (List D)))/\(I1 d4 d5 (w64 (n5+1)) Z4)/\((μ1 d4 d5 (w64 (n5+1)) Z4) < (μ1 d2 d3 n5 Z2)))->R d4 d5 Z4)->∀R1:Store->Prop,(∀Z4,(DCalls prog d_e [.one c1,iA n1,iA n5] Z4 (fun r2 Z5=>∃n7 n8:Int,∃b:Bool,(r2=(.tup [iA n7,iA n8,bA b]:RV))/\∀R2:Store->Prop,(∀Z6,(Fw.newObj Z6 (.live a_e [[iD n7]]) (fun id Z7=>a_j prog Z7 a_e 8 d3 (.osl id 0 1) (fun d4 Z8=>Fw.newObj Z8 (.live c_e [[iD n7,iD (w64 (3 - n8))]]) (fun id1 Z9=>a_j prog Z9 c_e 16 d2 (.osl id1 0 1) (fun d5 Z10=>(([[iD n1,iD n2,iD n3]]:List (List D)) =([[iD n1,iD n2,iD n3]]:List (List D)))/\R d5 d4 Z10)))))->R2 Z6)->a_b (!b) ((([[iD n1,iD n2,iD n3]]:List (List D)) =([[iD n1,iD n2,iD n3]]:List (List D)))/\R d2 d3 Z5) (DCalls prog f_7 [.agg [c0,c1,c2,c3,c4,iD c5,iD c6,iD c7,iD c8],iA n7] Z5 (fun r3 Z6=>∃n9:Int,(r3=(.a (iA n9) :RV))/\a_b (n9 != 1) ((([[iD n1,iD n2,iD n3]]:List (List D)) =([[iD n1,iD n2,iD n3]]:List (List D)))/\R d2 d3 Z6) (a_b (n8 != 1) (a_b (n8 != 2) ((([[iD n1,iD n2,iD n3]]:List (List D)) =([[iD n1,iD n2,iD n3]]:List (List D)))/\R d2 d3 Z6) (DCalls prog d_o [.one path] Z6 (fun r4 Z7=>∃d4:D,(r4=(.a (.one d4) :RV))/\DCalls prog d_r [.one d4,iA n7] Z7 (fun r5 Z8=>∃b1:Bool,(r5=(.a (bA b1) :RV))/\a_b b1 ((([[iD n1,iD n2,iD n3]]:List (List D)) =([[iD n1,iD n2,iD n3]]:List (List D)))/\R d2 d3 Z8) (a_b (n7 == approach) ((([[iD n1,iD n2,iD n3]]:List (List D)) =([[iD n1,iD n2,iD n3]]:List (List D)))/\R d2 d3 Z8) (DCalls prog d_r [.one d3,iA n7] Z8 (fun r6 Z9=>∃b2:Bool,(r6=(.a (bA b2) :RV))/\a_b b2 ((([[iD n1,iD n2,iD n3]]:List (List D)) =([[iD n1,iD n2,iD n3]]:List (List D)))/\R d2 d3 Z9) ((([[iD n1,iD n2,iD n3]]:List (List D)) =([[iD n1,iD n2,iD n3]]:List (List D)))/\R2 Z9)))))))) (DCalls prog d_o [.one path] Z6 (fun r4 Z7=>∃d4:D,(r4=(.a (.one d4) :RV))/\DCalls prog d_r [.one d4,iA n7] Z7 (fun r5 Z8=>∃b1:Bool,(r5=(.a (bA b1) :RV))/\a_b b1 ((([[iD n1,iD n2,iD n3]]:List (List D)) =([[iD n1,iD n2,iD n3]]:List (List D)))/\R d2 d3 Z8) (a_b (n7 == approach) ((([[iD n1,iD n2,iD n3]]:List (List D)) =([[iD n1,iD n2,iD n3]]:List (List D)))/\R d2 d3 Z8) (DCalls prog d_r [.one d3,iA n7] Z8 (fun r6 Z9=>∃b2:Bool,(r6=(.a (bA b2) :RV))/\a_b b2 ((([[iD n1,iD n2,iD n3]]:List (List D)) =([[iD n1,iD n2,iD n3]]:List (List D)))/\R d2 d3 Z9) ((([[iD n1,iD n2,iD n3]]:List (List D)) =([[iD n1,iD n2,iD n3]]:List (List D)))/\R2 Z9))))))))))))->R1 Z4)->a_b (n5 == n2) ((([[iD n1,iD n2,iD n3]]:List (List D)) =([[iD n1,iD n2,iD n3]]:List (List D)))/\R d2 d3 Z3) (a_b (n5 == n3) ((([[iD n1,iD n2,iD n3]]:List (List D)) =([[iD n1,iD n2,iD n3]]:List (List D)))/\R d2 d3 Z3) ((([[iD n1,iD n2,iD n3]]:List (List D)) =([[iD n1,iD n2,iD n3]]:List (List D)))/\R1 Z3))) ((I d2 d3 (w64 (n+1)) Z3)/\((μ d2 d3 (w64 (n+1)) Z3) < (μ d d1 n Z)))))) (Qp (.a (.one d)) Z)
theorem a_hg (c0 c1 c2 c3 c4:D)(c5 c6 c7 c8 approach:Int)(path:D)(σ:Store)(Qp:RV->Store->Prop)(h:a_hf c0 c1 c2 c3 c4 c5 c6 c7 c8 approach path σ Qp) :DCalls prog n_a [.agg [c0,c1,c2,c3,c4,iD c5,iD c6,iD c7,iD c8],iA approach, .one path] σ Qp:=
 a_a mixed (by kernel_rfl) Tryz.func101 a_fb (Eq.mp (by kernel_rfl) h)
def a_hu:Ann:= { draws:= [(5,{ ord:= [0,1,2,3,4,5,6] }),(7,{ ord:= [0,1,2,3,4,5,6] })],loops:= [(2,{ mods:= [(13,s6)],keep:= [1,2,11,12] })] }
def a_lo (joints:D)(section_ end_:Int)(σ:Store)(Qp:RV->Store->Prop) :Prop:=
 wL joints fun len=>∃I:Int->Store->Prop,∃μ:Int->Store->Nat,(I 0 σ)/\∀n:Int,∀Z,(I n Z)->a_b (decide (n < (len:Int))) (wI prog Z joints 4 n fun row=>∃n1 n2 n3 n4:Int,((List.take 4 row) =([iD n1,iD n2,iD n3,iD n4]:List D))/\a_b (n1 == section_) (a_b (n2 == end_) (Qp (.tup [iA n3,iA n4,bA true]) Z) (a_b (n3 == section_) (a_b (n4 == end_) (Qp (.tup [iA n1,iA n2,bA true]) Z) ((I (w64 (n+1)) Z)/\((μ (w64 (n+1)) Z) < (μ n Z)))) ((I (w64 (n+1)) Z)/\((μ (w64 (n+1)) Z) < (μ n Z))))) (a_b (n3 == section_) (a_b (n4 == end_) (Qp (.tup [iA n1,iA n2,bA true]) Z) ((I (w64 (n+1)) Z)/\((μ (w64 (n+1)) Z) < (μ n Z)))) ((I (w64 (n+1)) Z)/\((μ (w64 (n+1)) Z) < (μ n Z))))) (Qp (.tup [iA 0,iA 0,bA false]) Z)
theorem a_jv (joints:D)(section_ end_:Int)(σ:Store)(Qp:RV->Store->Prop)(h:a_lo joints section_ end_ σ Qp) :DCalls prog d_e [.one joints,iA section_,iA end_] σ Qp:=
 a_a mixed (by kernel_rfl) Tryz.func105 a_hu (Eq.mp (by kernel_rfl) h)
def o_z:Ann:= { draws:= [(4,{ ord:= [0,1,2,3,4,5,6,7] }),(8,{ ord:= [0,1,2,3,4,5,6,7,8,9] }),(10,{ ord:= [0,1,2,3,4,5,6,7] }),(13,{ ord:= [0,1,2,3,4,5,6,7,8,9,10,11] })] }
def p_u (r:D)(now:Int)(text:ByteArray)(σ:Store)(Qp:RV->Store->Prop) :Prop:=
 DCalls prog k_b [.one (.str text)] σ (fun r1 Z=>∃n n1 n2:Int,∃s:ByteArray,∃n3:Int,(r1=(.tup [.agg [iD n,iD n1,iD n2, .str s],iA n3]:RV))/\a_b (n3 != 0) (Qp (.tup [.one (.str (ByteArray.mk (List.toArray []))),iA n3]) Z) (wR r Z fun s1 i off row=>∃n4:Int,((List.take 1 (List.drop (off+0) row)) =([iD n4]:List D))/\a_b (n != n4) (Qp (.tup [.one (.str (ByteArray.mk (List.toArray []))),iA 16]) Z) (a_b (decide (n2 > now)) (Qp (.tup [.one (.str (ByteArray.mk (List.toArray []))),iA 19]) Z) (wR r Z fun s2 i1 off1 row1=>∃n5:Int,((List.take 1 (List.drop (off1+1) row1)) =([iD n5]:List D))/\DCalls prog m_u [iA now,iA n2,iA n5] Z (fun r2 Z1=>∃b:Bool,(r2=(.a (bA b) :RV))/\a_b (!b) (Qp (.tup [.one (.str (ByteArray.mk (List.toArray []))),iA 17]) Z1) (wR r Z1 fun s3 i2 off2 row2=>∃n6:Int,((List.take 1 (List.drop (off2+2) row2)) =([iD n6]:List D))/\a_b (decide (n2<=n6)) (Qp (.tup [.one (.str (ByteArray.mk (List.toArray []))),iA 18]) Z1) ((a_u r)/\∃s4:D,∃i3 off3:Nat,(r=(.el s4 i3 off3:D))/\a_k [iD n2] Z1 s4 i3 (off3+2) (fun Z2=>wR r Z2 fun s5 i4 off4 row3=>∃d:D,((List.take 1 (List.drop (off4+3) row3)) =([d]:List D))/\Fw.newObj Z2 (.live a_e [[iD n1]]) (fun id Z3=>a_j prog Z3 a_e 8 d (.osl id 0 1) (fun d1 Z4=>(a_u r)/\∃s6:D,∃i5 off5:Nat,(r=(.el s6 i5 off5:D))/\a_k [d1] Z4 s6 i5 (off5+3) (fun Z5=>Qp (.tup [.one (.str s),iA 0]) Z5)))))))))))
theorem p_o (r:D)(now:Int)(text:ByteArray)(σ:Store)(Qp:RV->Store->Prop)(h:p_u r now text σ Qp) :DCalls prog f_j [.one r,iA now, .one (.str text)] σ Qp:=
 a_a mixed (by kernel_rfl) Tryz.func109 o_z (Eq.mp (by kernel_rfl) h)
def z_l:Ann:= { }
def a_am (y:D)(s in_:Int)(σ:Store)(Qp:RV->Store->Prop) :Prop:=
 wR y σ fun s1 i off row=>∃d:D,((List.take 1 (List.drop (off+9) row)) =([d]:List D))/\wI prog σ d 3 s fun row1=>∃n:Int,((List.take 1 row1) =([iD n]:List D))/\wR y σ fun s2 i1 off1 row2=>∃d1:D,((List.take 1 (List.drop (off1+9) row2)) =([d1]:List D))/\wI prog σ d1 3 s fun row3=>∃n1:Int,((List.take 1 (List.drop 2 row3)) =([iD n1]:List D))/\a_b (decide (n1 > 0)) (wR y σ fun s3 i2 off2 row4=>∃d2:D,((List.take 1 (List.drop ((off2+0) +0) row4)) =([d2]:List D))/\wI prog σ d2 3 s fun row5=>∃n2:Int,((List.take 1 row5) =([iD n2]:List D))/\DCalls prog j_l [iA n2,iA in_,iA 0] σ (fun r Z=>∃n3:Int,∃b:Bool,(r=(.tup [iA n3,bA b]:RV))/\a_b (!b) (Qp (.a (iA (-1))) Z) (Qp (.a (iA n3)) Z))) (wR y σ fun s3 i2 off2 row4=>∃d2:D,((List.take 1 (List.drop ((off2+0) +0) row4)) =([d2]:List D))/\wI prog σ d2 3 s fun row5=>∃n2:Int,((List.take 1 row5) =([iD n2]:List D))/\DCalls prog j_l [iA n2,iA in_,iA n] σ (fun r Z=>∃n3:Int,∃b:Bool,(r=(.tup [iA n3,bA b]:RV))/\a_b (!b) (Qp (.a (iA (-1))) Z) (Qp (.a (iA n3)) Z)))
theorem a_aq (y:D)(s in_:Int)(σ:Store)(Qp:RV->Store->Prop)(h:a_am y s in_ σ Qp) :DCalls prog d_m [.one y,iA s,iA in_] σ Qp:=
 a_a mixed (by kernel_rfl) Tryz.func113 z_l (Eq.mp (by kernel_rfl) h)
def a_an:Ann:= { cbs:= [2],loops:= [(2,{ mods:= [(10,s6)],keep:= [1,8,9] })] }
def a_c9 (c0 c1 c2 c3 c4:D)(c5 c6 c7 c8 line:Int)(σ:Store)(Qp:RV->Store->Prop) :Prop:=
 wL c0 fun len=>∃I:Int->Store->Prop,∃μ:Int->Store->Nat,(I 0 σ)/\∀n:Int,∀Z,(I n Z)->a_b (decide (n < (len:Int))) (wI prog Z c0 3 n fun row=>∃n1 n2 n3:Int,((List.take 3 row) =([iD n1,iD n2,iD n3]:List D))/\a_b (n3 == line) (a_b (decide (line>=1)) (Qp (.a (iA n)) Z) ((I (w64 (n+1)) Z)/\((μ (w64 (n+1)) Z) < (μ n Z)))) ((I (w64 (n+1)) Z)/\((μ (w64 (n+1)) Z) < (μ n Z)))) (Qp (.a (iA (-1))) Z)
theorem a_c0 (c0 c1 c2 c3 c4:D)(c5 c6 c7 c8 line:Int)(σ:Store)(Qp:RV->Store->Prop)(h:a_c9 c0 c1 c2 c3 c4 c5 c6 c7 c8 line σ Qp) :DCalls prog j_1 [.agg [c0,c1,c2,c3,c4,iD c5,iD c6,iD c7,iD c8],iA line] σ Qp:=
 a_a mixed (by kernel_rfl) Tryz.func117 a_an (Eq.mp (by kernel_rfl) h)
def x_g:Ann:= { cbs:= [2,3],loops:= [(7,{ mods:= [(5,SlotSh.bx [Sh.int IntKind.i64,Sh.int IntKind.i64]),(63,s6)],keep:= [2,3,7,8,9,61,62] })],joins:= [(5,{ keep:= [2,3,5,7,8] }),(18,{ mods:= [(5,SlotSh.bx [Sh.int IntKind.i64,Sh.int IntKind.i64])],keep:= [2,3,7,8,9,61,62,63] }),(16,{ mods:= [(20,SlotSh.one (Sh.bool))],keep:= [2,3,5,7,8,9,11,12,13,14,15,18,19,61,62,63] })] }
def a_ak (p0 p1 p2 p3 p4:D)(p5 p6 p7 p8 r0 r1:Int)(r2 r3 r4:D)(r5:Bool)(σ:Store)(Qp:RV->Store->Prop) :Prop:=
 DCalls prog c_y [.agg [p0,p1,p2,p3,p4,iD p5,iD p6,iD p7,iD p8],iA r0] σ (fun r Z=>∃n n1:Int,∃b:Bool,(r=(.tup [.agg [iD n,iD n1],bA b]:RV))/\DCalls prog c_y [.agg [p0,p1,p2,p3,p4,iD p5,iD p6,iD p7,iD p8],iA r1] Z (fun r6 Z1=>∃n2 n3:Int,∃b1:Bool,(r6=(.tup [.agg [iD n2,iD n3],bA b1]:RV))/\∀R:Store->Prop,(∀Z2,(Fw.newObj Z2 (.mp 0 []) (fun id Z3=>MPut prog a_e Z3 (.omap id) (iA n) (iA 1) (fun Z4=>wL r2 fun len=>∃I:Int->Int->Int->Store->Prop,∃μ:Int->Int->Int->Store->Nat,(I n n1 0 Z4)/\∀n4 n5 n6:Int,∀Z5,(I n4 n5 n6 Z5)->a_b (decide (n6 < (len:Int))) (∀R1:Int->Int->Store->Prop,(∀n7 n8:Int,∀Z6,((([[iD n2,iD n3]]:List (List D)) =([[iD n2,iD n3]]:List (List D)))/\(I n7 n8 (w64 (n6+1)) Z6)/\((μ n7 n8 (w64 (n6+1)) Z6) < (μ n4 n5 n6 Z5)))->R1 n7 n8 Z6)->wI prog Z5 r2 3 n6 fun row=>∃n7 n8 n9:Int,((List.take 3 row) =([iD n7,iD n8,iD n9]:List D))/\DCalls prog d_4 [.one p1,iA n4,iA n5] Z5 (fun r7 Z6=>∃n10 n11:Int,∃b2:Bool,(r7=(.tup [iA n10,iA n11,bA b2]:RV))/\DCalls prog b_0 [.agg [p0,p1,p2,p3,p4,iD p5,iD p6,iD p7,iD p8],iA n10] Z6 (fun r8 Z7=>∃n12 n13 n14:Int,∃b3:Bool,(r8=(.tup [.agg [iD n12,iD n13,iD n14],bA b3]:RV))/\DCalls prog v_2 [iA n12,iA n8,iA n9] Z7 (fun r9 Z8=>∃n15:Int,∃b4:Bool,(r9=(.tup [iA n15,bA b4]:RV))/\∃r10:Option A,(h_o prog a_e Z8 (.omap id) (iA n10) r10)/\∃n16:Int,((Option.getD r10 (iA 0)) =(iA n16:A))/\MPut prog a_e Z8 (.omap id) (iA n10) (.one (iD (w64 (n16+1)))) (fun Z9=>DCalls prog e_d [.one p2, .agg [iD n7,iD n9]] Z9 (fun r11 Z10=>∃b5:Bool,(r11=(.a (bA b5) :RV))/\∀R2:Bool->Store->Prop,(∀b6:Bool,∀Z11,(a_b (!b2) (Qp (.a (bA false)) Z11) (a_b (n10 != n7) (Qp (.a (bA false)) Z11) (a_b (n11 != n8) (Qp (.a (bA false)) Z11) (a_b (!b4) (Qp (.a (bA false)) Z11) (∃r12:Option A,(h_o prog a_e Z11 (.omap id) (iA n10) r12)/\∃n17:Int,((Option.getD r12 (iA 0)) =(iA n17:A))/\a_b (decide (n17 > 1)) (Qp (.a (bA false)) Z11) (a_b b5 (a_b (!b6) (Qp (.a (bA false)) Z11) (a_b r5 (a_b (n14 != 0) (Qp (.a (bA false)) Z11) ((([[iD n2,iD n3]]:List (List D)) =([[iD n2,iD n3]]:List (List D)))/\R1 n7 n9 Z11)) ((([[iD n2,iD n3]]:List (List D)) =([[iD n2,iD n3]]:List (List D)))/\R1 n7 n9 Z11))) (a_b r5 (a_b (n14 != 0) (Qp (.a (bA false)) Z11) ((([[iD n2,iD n3]]:List (List D)) =([[iD n2,iD n3]]:List (List D)))/\R1 n7 n9 Z11)) ((([[iD n2,iD n3]]:List (List D)) =([[iD n2,iD n3]]:List (List D)))/\R1 n7 n9 Z11))))))))->R2 b6 Z11)->wL r2 fun len2=>a_b (n6 ==(w64 ((len2:Int) - 1))) (a_b b1 ((([[iD n7,iD n9],[iD n2,iD n3],[iD n7,iD n8,iD n9],[iD n12,iD n13,iD n14]]:List (List D)) =([[iD n7,iD n9],[iD n2,iD n3],[iD n7,iD n8,iD n9],[iD n12,iD n13,iD n14]]:List (List D)))/\R2 ((n7 == n2) && (n9 == n3)) Z10) ((([[iD n7,iD n9],[iD n2,iD n3],[iD n7,iD n8,iD n9],[iD n12,iD n13,iD n14]]:List (List D)) =([[iD n7,iD n9],[iD n2,iD n3],[iD n7,iD n8,iD n9],[iD n12,iD n13,iD n14]]:List (List D)))/\R2 false Z10)) ((([[iD n7,iD n9],[iD n2,iD n3],[iD n7,iD n8,iD n9],[iD n12,iD n13,iD n14]]:List (List D)) =([[iD n7,iD n9],[iD n2,iD n3],[iD n7,iD n8,iD n9],[iD n12,iD n13,iD n14]]:List (List D)))/\R2 false Z10))))))) (a_b b1 (Qp (.a (.one (.bool ((n4 == n2) && (n5 == n3))))) Z5) (DCalls prog d_4 [.one p1,iA n4,iA n5] Z5 (fun r7 Z6=>∃n7 n8:Int,∃b2:Bool,(r7=(.tup [iA n7,iA n8,bA b2]:RV))/\Qp (.a (bA (!b2))) Z6))))))->R Z2)->a_b (!b) (Qp (.a (bA false)) Z1) (a_b (!b1) (a_b (r1 !=(-1)) (Qp (.a (bA false)) Z1) (wL r2 fun len=>DCalls prog c_4 [iA (len:Int),iA 1,iA 8] Z1 (fun r7 Z2=>∃b2:Bool,(r7=(.a (bA b2) :RV))/\a_b (!b2) (Qp (.a (bA false)) Z2) ((([[iD n,iD n1],[iD n2,iD n3]]:List (List D)) =([[iD n,iD n1],[iD n2,iD n3]]:List (List D)))/\R Z2)))) (wL r2 fun len=>DCalls prog c_4 [iA (len:Int),iA 1,iA 8] Z1 (fun r7 Z2=>∃b2:Bool,(r7=(.a (bA b2) :RV))/\a_b (!b2) (Qp (.a (bA false)) Z2) ((([[iD n,iD n1],[iD n2,iD n3]]:List (List D)) =([[iD n,iD n1],[iD n2,iD n3]]:List (List D)))/\R Z2))))))
theorem a_al (p0 p1 p2 p3 p4:D)(p5 p6 p7 p8 r0 r1:Int)(r2 r3 r4:D)(r5:Bool)(σ:Store)(Qp:RV->Store->Prop)(h:a_ak p0 p1 p2 p3 p4 p5 p6 p7 p8 r0 r1 r2 r3 r4 r5 σ Qp) :DCalls prog i_7 [.agg [p0,p1,p2,p3,p4,iD p5,iD p6,iD p7,iD p8], .agg [iD r0,iD r1,r2,r3,r4, .bool r5]] σ Qp:=
 a_a mixed (by kernel_rfl) Tryz.func121 x_g (Eq.mp (by kernel_rfl) h)
def s_z:Ann:= { draws:= [(6,{ ord:= [0,1,2,3,4,5,6,7,8] })],loops:= [(4,{ mods:= [(13,s6)],keep:= [0,1,12] })] }
def u_7 (s1 s2:D)(σ:Store)(Qp:RV->Store->Prop) :Prop:=
 wL s1 fun len=>wL s2 fun len1=>a_b ((len:Int) !=(len1:Int)) (Qp (.a (bA false)) σ) (wL s1 fun len2=>∃I:Int->Store->Prop,∃μ:Int->Store->Nat,(I 0 σ)/\∀n:Int,∀Z,(I n Z)->a_b (decide (n < (len2:Int))) (wI prog Z s1 1 n fun row=>∃n1:Int,((List.take 1 row) =([iD n1]:List D))/\wI prog Z s2 1 n fun row1=>∃n2:Int,((List.take 1 row1) =([iD n2]:List D))/\a_b (n1 != n2) (Qp (.a (bA false)) Z) ((I (w64 (n+1)) Z)/\((μ (w64 (n+1)) Z) < (μ n Z)))) (Qp (.a (bA true)) Z))
theorem u_z (s1 s2:D)(σ:Store)(Qp:RV->Store->Prop)(h:u_7 s1 s2 σ Qp) :DCalls prog h_b [.one s1, .one s2] σ Qp:=
 a_a mixed (by kernel_rfl) Tryz.func125 s_z (Eq.mp (by kernel_rfl) h)
def a_kx:Ann:= { esc:= [5] }
def a_of (text:ByteArray)(σ:Store)(Qp:RV->Store->Prop) :Prop:=
 Fw.newObj σ (.live c_1 [[iD 0, .str text]]) (fun id Z=>Qp (.a (.one (.el (.osl id 0 1) 0 0))) Z)
theorem a_bn (text:ByteArray)(σ:Store)(Qp:RV->Store->Prop)(h:a_of text σ Qp) :DCalls prog e_v [.one (.str text)] σ Qp:=
 a_a mixed (by kernel_rfl) Tryz.func130 a_kx (Eq.mp (by kernel_rfl) h)
def a_kr:Ann:= { }
def a_pj (a b:Int)(σ:Store)(Qp:RV->Store->Prop) :Prop:=
 DCalls prog n_u [iA a,iA b] σ (fun r Z=>∃n:Int,(r=(.a (iA n) :RV))/\Qp (.a (.one (.bool (decide (n > 0))))) Z)
theorem a_ns (a b:Int)(σ:Store)(Qp:RV->Store->Prop)(h:a_pj a b σ Qp) :DCalls prog m_f [iA a,iA b] σ Qp:=
 a_a mixed (by kernel_rfl) Tryz.func134 a_kr (Eq.mp (by kernel_rfl) h)
def a_gy:Ann:= { draws:= [(4,{ ord:= [0,1,2,3,4,5,6,7] })],loops:= [(2,{ mods:= [(9,s6)],keep:= [7,8] }),(7,{ mods:= [(26,s6)],keep:= [4,7,8,9,24,25] })] }
def a_kp (fields:D)(σ:Store)(Qp:RV->Store->Prop) :Prop:=
 wL fields fun len=>∃I:Int->Store->Prop,∃μ:Int->Store->Nat,(I 0 σ)/\∀n:Int,∀Z,(I n Z)->a_b (decide (n < (len:Int))) (wI prog Z fields 3 n fun row=>∃d:D,∃n1 n2:Int,((List.take 3 row) =([d,iD n1,iD n2]:List D))/\wR d Z fun s i off row1=>∃d1:D,((List.take 1 (List.drop off row1)) =([d1]:List D))/\wL d1 fun len2=>a_b ((len2:Int) != n1) (Qp (.a (bA false)) Z) (wR d Z fun s1 i1 off1 row2=>∃d2:D,((List.take 1 (List.drop off1 row2)) =([d2]:List D))/\wL d2 fun len3=>∃I1:Int->Store->Prop,∃μ1:Int->Store->Nat,(I1 0 Z)/\∀n3:Int,∀Z1,(I1 n3 Z1)->a_b (decide (n3 < (len3:Int))) (wI prog Z1 d2 1 n3 fun row3=>∃n4:Int,((List.take 1 row3) =([iD n4]:List D))/\a_b (decide (n4 < 0)) (Qp (.a (bA false)) Z1) (a_b (decide (n4 > n2)) (Qp (.a (bA false)) Z1) ((([[d,iD n1,iD n2]]:List (List D)) =([[d,iD n1,iD n2]]:List (List D)))/\(I1 (w64 (n3+1)) Z1)/\((μ1 (w64 (n3+1)) Z1) < (μ1 n3 Z1))))) ((I (w64 (n+1)) Z1)/\((μ (w64 (n+1)) Z1) < (μ n Z))))) (Qp (.a (bA true)) Z)
theorem a_kf (fields:D)(σ:Store)(Qp:RV->Store->Prop)(h:a_kp fields σ Qp) :DCalls prog o_3 [.one fields] σ Qp:=
 a_a mixed (by kernel_rfl) Tryz.func138 a_gy (Eq.mp (by kernel_rfl) h)
def a_ho:Ann:= { loops:= [(3,{ mods:= [(3,s6),(9,s6)],keep:= [7,8] })] }
def a_km (kind:Int)(σ:Store)(Qp:RV->Store->Prop) :Prop:=
 DCalls prog i_o [iA kind] σ (fun r Z=>∃d:D,(r=(.a (.one d) :RV))/\wL d fun len=>∃I:Int->Int->Store->Prop,∃μ:Int->Int->Store->Nat,(I 0 0 Z)/\∀n n1:Int,∀Z1,(I n n1 Z1)->a_b (decide (n1 < (len:Int))) (wI prog Z1 d 3 n1 fun row=>∃n2 n3 n4:Int,((List.take 3 row) =([iD n2,iD n3,iD n4]:List D))/\(I (ite ((w64 (n3+1)) > (ite ((w64 (n2+1)) > n) (w64 (n2+1)) n)) (w64 (n3+1)) (ite ((w64 (n2+1)) > n) (w64 (n2+1)) n)) (w64 (n1+1)) Z1)/\((μ (ite ((w64 (n3+1)) > (ite ((w64 (n2+1)) > n) (w64 (n2+1)) n)) (w64 (n3+1)) (ite ((w64 (n2+1)) > n) (w64 (n2+1)) n)) (w64 (n1+1)) Z1) < (μ n n1 Z1))) (Qp (.a (iA n)) Z1))
theorem a_mk (kind:Int)(σ:Store)(Qp:RV->Store->Prop)(h:a_km kind σ Qp) :DCalls prog f_6 [iA kind] σ Qp:=
 a_a mixed (by kernel_rfl) Tryz.func142 a_ho (Eq.mp (by kernel_rfl) h)
def a_ob:Ann:= { loops:= [(2,{ mods:= [(9,s6)],keep:= [1,7,8] })] }
def a_rx (l:D)(n:Int)(σ:Store)(Qp:RV->Store->Prop) :Prop:=
 wL l fun len=>∃I:Int->Store->Prop,∃μ:Int->Store->Nat,(I 0 σ)/\∀n1:Int,∀Z,(I n1 Z)->a_b (decide (n1 < (len:Int))) (wI prog Z l 1 n1 fun row=>∃n2:Int,((List.take 1 row) =([iD n2]:List D))/\a_b (n2 == n) (Qp (.a (bA true)) Z) ((I (w64 (n1+1)) Z)/\((μ (w64 (n1+1)) Z) < (μ n1 Z)))) (Qp (.a (bA false)) Z)
theorem a_rg (l:D)(n:Int)(σ:Store)(Qp:RV->Store->Prop)(h:a_rx l n σ Qp) :DCalls prog d_r [.one l,iA n] σ Qp:=
 a_a mixed (by kernel_rfl) Tryz.func146 a_ob (Eq.mp (by kernel_rfl) h)
def a_er:Ann:= { }
def a_ic (now stamp age:Int)(σ:Store)(Qp:RV->Store->Prop) :Prop:=
 a_b (decide (now>=0)) (a_b (decide (stamp<=now)) (Qp (.a (.one (.bool (decide ((w64 (now - stamp))<=age))))) σ) (Qp (.a (bA false)) σ)) (Qp (.a (bA false)) σ)
theorem a_gz (now stamp age:Int)(σ:Store)(Qp:RV->Store->Prop)(h:a_ic now stamp age σ Qp) :DCalls prog m_u [iA now,iA stamp,iA age] σ Qp:=
 a_a mixed (by kernel_rfl) Tryz.func150 a_er (Eq.mp (by kernel_rfl) h)
def a_o5:Ann:= { loops:= [(2,{ mods:= [(15,s6)],keep:= [1,2,13,14] })] }
def a_p9 (kind in_ out_:Int)(σ:Store)(Qp:RV->Store->Prop) :Prop:=
 DCalls prog j_f [iA kind] σ (fun r Z=>∃d:D,(r=(.a (.one d) :RV))/\wL d fun len=>∃I:Int->Store->Prop,∃μ:Int->Store->Nat,(I 0 Z)/\∀n:Int,∀Z1,(I n Z1)->a_b (decide (n < (len:Int))) (wI prog Z1 d 3 n fun row=>∃n1 n2 n3:Int,((List.take 3 row) =([iD n1,iD n2,iD n3]:List D))/\DCalls prog f_2 [.agg [iD n1,iD n2,iD n3],iA in_] Z1 (fun r1 Z2=>∃n4:Int,∃b:Bool,(r1=(.tup [iA n4,bA b]:RV))/\a_b b (a_b (n4 == out_) (Qp (.tup [iA n3,bA true]) Z2) ((I (w64 (n+1)) Z2)/\((μ (w64 (n+1)) Z2) < (μ n Z1)))) ((I (w64 (n+1)) Z2)/\((μ (w64 (n+1)) Z2) < (μ n Z1))))) (Qp (.tup [iA 0,bA false]) Z1))
theorem a_r3 (kind in_ out_:Int)(σ:Store)(Qp:RV->Store->Prop)(h:a_p9 kind in_ out_ σ Qp) :DCalls prog v_2 [iA kind,iA in_,iA out_] σ Qp:=
 a_a mixed (by kernel_rfl) Tryz.func154 a_o5 (Eq.mp (by kernel_rfl) h)
def q_a:Ann:= { cbs:= [2] }
def s_p (n0 n1:Int)(a1:D)(σ:Store)(Qp:RV->Store->Prop) :Prop:=
 ∃s:D,∃i off:Nat,(a1=(.el s i off:D))/\∃row:List D,(Row σ s i row)/\∃n:Int,((List.take 1 (List.drop off row)) =([iD n]:List D))/\Qp (.a (bA (n0 == n))) σ
theorem s_8 (n0 n1:Int)(a1:D)(σ:Store)(Qp:RV->Store->Prop)(h:s_p n0 n1 a1 σ Qp) :DCalls prog g_m [.agg [iD n0,iD n1], .one a1] σ Qp:=
 a_a mixed (by kernel_rfl) Tryz.func158 q_a (Eq.mp (by kernel_rfl) h)
def a_qe:Ann:= { }
def a_tr (a b:Int)(σ:Store)(Qp:RV->Store->Prop) :Prop:=
 Qp (.a (.one (iD (w64 (IntKind.wrap .i16 (IntKind.wrap .u16 ((IntKind.wrap .u16 b) - (IntKind.wrap .u16 a)))))))) σ
theorem a_th (a b:Int)(σ:Store)(Qp:RV->Store->Prop)(h:a_tr a b σ Qp) :DCalls prog n_u [iA a,iA b] σ Qp:=
 a_a mixed (by kernel_rfl) Tryz.func162 a_qe (Eq.mp (by kernel_rfl) h)
def t_n:Ann:= { loops:= [(2,{ mods:= [(8,s6)],keep:= [0,1,7] })] }
def v_9 (s:D)(v:Int)(σ:Store)(Qp:RV->Store->Prop) :Prop:=
 wL s fun len=>∃I:Int->Store->Prop,∃μ:Int->Store->Nat,(I 0 σ)/\∀n:Int,∀Z,(I n Z)->a_b (decide (n < (len:Int))) (wI prog Z s 1 n fun row=>∃n1:Int,((List.take 1 row) =([iD n1]:List D))/\a_b (v == n1) (Qp (.a (iA n)) Z) ((I (w64 (n+1)) Z)/\((μ (w64 (n+1)) Z) < (μ n Z)))) (Qp (.a (iA (-1))) Z)
theorem v_g (s:D)(v:Int)(σ:Store)(Qp:RV->Store->Prop)(h:v_9 s v σ Qp) :DCalls prog h_a [.one s,iA v] σ Qp:=
 a_a mixed (by kernel_rfl) Tryz.func166 t_n (Eq.mp (by kernel_rfl) h)
def k_k:Ann:= { }
def k_z (s f:D)(σ:Store)(Qp:RV->Store->Prop) :Prop:=
 DCalls prog e_p [.one s, .one f] σ (fun r Z=>∃n:Int,(r=(.a (iA n) :RV))/\Qp (.a (.one (.bool (decide (n>=0))))) Z)
theorem l_v (s f:D)(σ:Store)(Qp:RV->Store->Prop)(h:k_z s f σ Qp) :DCalls prog d_y [.one s, .one f] σ Qp:=
 a_a mixed (by kernel_rfl) Tryz.func170 k_k (Eq.mp (by kernel_rfl) h)
def s_0:Ann:= { }
def v_n (r:D)(skip n:Int)(σ:Store)(Qp:RV->Store->Prop) :Prop:=
 wR r σ fun s i off row=>∃s1:ByteArray,((List.take 1 (List.drop (off+1) row)) =([.str s1]:List D))/\a_b (decide (n > (w64 ((ByteArray.size s1:Int) - skip)))) ((a_u r)/\∃s2:D,∃i1 off1:Nat,(r=(.el s2 i1 off1:D))/\DCalls prog g_k [.one (.el s2 i1 (off1+0)),iA 1] σ (fun r1 Z=>(r1=(.tup []:RV))/\(a_u r)/\∃s3:D,∃i2 off2:Nat,(r=(.el s3 i2 off2:D))/\DCalls prog c_p [.one (.el s3 i2 (off2+0))] Z (fun r2 Z1=>∃b:Bool,(r2=(.a (bA b) :RV))/\a_b (!b) (Qp (.a (.one (.str (ByteArray.mk (List.toArray []))))) Z1) (wR r Z1 fun s4 i3 off3 row1=>∃s5:ByteArray,((List.take 1 (List.drop (off3+1) row1)) =([.str s5]:List D))/\((0:Int)<=skip)/\(skip<=(w64 (skip+n)))/\((w64 (skip+n))<=(ByteArray.size s5:Int))/\wR r Z1 fun s6 i4 off4 row2=>∃s7:ByteArray,((List.take 1 (List.drop (off4+1) row2)) =([.str s7]:List D))/\((0:Int)<=(w64 (skip+n)))/\((w64 (skip+n))<=(ByteArray.size s7:Int))/\(a_u r)/\∃s8:D,∃i5 off5:Nat,(r=(.el s8 i5 off5:D))/\a_k [.str (ByteArray.extract s7 (Int.toNat (w64 (skip+n))) (ByteArray.size s7))] Z1 s8 i5 (off5+1) (fun Z2=>Qp (.a (.one (.str (ByteArray.extract s5 (Int.toNat skip) (Int.toNat (w64 (skip+n))))))) Z2))))) ((a_u r)/\∃s2:D,∃i1 off1:Nat,(r=(.el s2 i1 off1:D))/\DCalls prog c_p [.one (.el s2 i1 (off1+0))] σ (fun r1 Z=>∃b:Bool,(r1=(.a (bA b) :RV))/\a_b (!b) (Qp (.a (.one (.str (ByteArray.mk (List.toArray []))))) Z) (wR r Z fun s3 i2 off2 row1=>∃s4:ByteArray,((List.take 1 (List.drop (off2+1) row1)) =([.str s4]:List D))/\((0:Int)<=skip)/\(skip<=(w64 (skip+n)))/\((w64 (skip+n))<=(ByteArray.size s4:Int))/\wR r Z fun s5 i3 off3 row2=>∃s6:ByteArray,((List.take 1 (List.drop (off3+1) row2)) =([.str s6]:List D))/\((0:Int)<=(w64 (skip+n)))/\((w64 (skip+n))<=(ByteArray.size s6:Int))/\(a_u r)/\∃s7:D,∃i4 off4:Nat,(r=(.el s7 i4 off4:D))/\a_k [.str (ByteArray.extract s6 (Int.toNat (w64 (skip+n))) (ByteArray.size s6))] Z s7 i4 (off4+1) (fun Z1=>Qp (.a (.one (.str (ByteArray.extract s4 (Int.toNat skip) (Int.toNat (w64 (skip+n))))))) Z1))))
theorem v_j (r:D)(skip n:Int)(σ:Store)(Qp:RV->Store->Prop)(h:v_n r skip n σ Qp) :DCalls prog h_f [.one r,iA skip,iA n] σ Qp:=
 a_a mixed (by kernel_rfl) Tryz.func174 s_0 (Eq.mp (by kernel_rfl) h)
end Go.Proofs.YtaklhjodjbgmgaaGreat
end
