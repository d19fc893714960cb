/-
  Proofs that the statement of this claim leans on: part 3.
-/
import Derived.Test.YtdmfnhbmhkgemaaGreatP2
set_option linter.unusedVariables false
set_option linter.unusedSimpArgs false
namespace Go.Fw
open Go.ChangeShapes Go.WideShapes Go.RowKit
section
def tyF (P:Program)(ty:TypeId→List D→Prop) :List Field→List D→Prop
 | [],ds=>ds=[]
 | f::fs,ds=>∃a b,ds=a ++ b∧a.length=P.cellsOf f.type∧ty f.type a∧tyF P ty fs b
def tyR (P:Program)(ty:TypeId→List D→Prop)(e:TypeId) :Nat→List D→Prop
 | 0,ds=>ds=[]
 | n+1,ds=>∃a b,ds=a ++ b∧a.length=P.cellsOf e∧ty e a∧tyR P ty e n b
def tyD (P:Program) :Nat→TypeId→List D→Prop
 | 0,_,_=>False
 | n+1,t,ds=>match P.underlying t with
   | some .bool=>∃b,ds=[.bool b]
   | some (.int k)=>∃m,ds=[.int k m]∧(Lit.int k m).wf=true
   | some .string=>∃s,ds=[.str s]∧s.size≤140737488351232
   | some (.slice e)=>ds=[.nils]∨∃rows,ds=[.sl (P.cellsOf e) rows]∧rows.length * P.bytesOf e≤140737488351232∧∀row ∈ rows,tyD P n e row
   | some (.struct fs)=>tyF P (tyD P n) fs.toList ds
   | some (.array m e)=>tyR P (tyD P n) e m ds
   | _=>False
def a_bj (P:Program) :Nat→List Field→Nat→Bool
 | o,[],n=>Nat.beq o n
 | o,f::fs,n=>Nat.beq f.offset o && a_bj P (o+P.cellsOf f.type) fs n
def g_e (P:Program) :Nat→TypeId→Bool
 | 0,_=>false
 | n+1,t=>match P.underlying t with
   | some .bool=>true
   | some (.int _)=>true
   | some .string=>true
   | some (.slice e)=>g_e P n e && decide (0 < P.cellsOf e)
   | some (.struct fs)=>a_bj P 0 fs.toList (P.cellsOf t) && fs.toList.all fun f=>g_e P n f.type
   | some (.array m e)=>g_e P n e && Nat.beq (m * P.cellsOf e) (P.cellsOf t)
   | _=>false
def TyA (P:Program)(t:TypeId) :A→Prop
 | .one d=>b_4 P t=some false∧tyD P 30 t [d]
 | .agg cs=>b_4 P t=some true∧tyD P 30 t cs
def TyAs (P:Program) :List TypeId→List A→Prop
 | [],as0=>as0=[]
 | t::ts,as0=>∃a r,as0=a::r∧TyA P t a∧TyAs P ts r
section
variable {H:Type} {enc:TypeId × Value→H} {P:Program} {w:World}
abbrev t_l (w:World) :Nat→Prop:=fun b=>b < w.heap.size
abbrev noB:Bk:=fun _=>none
abbrev noS:Store:=fun _=> .free
theorem a_x8:SRel P (t_l w) noB w noS where
 fin:=⟨0,fun _ _=>rfl⟩
 dom i:=by simp
 klt b hb:=hb
 blt i bi h:=by cases h
 inj i j bi bj h:=by cases h
 notk i bi h:=by cases h
 obj i bi t rows h:=by cases h
 omap i bi c es h:=by cases h
theorem i_4 {base:Nat}{a:Addr}{n:Nat}{cs:List Value}(h:w.cells? base a n=some cs) :cs.length=n∧∀(j:Nat) v,cs[j]? =some v→w.cell? (a.add j) =some v:=by
 unfold World.cells? at h
 split at h
 · have hl:=mapM_some_length h
   refine ⟨by simpa using hl,fun j v hv=>?_⟩
   have hlt:=(List.getElem?_eq_some_iff.1 hv).1
   have hn:cs.length=n:=by simpa using hl
   have:=mapM_some_get h j j (by simp[show j < n by omega])
   rw[this,hv]
 · cases h
theorem a_xs {a:Addr}{v:Value}(h:w.cell? a=some v) :a.block < w.heap.size∧a.spot=none:=by
 unfold World.cell? at h
 split at h
 · rename_i c t fr hb
   refine ⟨(Array.getElem?_eq_some_iff.1 hb).1,?_⟩
   split at h
   · cases h
   · rename_i hs;simpa using hs
 · cases h
theorem a_kr {β : Bk} (n : Nat) (ih : ∀ (t : TypeId) (cs : List Value), g_e P n t = true → ∀ (fuel : Nat) (x : DataW H × List MemPlace), DataW.trod enc P w 0 (fun _ => true) true fuel t cs = some x →
     (∀m ∈ x.1.weights P t,m≤140737488351232)→∃ds,VL (t_l w) β w cs ds∧tyD P n t ds) (cs:List Value) (m:Nat) :
   ∀(fs:List Field) (o:Nat) (xs:List (DataW H × List MemPlace)),a_bj P o fs cs.length=true→(∀f ∈ fs,g_e P n f.type=true)→xs.length=fs.length→
     (∀(i:Nat) (f:Field),fs[i]? =some f→DataW.trod enc P w 0 (fun _=>true) true m f.type ((cs.drop f.offset).take (P.cellsOf f.type)) =xs[i]?)→
     (∀q ∈ DataW.weightsEach P (fs.map (·.type)) (xs.map (·.1)),q≤140737488351232)→o≤cs.length→∃ds,VL (t_l w) β w (cs.drop o) ds∧tyF P (tyD P n) fs ds
 | [],o,xs,ht,_,_,_,_,ho=>by
   have:o=cs.length:=Nat.eq_of_beq_eq_true ht
   subst this
   exact ⟨[],by simp[VL],rfl⟩
 | f::fs,o,xs,ht,hp,hl,he,hw,ho=>by
   simp only[a_bj,Bool.and_eq_true] at ht
   have hfo:=Nat.eq_of_beq_eq_true ht.1
   cases xs with
   | nil=>simp at hl
   | cons x xs=>
     have h0:=he 0 f rfl
     rw[hfo] at h0
     simp only[List.map_cons,DataW.weightsEach,List.mem_append] at hw
     have tl:∀(fs:List Field) (o:Nat),a_bj P o fs cs.length=true→o≤cs.length:=by
       intro fs
       induction fs with
       | nil=>intro o h;exact Nat.le_of_eq (Nat.eq_of_beq_eq_true h)
       | cons g gs ihg=>intro o h;simp only[a_bj,Bool.and_eq_true] at h;have:=ihg _ h.2;omega
     have hle:=tl _ _ ht.2
     obtain ⟨a,hva,hta⟩:=ih f.type _ (hp f (by simp)) m x (by simpa using h0) (fun q hq=>hw q (.inl hq))
     obtain ⟨b,hvb,htb⟩:=a_kr n ih cs m fs (o+P.cellsOf f.type) xs ht.2 (fun g hg=>hp g (by simp[hg])) (by simpa using hl) (fun i g hg=>by have:=he (i+1) g (by simpa using hg);simpa using this)
       (fun q hq=>hw q (.inr hq)) hle
     refine ⟨a ++ b,?_,a,b,rfl,?_,hta,htb⟩
     · have:=hva.append hvb
       have e1:List.take (P.cellsOf f.type) (cs.drop o) ++ cs.drop (o+P.cellsOf f.type) =cs.drop o:=by
         rw[←List.drop_drop];exact List.take_append_drop _ _
       rw[e1] at this;exact this
     · rw[←hva.1,List.length_take,List.length_drop];omega
theorem s_g {e:TypeId} :∀{ds:List (DataW H)} {d:DataW H} {m:Nat},d ∈ ds→m ∈ d.weights P e→m ∈ DataW.weightsAll P e ds
 | x::r,d,m,hd,hm=>by
   simp only[DataW.weightsAll,List.mem_append]
   rcases List.mem_cons.1 hd with rfl | hd
   · exact .inl hm
   · exact .inr (s_g hd hm)
theorem a_vn {β : Bk} (n : Nat) (ih : ∀ (t : TypeId) (cs : List Value), g_e P n t = true → ∀ (fuel : Nat) (x : DataW H × List MemPlace), DataW.trod enc P w 0 (fun _ => true) true fuel t cs = some x →
     (∀m ∈ x.1.weights P t,m≤140737488351232)→∃ds,VL (t_l w) β w cs ds∧tyD P n t ds) (e:TypeId) (hp:g_e P n e=true) (fuel:Nat) :
   ∀(m:Nat) (cs:List Value) (xs:List (DataW H × List MemPlace)),cs.length=m * P.cellsOf e→xs.length=m→
     (∀i,i < m→DataW.trod enc P w 0 (fun _=>true) true fuel e ((cs.drop (i * P.cellsOf e)).take (P.cellsOf e)) =xs[i]?)→(∀q ∈ DataW.weightsAll P e (xs.map (·.1)),q≤140737488351232)→
     ∃ds,VL (t_l w) β w cs ds∧tyR P (tyD P n) e m ds
 | 0,cs,xs,hl,hx,_,_=>by
   have:cs=[]:=List.eq_nil_of_length_eq_zero (by simpa using hl)
   subst this
   exact ⟨[],by simp[VL],rfl⟩
 | m+1,cs,xs,hl,hx,he,hw=>by
   cases xs with
   | nil=>simp at hx
   | cons x xs=>
     have h0:=he 0 (by omega)
     simp only[List.map_cons,DataW.weightsAll,List.mem_append] at hw
     rw[Nat.add_mul] at hl
     obtain ⟨a,hva,hta⟩:=ih e _ hp fuel x (by simpa using h0) (fun q hq=>hw q (.inl hq))
     obtain ⟨b,hvb,htb⟩:=a_vn n ih e hp fuel m (cs.drop (P.cellsOf e)) xs (by rw[List.length_drop];omega) (by simpa using hx) (fun i hi=>by
       have:=he (i+1) (by omega)
       rw[List.drop_drop,show P.cellsOf e+i * P.cellsOf e=(i+1) * P.cellsOf e by rw[Nat.add_mul];omega,this];rfl) (fun q hq=>hw q (.inr hq))
     refine ⟨a ++ b,?_,a,b,rfl,?_,hta,htb⟩
     · have:=hva.append hvb
       rw[List.take_append_drop] at this;exact this
     · rw[←hva.1,List.length_take];omega
theorem a_ei {β : Bk} : ∀ (n : Nat) (t : TypeId) (cs : List Value), g_e P n t = true → ∀ (fuel : Nat) (x : DataW H × List MemPlace), DataW.trod enc P w 0 (fun _ => true) true fuel t cs = some x →
     (∀m ∈ x.1.weights P t,m≤140737488351232)→∃ds,VL (t_l w) β w cs ds∧tyD P n t ds
 | 0,t,cs,hp=>by simp[g_e] at hp
 | n+1,t,cs,hp=>by
   intro fuel x h hw
   have one:∀{v:Value} {d:D},V (t_l w) β w v d→VL (t_l w) β w [v] [d]:=fun hv=>⟨rfl,fun i u y h1 h2=>by
     cases i with
     | zero=>simp at h1 h2;subst h1 h2;exact hv
     | succ i=>simp at h1⟩
   unfold g_e at hp
   unfold tyD
   split at hp
   · rename_i hu
     obtain ⟨b,rfl,rfl⟩:=DataW.trod_bool hu h
     exact ⟨[.bool b],one (.bool b),b,rfl⟩
   · rename_i q hu
     obtain ⟨m,rfl,rfl,hm⟩:=DataW.trod_int hu h
     exact ⟨[.int q m],one (.int q m),m,rfl,hm⟩
   · rename_i hu
     obtain ⟨s,rfl,rfl,hm⟩:=DataW.trod_string hu h
     exact ⟨[.str s],one (.str s),s,rfl,by have:=hw s.data.toList.length (by simp[DataW.weights]);simpa using this⟩
   · rename_i e hu
     simp only[Bool.and_eq_true,decide_eq_true_eq] at hp
     obtain ⟨hpe,hpos⟩:=hp
     rcases DataW.trod_slice hu h with ⟨rfl,rfl⟩ | ⟨a,len,cap,elems,rest,m,_,rfl,rfl,_,hlc,hcm,hel,hr,_,_⟩
     · exact ⟨[.nils],one .nils, .inl rfl⟩
     · simp only[DataW.weights,hu,List.mem_cons,List.mem_append] at hw
       have each:∀i,i < len→∃cs row,w.cells? 0 (a.add (i * P.cellsOf e)) (P.cellsOf e) =some cs∧VL (t_l w) β w cs row∧tyD P n e row:=by
         intro i hi
         have h1:=hr i hi
         have h2:=List.getElem?_eq_getElem (l:=elems) (i:=i) (by omega)
         rw[h2] at h1
         cases hc:w.cells? 0 (a.add (i * P.cellsOf e)) (P.cellsOf e) with
         | none=>rw[hc] at h1;cases h1
         | some cs=>
           rw[hc] at h1
           obtain ⟨row,r1,r2⟩:=a_ei n e cs hpe m _ h1 (fun q hq=>hw q (.inr (.inl (s_g (List.mem_map.2 ⟨_,List.getElem_mem (h:=by omega),rfl⟩) hq))))
           exact ⟨cs,row,rfl,r1,r2⟩
       have each':∀i,∃row,i < len→∃cs,w.cells? 0 (a.add (i * P.cellsOf e)) (P.cellsOf e) =some cs∧VL (t_l w) β w cs row∧tyD P n e row:=fun i=>by
         by_cases hi:i < len
         · obtain ⟨cs,row,h⟩:=each i hi
           exact ⟨row,fun _=>⟨cs,h⟩⟩
         · exact ⟨[],fun h=>absurd h hi⟩
       obtain ⟨F,hF⟩:=Classical.axiomOfChoice each'
       have hget:∀(i:Nat) row,((List.range len).map F)[i]? =some row→i < len∧row=F i:=fun i row hi=>by
         have hlt:=(List.getElem?_eq_some_iff.1 hi).1
         simp at hlt
         simp[List.getElem?_map,List.getElem?_range hlt] at hi
         exact ⟨hlt,hi.symm⟩
       have hsp:0 < len→a.block < w.heap.size∧a.spot=none:=fun h0=>by
         obtain ⟨cs,c1,_,_⟩:=hF 0 h0
         obtain ⟨c2,c3⟩:=i_4 c1
         have:=c3 0 cs[0] (List.getElem?_eq_getElem (by omega))
         simp[Addr.add] at this
         exact a_xs this
       have hcell:∀i j,i < len→j < P.cellsOf e→∃v,w.cell? ⟨a.block,a.off+i * P.cellsOf e+j,none⟩ =some v∧∀d,(F i)[j]? =some d→V (t_l w) β w v d:=by
         intro i j hi hj
         obtain ⟨cs,c1,c2,_⟩:=hF i hi
         obtain ⟨c3,c4⟩:=i_4 c1
         have hg:=List.getElem?_eq_getElem (l:=cs) (i:=j) (by omega)
         have:=c4 j _ hg
         have hsp:=(hsp (by omega)).2
         have e1:(a.add (i * P.cellsOf e)).add j=⟨a.block,a.off+i * P.cellsOf e+j,none⟩:=by
           obtain ⟨b,o',sp⟩:=a
           simp at hsp;subst hsp
           rw[m_s,m_s]
         rw[e1] at this
         exact ⟨_,this,fun d hd=>c2.2 j _ d hg hd⟩
       refine ⟨[.sl (P.cellsOf e) ((List.range len).map F)],one (.sl a len cap (P.cellsOf e) _ (fun i j=>(w.cell? ⟨a.block,a.off+i * P.cellsOf e+j,none⟩).getD undef) (fun hne=>hsp (by
         cases len with
         | zero=>simp at hne
         | succ=>omega)) (by simp) hlc (fun i row hi=>?_) (fun i row j d hi hj=>?_) (fun i row j d hi hj=>?_)), .inr ⟨_,rfl,?_,fun row hrow=>?_⟩⟩
       · obtain ⟨hi',rfl⟩:=hget i row hi
         obtain ⟨cs,c1,c2,_⟩:=hF i hi'
         rw[←c2.1,(i_4 c1).1]
       · obtain ⟨hi',rfl⟩:=hget i row hi
         obtain ⟨cs,c1,c2,_⟩:=hF i hi'
         have hlt:=(List.getElem?_eq_some_iff.1 hj).1
         rw[←c2.1,(i_4 c1).1] at hlt
         obtain ⟨v,v1,_⟩:=hcell i j hi' hlt
         rw[v1];rfl
       · obtain ⟨hi',rfl⟩:=hget i row hi
         obtain ⟨cs,c1,c2,_⟩:=hF i hi'
         have hlt:=(List.getElem?_eq_some_iff.1 hj).1
         rw[←c2.1,(i_4 c1).1] at hlt
         obtain ⟨v,v1,v2⟩:=hcell i j hi' hlt
         rw[v1];exact v2 d hj
       · have:=hw _ (.inl rfl)
         simp only[List.length_map,List.length_range] at this ⊢
         have h2:len * P.bytesOf e≤(elems.length+rest.length) * P.bytesOf e:=Nat.mul_le_mul_right _ (by omega)
         omega
       · obtain ⟨i,hi,rfl⟩:=List.mem_map.1 hrow
         obtain ⟨cs,_,_,c3⟩:=hF i (by simpa using hi)
         exact c3
   · rename_i fs hu
     simp only[Bool.and_eq_true,List.all_eq_true] at hp
     obtain ⟨xs,m,_,rfl,hl,hlen,hf⟩:=DataW.trod_struct hu h
     simp only[DataW.weights,hu] at hw
     have:=a_kr (β:=β) n (fun t cs hp fuel x=>a_ei n t cs hp fuel x) cs m fs.toList 0 xs (by rw[hl];exact hp.1) (fun f hf=>hp.2 f hf) (by simpa using hlen) (fun i f hi=>hf i f (by simpa using hi)) hw (by omega)
     simpa using this
   · rename_i m e hu
     simp only[Bool.and_eq_true] at hp
     cases fuel with
     | zero=>simp[DataW.trod] at h
     | succ fuel=>
       unfold DataW.trod at h
       rw[hu] at h
       have h:(if cs.length=P.cellsOf t then ((List.range m).mapM fun i=>DataW.trod enc P w 0 (fun _=>true) true fuel e ((cs.drop (i * P.cellsOf e)).take (P.cellsOf e))).map fun xs=>((.agg (xs.map (·.1)) :DataW H),xs.flatMap (·.2)) else none) =some x:=by
         cases cs <;> simpa using h
       split at h
       · rename_i hl
         rw[Option.map_eq_some_iff] at h
         obtain ⟨xs,hx,rfl⟩:=h
         simp only[DataW.weights,hu] at hw
         have hxl:=mapM_some_length hx
         exact a_vn n (fun t cs hp fuel x=>a_ei n t cs hp fuel x) e hp.1 fuel m cs xs (by rw[hl];exact (Nat.eq_of_beq_eq_true hp.2).symm) (by simpa using hxl) (fun i hi=>mapM_some_get hx i i (by simp[hi])) hw
       · cases h
   · cases hp
theorem a_yh {n:Nat}{t:TypeId}{v:Value}{W:World}{base:Nat}(hp:g_e P (n+1) t=true)(hok:Value.okWide P W .any base t v) :
   (b_4 P t=some false∧v.cells= #[v])∨(b_4 P t=some true∧∃cs,v= .agg cs):=by
 unfold g_e at hp
 unfold b_4
 split at hp
 · rename_i hu;obtain ⟨b,rfl⟩:=okWide_bool hu hok;rw[hu];exact .inl ⟨rfl,rfl⟩
 · rename_i hu;obtain ⟨b,rfl⟩:=okWide_int hu hok;rw[hu];exact .inl ⟨rfl,rfl⟩
 · rename_i hu
   rw[hu]
   simp only[Value.okWide,hu,Cell.okWide] at hok
   cases v <;> simp[Cell.ok,hu] at hok <;> exact .inl ⟨rfl,rfl⟩
 · rename_i e hu
   rw[hu]
   simp only[Value.okWide,hu,Cell.okWide] at hok
   cases v <;> simp[Cell.ok,hu] at hok <;> exact .inl ⟨rfl,rfl⟩
 · rename_i fs hu;obtain ⟨cs,rfl,_⟩:=okWide_struct hu hok;rw[hu];exact .inr ⟨rfl,cs,rfl⟩
 · rename_i m e hu
   rw[hu]
   simp only[Value.okWide,hu] at hok
   obtain ⟨cs,rfl,_⟩:=hok
   exact .inr ⟨rfl,cs,rfl⟩
 · cases hp
theorem a_y0 {t:TypeId}{v:Value}{d:DataW H}{ps:List MemPlace}{base:Nat}(hp:g_e P 30 t=true)(hok:Value.okWide P w .any base t v)(h:DataW.Trod enc P w 0 (fun _=>true) true t v d ps)
   (hw:∀m ∈ d.weights P t,m≤140737488351232) :∃x,TyA P t x∧VA (t_l w) noB w v x:=by
 obtain ⟨fuel,h⟩:=h
 obtain ⟨ds,h1,h2⟩:=a_ei (β:=noB) 30 t _ hp fuel _ h hw
 rcases a_yh hp hok with ⟨q1,q2⟩ | ⟨q1,cs,rfl⟩
 · rw[q2] at h1
   have hl:=h1.1
   match ds,hl with
   | [d'],_=>exact ⟨.one d',⟨q1,h2⟩,h1.2 0 v d' rfl rfl⟩
 · exact ⟨.agg ds,⟨q1,h2⟩,cs,rfl,h1⟩
theorem a_s9 {base:Nat} :∀{ts:List TypeId} {vs:List Value} {ds:List (DataW H)} {ps:List MemPlace},(∀t ∈ ts,g_e P 30 t=true)→(∀(j:Nat) t v,ts[j]? =some t→vs[j]? =some v→Value.okWide P w .any base t v)→
   DataW.TrodAll enc P w 0 (fun _=>true) true ts vs ds ps→(∀m ∈ DataW.weightsEach P ts ds,m≤140737488351232)→
   ∃as0,TyAs P ts as0∧vs.length=as0.length∧∀(i:Nat) v x,vs[i]? =some v→as0[i]? =some x→VA (t_l w) noB w v x
 | [],vs,ds,ps,_,_,h,_=>by
   obtain ⟨rfl,rfl,rfl⟩:=trodAll_nil h
   exact ⟨[],rfl,rfl,fun i v x hv=>by simp at hv⟩
 | t::ts,vs,ds,ps,hp,hok,h,hw=>by
   obtain ⟨v,vs1,d,ds1,a,b,rfl,rfl,rfl,h1,h2⟩:=trodAll_cons h
   simp only[DataW.weightsEach,List.mem_append] at hw
   obtain ⟨x,x1,x2⟩:=a_y0 (hp t (by simp)) (hok 0 t v rfl rfl) h1 (fun m hm=>hw m (.inl hm))
   obtain ⟨as0,a1,a2,a3⟩:=a_s9 (fun t ht=>hp t (by simp[ht])) (fun j t v h1 h2=>hok (j+1) t v (by simpa using h1) (by simpa using h2)) h2 (fun m hm=>hw m (.inr hm))
   refine ⟨x::as0,⟨x,as0,rfl,x1,a1⟩,by simp[a2],fun i u y hu hy=>?_⟩
   cases i with
   | zero=>simp at hu hy;subst hu hy;exact x2
   | succ i=>exact a3 i u y (by simpa using hu) (by simpa using hy)
theorem u_5 (hl:laidOutB P=true){W W':World}(hb:Below W.heap.size W W')(sp:Nat→Bool) :∀{ts:List TypeId} {vs:List Value} {ds:List (DataW H)} {ps:List MemPlace},
   (∀t ∈ ts,P.readableRec t=true∧t < P.types.size)→DataW.TrodAll enc P W 0 (fun _=>true) true ts vs ds ps→(∀p ∈ ps,p.block < W.heap.size)→(∀p ∈ ps,sp p.block=true)→DataW.TrodAll enc P W' 0 sp true ts vs ds ps
 | [],vs,ds,ps,_,h,_,_=>by
   obtain ⟨rfl,rfl,rfl⟩:=trodAll_nil h
   rfl
 | t::ts,vs,ds,ps,hr,h,hlt,hs=>by
   obtain ⟨v,vs1,d,ds1,a,b,rfl,rfl,rfl,h1,h2⟩:=trodAll_cons h
   exact ⟨a,b,WideElems.Trod_stays hl (hr t (by simp)).1 (hr t (by simp)).2 h1 (fun x hx=>hb.same (hlt x (by simp[hx]))) (fun x hx=>hs x (by simp[hx])),
     u_5 hl hb sp (fun t ht=>hr t (by simp[ht])) h2 (fun x hx=>hlt x (by simp[hx])) (fun x hx=>hs x (by simp[hx])),rfl⟩
theorem a_wn {f:Func}{s:ChangeSpec}{W W':World}{args:Array Value}{ds gs:List (DataW H)}{before:List MemPlace}{tb:TypeId}(hl:laidOutB P=true)
   (hr:∀t ∈ f.params.toList,P.readableRec t=true∧t < P.types.size) (hvars:s.vars=[]) (hres:f.resultTypes= #[tb]) (htb:P.underlying tb=some .bool)
   (hfn:(s.fn H ds) = { results:= [.lit (.bool true)],args:=ds }) (hW:DataW.Whole enc P f.params.toList s.vars false W args.toList ds gs before) (hb:Below W.heap.size W W') :
   s.post enc P f false true false false W args (.bool true) W':=by
 have hlt:∀p ∈ before,p.block < W.heap.size:=fun p hp=>hW.lt p hp
 have hW':=hW
 obtain ⟨p,q,hA,hV,rfl,hz,_⟩:=hW'
 rw[hvars] at hV
 obtain ⟨rfl,rfl⟩:=trodVars_none hV
 have hres':(s.fn H (ds ++ [])).results=[.lit (.bool true)]:=by rw[List.append_nil,hfn]
 have hargs':(s.fn H (ds ++ [])).args=ds:=by rw[List.append_nil,hfn]
 have hvars':(s.fn H (ds ++ [])).vars=[]:=by rw[List.append_nil,hfn]
 have hst:∀sp:Nat→Bool,(∀x ∈ p,sp x.block=true)→DataW.TrodAll enc P W' 0 sp true f.params.toList args.toList ds p:=fun sp hs=>
   u_5 hl hb sp hr hA (fun x hx=>hlt x (by simp[hx])) hs
 refine ⟨ds,[],p ++ [],[],p,[],hW,?_,?_,?_,?_,fun h=>by cases h⟩
 · rw[hres',hres]
   exact trodAll_mk1 (shut_bool htb true)
 · rw[hargs'];exact hst _ (fun x hx=>by simpa using hlt x (by simp[hx]))
 · rw[hvars',hvars];rfl
 · refine World.keptBut_mono (fun x hx=>⟨hx, .inr (.inl (by simpa using hx))⟩) (hb.frame (· ∈ p ++ []))
theorem a_t0 {f:FuncId}{fn:Func}{s:ChangeSpec}{W:World}{base:Nat}{args:Array Value}{ds gs:List (DataW H)}{before:List MemPlace}{tb:TypeId}(hl:laidOutB P=true)
   (hp:(fn.params.toList.all fun t=>g_e P 30 t && P.readableRec t && decide (t < P.types.size)) =true) (hvars:s.vars=[]) (hres:fn.resultTypes= #[tb]) (htb:P.underlying tb=some .bool)
   (hfn:ds.length=fn.params.size→(s.fn H ds) = { results:= [.lit (.bool true)],args:=ds })
   (law:∀as0,TyAs P fn.params.toList as0→DCalls P f as0 noS fun r _=>r= .a (.one (.bool true)))
   (hval:∀(j:Nat) t v,fn.params[j]? =some t→args[j]? =some v→Value.okWide P W .any base t v)
   (hW:DataW.Whole enc P fn.params.toList s.vars false W args.toList ds gs before)
   (hw:((DataW.weightsEach P (fn.params.toList ++ s.plain.varTypes P) (ds ++ gs)).all (·≤reachBytes)) =true) :
   Calls P f args W fun e W'=>∃v,e= .returned v∧s.post enc P fn false true false false W args v W':=by
 simp only[List.all_eq_true,Bool.and_eq_true,decide_eq_true_eq] at hp
 have hW':=hW
 obtain ⟨p,q,hA,hV,rfl,hz,_⟩:=hW'
 have hg:gs=[]:=by rw[hvars] at hV;exact (trodVars_none hV).1
 subst hg
 have hvt:s.plain.varTypes P=[]:=by
   have:s.plain.vars=[]:=hvars
   simp[DataSpec.varTypes,this]
 rw[hvt,List.append_nil,List.append_nil] at hw
 obtain ⟨as0,a1,a2,a3⟩:=a_s9 (base:=base) (fun t ht=>(hp t ht).1.1) (fun j t v h1 h2=>hval j t v (by simpa using h1) (by simpa using h2)) hA (fun m hm=>by
   have:=of_decide_eq_true (List.all_eq_true.1 hw m hm)
   simpa[reachBytes] using this)
 have hlen:ds.length=fn.params.size:=by
   have key:∀{ts:List TypeId} {vs:List Value} {ds:List (DataW H)} {ps:List MemPlace},DataW.TrodAll enc P W 0 (fun _=>true) true ts vs ds ps→ds.length=ts.length:=by
     intro ts
     induction ts with
     | nil=>intro vs ds ps h;obtain ⟨_,rfl,_⟩:=trodAll_nil h;rfl
     | cons t ts ih=>intro vs ds ps h;obtain ⟨v,vs1,d,ds1,a,b,_,rfl,_,_,h2⟩:=trodAll_cons h;simp[ih h2]
   simpa using key hA
 have hd:=(law as0 a1).2 (t_l W) noB W args a_x8 (by simpa using a2) (fun i v x h1 h2=>a3 i v x (by simpa using h1) h2)
 refine hd.mono fun e W' ⟨v,r,σ',k',β',q1,q2,q3,q4,q5,q6⟩=>⟨v,q1,?_⟩
 subst q2
 have hv:v= .bool true:=V.inv_bool q3
 subst hv
 exact a_wn hl (fun t ht=>⟨(hp t ht).1.2,(hp t ht).2⟩) hvars hres htb (hfn hlen) hW ⟨q6.os,q6.tape,q6.output,q6.size,fun b hb=>q6.block b hb (fun i bi hi=>by cases hi)⟩
theorem law_lifted {C:Checked}{os:Os}{f:FuncId}{fn:Func}{s:ChangeSpec}{tb:TypeId}(own:ownKnob C.prog.godebug=none)(started:os.Started)(noInit:C.prog.inits.idxOf? f=none)(hf:C.prog.funcs[f]? =some fn)
   (witness:∃(w:World) (tape:Tape) (i:Input),w.os=os∧(w.forCall tape i).Shaped C.prog∧i.vars=[]∧Input.okWide C.prog (w.forCall tape i) .any w.heap.size f i∧
     s.pre6 enc C.prog fn [] false (w.forCall tape i).memory i.args∧({} :Assume).holds C.prog (lone (Frame.enter C.prog f i.args .normal) [] (w.forCall tape i)))
   (hl:laidOutB C.prog=true) (hp:(fn.params.toList.all fun t=>g_e C.prog 30 t && C.prog.readableRec t && decide (t < C.prog.types.size)) =true) (hvars:s.vars=[]) (hres:fn.resultTypes= #[tb])
   (htb:C.prog.underlying tb=some .bool) (hfn:∀ds:List (DataW H),ds.length=fn.params.size→(s.fn H ds) = { results:= [.lit (.bool true)],args:=ds })
   (law:∀as0,TyAs C.prog fn.params.toList as0→DCalls C.prog f as0 noS fun r _=>r= .a (.one (.bool true))) :
   ReturnsInHanded {} C os f .any (s.pre6 enc C.prog fn [] false) (s.post enc C.prog fn false true false false):=by
 have e:(fun w args=>(s.pre enc C.prog fn [] false w args∧True)∧sizedMet enc C.prog fn (OpenSpec.ofChange s) false w args) =s.pre6 enc C.prog fn [] false:=by
   funext w args;simp[ChangeSpec.pre6]
 rw[←e]
 refine returnsInHanded_of_change_and (X:=fun _ _=>True) (fun _ _ _ _ _=>trivial) own started noInit hf ?_ ?_
 · obtain ⟨w,tape,i,h1,h2,h3,h4,h5,h6⟩:=witness
   exact ⟨w,tape,i,h1,h2,h3,h4,⟨⟨h5.1,trivial⟩,h5.2⟩,h6⟩
 · intro W base args ds gs before hval hW _ hw _ _
   exact a_t0 hl hp hvars hres htb (hfn ds) law hval hW hw
end
end
section
theorem joined_of {P:Program}{f:FuncId}{fn:Func}{s:ChangeSpec}{c:OpenClaim}(a0:laidOutB P=true)
   (a1:(c.wf (OpenSpec.ofChange s) && mapsRowed P && fn.params.all (P.readableRec ·) && namedTie P c.named s.vars && (c.stops == []) && (P.stops == []) && (c.knobs == []) && (P.stopKnobs == []) && (c.inPlace == P.inPlace f)) =true)
   (a2:(c.unfollowed == P.unfollowed f) =true) (a3:(c.recurses == P.recurses f) =true) (a4:(c.named == P.varsNamed f) =true)
   (a5:((c.maps ==(fn.params.toList ++ s.plain.varTypes P).any (P.mapsRec ·)) && (c.ifaces ==(fn.params.toList ++ s.plain.varTypes P).any (P.ifacesRec ·)) && (c.mapsOut == P.mapsAmong fn.resultTypes.toList) && (c.loops ==(fn.params.toList ++ s.plain.varTypes P).any (P.loopsFrom ·)) && (c.wideKeys ==(fn.params.toList ++ s.plain.varTypes P ++ fn.resultTypes.toList).any (P.wideKeysFrom ·))) =true)
   (a6:(s.vars.all (P.varReadable ·) && fn.resultTypes.all (fun t=>P.readableRec t && decide (t < P.types.size)) && (c.ifacesOut == fn.resultTypes.toList.any (P.ifacesRec ·)) && (c.loopsOut == fn.resultTypes.toList.any (P.loopsFrom ·))) =true)
   (a7:((c.plainKeys == P.plainKeys) && c.shortTexts.isNone && P.stopsHeard && P.mayEnter && (c.lifted == P.liftsFinal) && (P.make == some c.make) && (c.kinds ==(if c.domain.isEmpty then [] else fn.params.toList.map fun t=>match P.underlying t with | some (.int k)=>some k | _=>none)) && (c.pinned == c.pinnedBy)) =true)
   (a8:((c.veiled ==(fn.params.toList ++ s.plain.varTypes P ++ fn.resultTypes.toList).any (P.veiledRec ·)) && c.veiledFits P fn.params.toList (fn.params.toList ++ s.plain.varTypes P ++ fn.resultTypes.toList)) =true) :
   joinedFacts P f fn s c=true:=by
 rw[Bool.and_eq_true] at a8
 repeat rw[Bool.and_eq_true] at a7
 repeat rw[Bool.and_eq_true] at a6
 repeat rw[Bool.and_eq_true] at a5
 repeat rw[Bool.and_eq_true] at a1
 obtain ⟨⟨⟨⟨⟨⟨⟨⟨b1,b2⟩,b3⟩,b4⟩,b5⟩,b6⟩,b7⟩,b8⟩,b9⟩:=a1
 obtain ⟨⟨⟨⟨c1,c2⟩,c3⟩,c4⟩,c5⟩:=a5
 obtain ⟨⟨⟨d1,d2⟩,d3⟩,d4⟩:=a6
 obtain ⟨⟨⟨⟨⟨⟨⟨e1,e2⟩,e3⟩,e4⟩,e5⟩,e6⟩,e7⟩,e8⟩:=a7
 obtain ⟨f1,f2⟩:=a8
 unfold joinedFacts
 rw[b1,a0,b2,b3,b4,b5,b6,b7,b8,b9,a2,a3,a4,c1,c2,c3,c4,c5,d1,d2,d3,d4,e1,e2,e3,e4,e5,e6]
 exact Bool.and_eq_true_iff.2 ⟨Bool.and_eq_true_iff.2 ⟨Bool.and_eq_true_iff.2 ⟨Bool.and_eq_true_iff.2 ⟨rfl,e7⟩,e8⟩,f1⟩,f2⟩
end
end Go.Fw
namespace Go.Fw
section
variable {P:Program} {σ σ':Store} {el:TypeId} {d:D} {rs:List (List D)}
theorem a_w {n:Int}(h1: -9223372036854775808≤n)(h2:n≤9223372036854775807) :w64 n=n:=by
 simp only[w64,IntKind.wrap,IntKind.signed,IntKind.bits];simp;omega
theorem a_m {j:Nat}(h:j < 2 ^ 62) :w64 ((j:Int) +1) =((j+1:Nat) :Int):=by
 rw[a_w (by omega) (by omega)];omega
structure At (P:Program) (σ:Store) (el:TypeId) (d:D) (rs:List (List D)) :Prop where
 rows:Rows P σ el d rs
 size:rs.length < 2 ^ 60
 es:∀es rows,d= .sl es rows→es=P.cellsOf el
theorem At.lenI (h:At P σ el d rs) :Len d rs.length:=by
 have hr:=h.rows
 cases d <;> simp only[Rows] at hr <;> try exact hr.elim
 · subst hr;rfl
 · subst hr;rfl
 · rw[hr.1];rfl
 · obtain ⟨t,rows,h1,h2,h3,rfl⟩:=hr
   show _=_
   simp;omega
theorem At.lenK {K:Nat→Prop}(h:At P σ el d rs)(hk:K rs.length) :∃len:Nat,Len d len∧K len:=⟨_,h.lenI,hk⟩
theorem At.row {i:Nat}{row:List D}(h:At P σ el d rs)(hi:rs[i]? =some row) :Row σ d i row:=by
 have hr:=h.rows
 have hlt:=(List.getElem?_eq_some_iff.1 hi).1
 cases d <;> simp only[Rows] at hr <;> try exact hr.elim
 · subst hr;simp at hi
 · subst hr;simp at hi
 · rw[hr.1] at hi;exact hi
 · obtain ⟨t,rows,h1,h2,h3,rfl⟩:=hr
   refine ⟨?_,t,rows,h1,?_⟩
   · simp at hlt;omega
   · rw[List.getElem?_take] at hi
     split at hi
     · rw[List.getElem?_drop] at hi;exact hi
     · cases hi
theorem At.idx {es:Nat}(h:At P σ el d rs)(hes:P.cellsOf el=es)(hne:0 < rs.length) :Idx P σ d es rs.length:=by
 have hr:=h.rows
 subst hes
 cases d <;> simp only[Rows] at hr <;> try exact hr.elim
 · subst hr;simp at hne
 · subst hr;simp at hne
 · obtain ⟨rfl,h2⟩:=hr
   refine ⟨h2.resolve_left (fun e=>by subst e;simp at hne),rfl⟩
 · obtain ⟨t,rows,h1,h2,h3,rfl⟩:=hr
   exact ⟨by simp;omega,t,rows,h1,h2⟩
theorem At.idxN {es:Nat}(h:At P σ el d rs)(hes:P.cellsOf el=es) :IdxN P σ d es rs.length:=by
 by_cases hne:0 < rs.length
 · exact .inl (h.idx hes hne)
 · have hr:=h.rows
   have h0:rs=[]:=List.eq_nil_of_length_eq_zero (by omega)
   subst hes
   cases d <;> simp only[Rows] at hr <;> try exact hr.elim
   · exact .inr ⟨by omega, .inl rfl⟩
   · exact .inr ⟨by omega, .inr rfl⟩
   · exact .inl ⟨h.es _ _ rfl,by rw[hr.1]⟩
   · obtain ⟨t,rows,h1,h2,h3,rfl⟩:=hr
     exact .inl ⟨by simp;omega,t,rows,h1,h2⟩
theorem At.idxK {es:Nat}{n:Int}{j:Nat}{K:Prop}(h:At P σ el d rs)(hes:P.cellsOf el=es)(hn:n=j)(hj:j < rs.length)(hk:K) :
   ∃len:Nat,Idx P σ d es len∧0≤n∧n < (len:Int)∧K:=⟨_,h.idx hes (by omega),by omega,by omega,hk⟩
theorem At.rowK {i:Nat}{j:Nat}{row:List D}{K:List D→Prop}(h:At P σ el d rs)(hi:rs[j]? =some row)(hij:i=j)(hk:K row) :∃row,Row σ d i row∧K row:=⟨row,h.row (hij ▸ hi),hk⟩
theorem At.load {es:Nat}{n:Int}{j:Nat}{row:List D}{K:List D→Prop}(h:At P σ el d rs)(hi:rs[j]? =some row)(hes:P.cellsOf el=es)(hn:n=j)(hk:K row) :
   ∃len:Nat,Idx P σ d es len∧0≤n∧n < (len:Int)∧∃row,Row σ d n.toNat row∧K row:=
 h.idxK hes hn (List.getElem?_eq_some_iff.1 hi).1 (h.rowK hi (by omega) hk)
theorem At.sub {lo hi:Nat}(h:At P σ el d rs)(h1:lo≤hi)(h2:hi≤rs.length) :At P σ el (g_i d lo hi) ((rs.drop lo).take (hi - lo)):=by
 have hr:=h.rows
 have hs:=h.size
 have hl:((rs.drop lo).take (hi - lo)).length < 2 ^ 60:=by simp;omega
 cases d <;> simp only[Rows] at hr <;> try exact hr.elim
 · subst hr;exact ⟨by simp[g_i,Rows],hl,fun es rows e=>by cases e⟩
 · subst hr;exact ⟨by simp[g_i,Rows],hl,fun es rows e=>by cases e⟩
 · rename_i es rows
   obtain ⟨rfl,h3⟩:=hr
   refine ⟨⟨rfl, .inr (h.es _ _ rfl)⟩,hl,fun es' rows' e=>?_⟩
   have e:D.sl es _=D.sl es' rows':=e
   injection e with e1 e2
   rw[←e1];exact h.es _ _ rfl
 · obtain ⟨t,rows,q1,q2,q3,rfl⟩:=hr
   refine ⟨⟨t,rows,q1,q2,?_,?_⟩,hl,fun es rows e=>by cases e⟩
   · simp at h2;omega
   · rw[List.drop_take,List.take_take,List.drop_drop]
     simp at h2
     congr 1;omega
theorem At.sliceK {es lo hi:Nat}{l m:Int}{K:Prop}(h:At P σ el d rs)(hes:P.cellsOf el=es)(hl:l=lo)(hm:m=hi)(h1:lo≤hi)(h2:hi≤rs.length)(hk:K) :
   ∃len:Nat,IdxN P σ d es len∧0≤l∧l≤m∧m≤(len:Int)∧K:=⟨_,h.idxN hes,by omega,by omega,by omega,hk⟩
theorem At.sliceFromK {es lo:Nat}{l:Int}{K:Nat→Prop}(h:At P σ el d rs)(hes:P.cellsOf el=es)(hl:l=lo)(h1:lo≤rs.length)(hk:K rs.length) :
   ∃len:Nat,IdxN P σ d es len∧0≤l∧l≤(len:Int)∧K len:=⟨_,h.idxN hes,by omega,by omega,hk⟩
def Ext (σ σ':Store) :Prop:=∀i,σ i≠ .free→σ' i=σ i
theorem Ext.refl (σ:Store) :Ext σ σ:=fun _ _=>rfl
theorem Ext.trans {σ1 σ2 σ3:Store}(h:Ext σ1 σ2)(h':Ext σ2 σ3) :Ext σ1 σ3:=fun i hi=>by
 have:=h i hi
 rw[h' i (by rw[this];exact hi),this]
theorem Ext.new {id:Nat}(h:σ id= .free)(so:SO) :Ext σ (σ.set id so):=fun i hi=>Store.set_ne _ _ (fun e=>hi (e ▸ h))
theorem Ext.set {σ0:Store}{id:Nat}(h:Ext σ0 σ)(hid:σ0 id= .free)(so:SO) :Ext σ0 (σ.set id so):=fun i hi=>by
 have hne:i≠id:=fun e=>hi (by rw[e];exact hid)
 rw[Store.set_ne _ _ hne];exact h i hi
theorem Rows.same (h:Rows P σ el d rs)(hs:∀id i len,d= .osl id i len→σ' id=σ id) :Rows P σ' el d rs:=by
 cases d <;> first | exact h | skip
 obtain ⟨t,rows,h1,h2⟩:=h
 exact ⟨t,rows,by rw[hs _ _ _ rfl];exact h1,h2⟩
theorem At.same (h:At P σ el d rs)(hs:∀id i len,d= .osl id i len→σ' id=σ id) :At P σ' el d rs:=⟨h.rows.same hs,h.size,h.es⟩
theorem At.ext (h:At P σ el d rs)(he:Ext σ σ') :At P σ' el d rs:=h.same fun id i len e=>he id (by
 have:=h.rows;subst e
 obtain ⟨t,rows,h1,_⟩:=this
 rw[h1];intro e;cases e)
theorem At.nil:At P σ el .nils []:=⟨rfl,by simp,fun es rows e=>by cases e⟩
theorem At.new {t:TypeId}{id:Nat}(rs:List (List D))(h:σ id= .live t rs)(hes:P.cellsOf t=P.cellsOf el)(hsz:rs.length < 2 ^ 60){n:Nat}(hn:n=rs.length) :At P σ el (.osl id 0 n) rs:=
 ⟨⟨t,rs,h,hes,by omega,by subst hn;simp⟩,hsz,fun es rows e=>by cases e⟩
theorem At.fresh {id:Nat}{rs:List (List D)}(h:σ id= .live el rs)(hsz:rs.length < 2 ^ 60){n:Nat}(hn:n=rs.length) :At P σ el (.osl id 0 n) rs:= .new rs h rfl hsz hn
theorem a_d {so:SO}{K:Nat→Store→Prop}(h:∀id σ',σ id= .free→σ'=σ.set id so→Ext σ σ'→σ' id=so→K id σ') :Fw.newObj σ so K:=
 fun id hid=>h id _ hid rfl (Ext.new hid so) (Store.set_same _ _ _)
/-! ### cases -/
theorem bc {b:Bool}{x y:Prop}(h1:b=true→x)(h2:b=false→y) :a_b b x y:=by cases b;exact h2 rfl;exact h1 rfl
theorem bcd {p:Prop}[Decidable p]{x y:Prop}(h1:p→x)(h2:¬p→y) :a_b (decide p) x y:=bc (fun h=>h1 (of_decide_eq_true h)) (fun h=>h2 (of_decide_eq_false h))
theorem bce {a b:Int}{x y:Prop}(h1:a=b→x)(h2:a≠b→y) :a_b (a == b) x y:=bc (fun h=>h1 (by simpa using h)) (fun h=>h2 (by simpa using h))
theorem bcn {a b:Int}{x y:Prop}(h1:a≠b→x)(h2:a=b→y) :a_b (a != b) x y:=bc (fun h=>h1 (by simpa using h)) (fun h=>h2 (by simpa using h))
theorem a_p {b:Bool}{x y:Prop}(h1:b=false→x)(h2:b=true→y) :a_b (!b) x y:=by cases b;exact h1 rfl;exact h2 rfl
/-! ### calls -/
def Pure (P:Program)(f:FuncId)(as0:List A)(σ:Store)(r:RV) :Prop:=DCalls P f as0 σ fun r' σ'=>r'=r∧σ'=σ
theorem Pure.use {f:FuncId}{as0:List A}{r:RV}{Q:RV→Store→Prop}(h:Pure P f as0 σ r)(hq:Q r σ) :DCalls P f as0 σ Q:=h.mono fun r' s ⟨h1,h2⟩=>by subst h1 h2;exact hq
/-! ### what a call hands back -/
theorem Fz.refl {S:Nat→Prop}{es:Nat}{rows:List (List D)}(h:∀row ∈ rows,∀d ∈ row,Fz P σ S d d) :Fz P σ S (.sl es rows) (.sl es rows):=
 .sl es rows rows rfl (fun i row row' h1 h2=>by rw[h1] at h2;injection h2 with h2;rw[h2]) (fun i row row' j d d' h1 h2 h3 h4=>by
   rw[h1] at h2;injection h2 with h2;subst h2
   rw[h3] at h4;injection h4 with h4;subst h4
   exact h row (List.mem_of_getElem? h1) d (List.mem_of_getElem? h3))
inductive Flat:D→Prop
 | int (q n) :Flat (.int q n)
 | bool (b) :Flat (.bool b)
 | str (s) :Flat (.str s)
theorem Flat.fz {S:Nat→Prop}{d:D}(h:Flat d) :Fz P σ S d d:=by cases h <;> constructor
theorem Fz.osl_flat {S:Nat→Prop}{id i len:Nat}{rows':List (List D)}{t:TypeId}{rows:List (List D)}(hn:¬S id)(hs:σ id= .live t rows)(hi:i+len≤rows.length)(hr:rows'=(rows.drop i).take len)
   (hf:∀row ∈ rows',∀d ∈ row,Flat d) :Fz P σ S (.osl id i len) (.sl (P.cellsOf t) rows'):=by
 have hl:rows'.length=len:=by rw[hr];simp;omega
 have key:∀(j:Nat) row row',rows[i+j]? =some row→rows'[j]? =some row'→row'=row:=fun j row row' h1 h2=>by
   have hlt:=(List.getElem?_eq_some_iff.1 h2).1
   rw[hr,List.getElem?_take,if_pos (by omega),List.getElem?_drop,h1] at h2
   injection h2 with h2;exact h2.symm
 exact .osl id i len t rows rows' hn hs hi hl (fun j row row' h1 h2=>by rw[key j row row' h1 h2]) (fun j row row' m d d' h1 h2 h3 h4=>by
   have e:=key j row row' h1 h2
   subst e
   rw[h3] at h4;injection h4 with h4;subst h4
   exact (hf row' (List.mem_of_getElem? h2) d (List.mem_of_getElem? h3)).fz)
theorem Ret.pure {σ0:Store}{r r':RV}(he:Ext σ0 σ)(hr:FzR P σ (fun i=>σ0 i≠ .free) r r') :Ret P σ0 σ r σ0 r':=
 ⟨fun i=>σ0 i≠ .free,fun i h=>h,fun i h=>Classical.not_not.1 h,fun i h=> .inl ⟨(he i h).symm,he i h⟩,hr⟩
theorem FzL.cons {S:Nat→Prop}{d d':D}{ds ds':List D}(h:Fz P σ S d d')(ht:FzL P σ S ds ds') :FzL P σ S (d::ds) (d'::ds'):=
 ⟨by simp[ht.1],fun i x y h1 h2=>by
   cases i with
   | zero=>simp at h1 h2;subst h1 h2;exact h
   | succ i=>exact ht.2 i x y (by simpa using h1) (by simpa using h2)⟩
theorem FzL.nil {S:Nat→Prop} :FzL P σ S [] []:=⟨rfl,fun i x y h=>by simp at h⟩
theorem FzL.flat {S:Nat→Prop}{ds:List D}(h:∀d ∈ ds,Flat d) :FzL P σ S ds ds:=
 ⟨rfl,fun i x y h1 h2=>by rw[h1] at h2;injection h2 with h2;subst h2;exact (h x (List.mem_of_getElem? h1)).fz⟩
theorem s_8 {σ0:Store}{rs:List (List D)}(h:At P σ el d rs)(he:Ext σ0 σ)(hid:∀id i len,d= .osl id i len→σ0 id= .free)(hf:∀row ∈ rs,∀x ∈ row,Flat x) :
   ∃d',Fz P σ (fun i=>σ0 i≠ .free) d d'∧(∀σ'',At P σ'' el d' rs):=by
 have hr:=h.rows
 cases d <;> simp only[Rows] at hr <;> try exact hr.elim
 · subst hr;exact ⟨.nils, .nils,fun _=> .nil⟩
 · subst hr;exact ⟨.zsl, .zsl,fun _=>⟨rfl,by simp,fun es rows e=>by cases e⟩⟩
 · rename_i es rows
   obtain ⟨rfl,h3⟩:=hr
   exact ⟨_, .refl fun row hrow x hx=>(hf row hrow x hx).fz,fun σ''=>⟨⟨rfl,h3⟩,h.size,h.es⟩⟩
 · obtain ⟨t,rows,q1,q2,q3,rfl⟩:=hr
   rename_i id i len
   refine ⟨.sl (P.cellsOf t) ((rows.drop i).take len), .osl_flat (fun hn=>hn (hid _ _ _ rfl)) q1 q3 rfl hf,fun σ''=>⟨⟨rfl, .inr q2⟩,h.size,fun es rows e=>?_⟩⟩
   injection e with e1 e2
   rw[←e1];exact q2
/-! ### slices that grow -/
structure Own (P:Program) (σ0 σ:Store) (el:TypeId) (d:D) (rs:List (List D)) :Prop where
 at_:At P σ el d rs
 ext:Ext σ0 σ
 new:∀id i len,d= .osl id i len→σ0 id= .free
 nsl:¬isSl d
 nz:d≠ .zsl
theorem Own.nil (σ0:Store)(h:Ext σ0 σ) :Own P σ0 σ el .nils []:=⟨.nil,h,fun id i len e=>(by cases e),fun h=>h,by intro e;cases e⟩
theorem Own.ext' {σ0:Store}(h:Own P σ0 σ el d rs)(he:Ext σ σ') :Own P σ0 σ' el d rs:=⟨h.at_.ext he,h.ext.trans he,h.new,h.nsl,h.nz⟩
theorem Own.append {σ0:Store}{x:D}{ns:List (List D)}{bytes:Nat}{K:D→Store→Prop}(h:Own P σ0 σ el d rs)(hx:At P σ el x ns)(hb:bytes * (rs.length+ns.length)≤140737488355328)
   (hsz:rs.length+ns.length < 2 ^ 60) (hk:∀d' σ',Own P σ0 σ' el d' (rs ++ ns)→(∀i,σ i≠ .free→(∀a b,d≠ .osl i a b)→σ' i=σ i)→(∀i a b,d'= .osl i a b→σ i= .free∨∃a b,d= .osl i a b)→K d' σ') :a_v P σ el bytes d x K:=by
 refine ⟨rs,ns,h.at_.rows,hx.rows,hb,fun hs=>absurd hs h.nsl,fun d' σ' ha=>?_⟩
 have hl:(rs ++ ns).length < 2 ^ 60:=by simp;omega
 rcases ha with ⟨rfl,rfl,rfl⟩ | ⟨hne,id,hid,rfl,rfl⟩ | ⟨hne,id,i0,len,t,rows,rfl,hlive,rfl,rfl⟩
 · refine hk _ _ ?_ (fun i _ _=>rfl) (fun i a b e=> .inr ⟨a,b,e⟩)
   rw[List.append_nil];exact h
 · refine hk _ _ ⟨.new (t:=el) _ (Store.set_same _ _ _) rfl hl (by simp),fun i hi=>?_,fun id' i len e=>?_,fun h=>h,by intro e;cases e⟩ (fun i hi _=>?_) (fun i a b e=> .inl ?_)
   · rw[Store.set_ne _ _ (fun e=>?_)]
     · exact h.ext i hi
     · subst e
       have:=h.ext i hi
       rw[hid] at this;exact hi this.symm
   · injection e with e1;subst e1
     by_cases hf:σ0 id= .free
     · exact hf
     · have:=h.ext id hf
       rw[hid] at this;exact this.symm
   · exact Store.set_ne _ _ (fun e=>hi (e ▸ hid))
   · injection e with e1;subst e1;exact hid
 · have hrow:=h.at_.rows
   obtain ⟨t',rows',q1,q2,q3,hrs⟩:=hrow
   rw[hlive] at q1;injection q1 with q1 q1';subst q1 q1'
   have hnew:=h.new id i0 len rfl
   have hlen:rs.length=len:=by rw[hrs];simp;omega
   refine hk _ _ ⟨⟨⟨t,_,Store.set_same _ _ _,q2,?_,?_⟩,hl,fun es rows e=>by cases e⟩,h.ext.set hnew _,fun id' i l e=>?_,fun h=>h,by intro e;cases e⟩ (fun i hi hd=>Store.set_ne _ _ (fun e=>hd i0 len (by rw[e]))) (fun i a b e=> .inr ?_)
   · simp;omega
   · have e1 : rows.take (i0 + len) = rows.take i0 ++ rs := by
       rw[List.take_add,hrs]
     rw[e1,List.append_assoc,List.append_assoc,List.drop_append_of_le_length (by simp;omega)]
     have e2:(rows.take i0).drop i0=[]:=by rw[List.drop_eq_nil_iff];simp;omega
     rw[e2,List.nil_append,←List.append_assoc,List.take_append_of_le_length (by simp;omega),List.take_of_length_le (by simp;omega)]
   · injection e with e1;subst e1;exact hnew
   · injection e with e1;subst e1;exact ⟨_,_,rfl⟩
/-! ### ranges -/
theorem a_he {α:Type}{l:List α}{j:Nat}{x:α}(h:l[j]? =some x) :l.drop j=x::l.drop (j+1):=by
 obtain ⟨h1,h2⟩:=List.getElem?_eq_some_iff.1 h
 rw[List.drop_eq_getElem_cons h1,h2]
theorem e_7 {α:Type}{l:List α}{j:Nat}(h:l.length≤j) :l.drop j=[]:=List.drop_eq_nil_iff.2 h
theorem a_g {α:Type}{l:List α}{j:Nat}(h:j < l.length) :∃x,l[j]? =some x:=⟨l[j],List.getElem?_eq_getElem h⟩
theorem a_c {α β:Type}{f:α→β}{l:List α}{j:Nat}{x:α}(h:l[j]? =some x) :(l.map f)[j]? =some (f x):=by simp[h]
def Rng {α:Type}(l:List α)(F:List α→Prop)(n:Int) :Prop:=∃j:Nat,n=j∧j≤l.length∧F (l.drop j)
theorem Rng.start {α:Type}{l:List α}{F:List α→Prop}(h:F l) :Rng l F 0:=⟨0,rfl,by omega,h⟩
theorem Rng.step {α:Type}{l:List α}{F:List α→Prop}{n:Int}{m:Nat}(h:Rng l F n)(hm:m=l.length)(hl:l.length < 2 ^ 60)(hlt:n < (m:Int)) :
   ∃(j:Nat) (x:α),n=j∧l[j]? =some x∧j < l.length∧F (x::l.drop (j+1))∧
     ∀F':List α→Prop,F' (l.drop (j+1))→Rng l F' (w64 (n+1))∧l.length - (w64 (n+1)).toNat < l.length - n.toNat:=by
 obtain ⟨j,rfl,hj,hF⟩:=h
 have hj':j < l.length:=by omega
 obtain ⟨x,hx⟩:=a_g hj'
 refine ⟨j,x,rfl,hx,hj',by rw[←a_he hx];exact hF,fun F' h'=>?_⟩
 rw[a_m (by omega)]
 exact ⟨⟨j+1,rfl,by omega,h'⟩,by omega⟩
theorem Rng.done {α:Type}{l:List α}{F:List α→Prop}{n:Int}{m:Nat}(h:Rng l F n)(hm:m=l.length)(hge:¬n < (m:Int)) :F []:=by
 obtain ⟨j,rfl,hj,hF⟩:=h
 rw[e_7 (by omega)] at hF;exact hF
theorem c_6 {p a b:Prop}(hp:p)(h:a∧b) :(p∧a)∧b:=⟨⟨hp,h.1⟩,h.2⟩
theorem a_y8 {p q a b:Prop}(hp:p)(hq:q)(h:a∧b) :(p∧q∧a)∧b:=⟨⟨hp,hq,h.1⟩,h.2⟩
/-! ### maps -/
def MapAt {κ:Type}(P:Program)(kt:TypeId)(enc:κ→A)(σ:Store)(id:Nat)(f:κ→Option A) :Prop:=
 ∃clock es,σ id= .mp clock es∧k_w P kt es∧∀x,c_j (enc x) es=f x
def Keys {κ:Type}(P:Program)(kt:TypeId)(enc:κ→A) :Prop:=(∀x,g_v P kt (enc x) =true)∧∀x y,eqA (enc x) (enc y) =true↔x=y
variable {κ:Type} {kt:TypeId} {enc:κ→A} {id:Nat} {f:κ→Option A}
theorem MapAt.new (h:σ id= .mp 0 []) :MapAt P kt enc σ id fun _=>none:=⟨0,[],h,fun e he=>(by cases he),fun x=>rfl⟩
theorem MapAt.same (h:MapAt P kt enc σ id f)(hs:σ' id=σ id) :MapAt P kt enc σ' id f:=by
 obtain ⟨c,es,h1,h2⟩:=h
 exact ⟨c,es,hs.trans h1,h2⟩
theorem MapAt.look (hk:Keys P kt enc)(h:MapAt P kt enc σ id f)(x:κ) :j_b P kt σ (.omap id) (enc x) (f x):=by
 obtain ⟨c,es,h1,h2,h3⟩:=h
 exact ⟨hk.1 x, .inr ⟨id,c,es,rfl,h1,h2,(h3 x).symm⟩⟩
theorem MapAt.lookI (hk:Keys P kt enc)(h:MapAt P kt enc σ id f)(x:κ){n:Int}{K:Int→Prop}(hn:(f x).getD (iA 0) =iA n)(hK:K n) :
   ∃r:Option A,j_b P kt σ (.omap id) (enc x) r∧∃n:Int,Option.getD r (iA 0) =iA n∧K n:=⟨_,h.look hk x,n,hn,hK⟩
theorem h_u (x y:A) :eqA x y=eqA y x:=by
 unfold eqA
 generalize b_s x=as0
 generalize b_s y=bs
 induction as0 generalizing bs with
 | nil=>cases bs <;> rfl
 | cons a as0 ih=>
   cases bs with
   | nil=>rfl
   | cons b bs=>
     simp only[b_7,ih]
     congr 1
     cases a <;> cases b <;> simp[e_0]
     · exact Bool.eq_iff_iff.2 (by simp;exact eq_comm)
     · exact Bool.eq_iff_iff.2 (by simp;exact eq_comm)
     · exact Bool.eq_iff_iff.2 (by rw[MapKept.bytes_beq,MapKept.bytes_beq];exact eq_comm)
theorem z_y {x:A}{es:List Ent}{e:Ent} :c_j x (es ++ [e]) =(c_j x es).or (if eqA x e.2.1=true then some e.2.2 else none):=by
 unfold c_j
 rw[List.find?_append]
 cases es.find? (fun e=>eqA x e.2.1) with
 | some w=>simp
 | none=>
   simp only[Option.none_or,Option.map_none,List.find?_cons,List.find?_nil]
   cases eqA x e.2.1 <;> simp
theorem a_kv {x y:A}{es:List Ent}{j:Nat}{e:Ent}{v:A}(hf:FirstAt y es j e) :c_j x (es.set j (e.1,y,v)) =if eqA x y=true then some v else c_j x es:=by
 unfold c_j
 induction es generalizing j with
 | nil=>simp[FirstAt] at hf
 | cons e0 es ih=>
   cases j with
   | zero=>
     obtain ⟨h1,h2,_⟩:=hf
     simp at h1;subst h1
     simp only[List.set_cons_zero,List.find?_cons]
     have:=n_6 h2 x
     cases hxy:eqA x y with
     | true=>simp
     | false=>rw[hxy] at this;simp[←this]
   | succ j=>
     obtain ⟨h1,h2⟩:=hf.tail
     have ih:=ih h2
     simp only[List.set_cons_succ,List.find?_cons]
     cases h0:eqA x e0.2.1 with
     | true=>
       have hxy:eqA x y=false:=by
         cases hxy:eqA x y with
         | false=>rfl
         | true=>
           rw[h_u] at hxy
           have:=n_6 hxy e0.2.1
           rw[h_u e0.2.1 y,h1,h_u e0.2.1 x,h0] at this
           cases this
       simp[hxy]
     | false=>simp only[ih]
theorem a_hl {x:A}{es:List Ent}(h:∀e ∈ es,eqA x e.2.1=false) :c_j x es=none:=by simp[c_j,n_n h]
theorem a_t8 {clock:Nat}{es:List Ent}{y v:A}(hy:g_v P kt y=true)(hk:k_w P kt es) :∃c es',mput clock es y v= .mp c es'∧k_w P kt es'∧∀x,c_j x es'=if eqA x y=true then some v else c_j x es:=by
 rcases n_5 clock es y v with ⟨hn,e1,_,_⟩ | ⟨j,e,hf,e1,_,_⟩
 · refine ⟨_,_,e1,fun w hw=>?_,fun x=>?_⟩
   · rcases List.mem_append.1 hw with hw | hw
     · exact hk w hw
     · simp at hw;subst hw;exact hy
   · rw[z_y]
     by_cases hxy:eqA x y=true
     · have hnx : c_j x es = none := a_hl fun e he => by
         have h1:=hn e he
         have:=n_6 (by rw[h_u];exact hxy:eqA y x=true) e.2.1
         rw[h_u e.2.1 y,h1,h_u e.2.1 x] at this
         exact this.symm
       simp[hxy,hnx]
     · simp[hxy]
 · refine ⟨_,_,e1,fun w hw=>?_,fun x=>a_kv hf⟩
   rcases List.mem_or_eq_of_mem_set hw with hw | hw
   · exact hk w hw
   · subst hw;exact hy
theorem MapAt.put (hk:Keys P kt enc)(h:MapAt P kt enc σ id f)(x:κ){v:A}{K:Store→Prop}
   (hK:∀σ' f',MapAt P kt enc σ' id f'→(∀z,z≠x→f' z=f z)→f' x=some v→(∀i,i≠id→σ' i=σ i)→σ' id≠ .free→K σ') :MPut P kt σ (.omap id) (enc x) v K:=by
 obtain ⟨c,es,h1,h2,h3⟩:=h
 obtain ⟨c',es',e1,e2,e3⟩:=a_t8 (clock:=c) (v:=v) (hk.1 x) h2
 refine ⟨id,c,es,⟨hk.1 x,rfl,h1,h2⟩,?_⟩
 rw[e1]
 exact hK _ (fun z=>c_j (enc z) es') ⟨c',es',Store.set_same _ _ _,e2,fun z=>rfl⟩ (fun z hz=>by rw[e3,if_neg (fun h=>hz ((hk.2 z x).1 h)),h3]) (by rw[e3,if_pos ((hk.2 x x).2 rfl)])
   (fun i hi=>Store.set_ne _ _ hi) (by rw[Store.set_same];intro e;cases e)
theorem MapAt.bump (hk:Keys P kt enc)(h:MapAt P kt enc σ id f)(x:κ){z v:A}{K:Store→Prop}
   (hK:∀σ' f',MapAt P kt enc σ' id f'→(∀z,z≠x→f' z=f z)→f' x=some v→(∀i,i≠id→σ' i=σ i)→σ' id≠ .free→K σ') :
   a_ll P kt σ (.omap id) (enc x) z fun _ n σ'=>a_g5 σ' (.omap id) n v K:=by
 obtain ⟨c,es,h1,h2,h3⟩:=h
 refine ⟨id,c,es,⟨hk.1 x,rfl,h1,h2⟩,fun hb=>?_⟩
 have fin : ∀ (c' : Nat) (es1 : List Ent), k_w P kt es1 → (∀ y, c_j y (r_4 (j_g c es (enc x)) v es1) = if eqA y (enc x) = true then some v else c_j y es) → k_w P kt (r_4 (j_g c es (enc x)) v es1) →
     mput c es (enc x) ((c_j (enc x) es).getD z) = .mp c' es1→(∃e ∈ es1,(e.1:Int) =(j_g c es (enc x) :Nat))→
     a_g5 (σ.set id (mput c es (enc x) ((c_j (enc x) es).getD z))) (.omap id) (j_g c es (enc x) :Nat) v K:=by
   intro c' es1 hk1 hf hk2 he hm
   refine ⟨id,c',es1,rfl,by rw[Store.set_same,he],hm,?_⟩
   exact hK _ (fun y=>c_j (enc y) (r_4 (j_g c es (enc x)) v es1)) ⟨c',_,Store.set_same _ _ _,hk2,fun y=>rfl⟩ (fun y hy=>by rw[hf,if_neg (fun h=>hy ((hk.2 y x).1 h)),h3]) (by rw[hf,if_pos ((hk.2 x x).2 rfl)])
     (fun i hi=>by rw[Store.set_ne _ _ hi,Store.set_ne _ _ hi]) (by rw[Store.set_same];intro e;cases e)
 rcases n_5 c es (enc x) ((c_j (enc x) es).getD z) with ⟨hn,e1,e2,e3⟩ | ⟨j,e,hf,e1,e2,e3⟩
 · rw[e2,Option.getD_none] at e1
   have hst:r_4 (j_g c es (enc x)) v (es ++ [(c,enc x,z)]) =es ++ [(c,enc x,v)]:=by
     have hj:(es ++ [(c,enc x,z)])[es.length]? =some (c,enc x,z):=by simp
     rw[z_5 (hb.push (enc x) z).2 hj (by rw[e3])]
     simp
   refine fin (c+1) (es ++ [(c,enc x,z)]) (fun w hw=>?_) (fun y=>?_) ?_ (by rw[e2,Option.getD_none];exact e1) ⟨(c,enc x,z),List.mem_append_right _ (List.mem_singleton.2 rfl),by rw[e3]⟩
   · rcases List.mem_append.1 hw with hw | hw
     · exact h2 w hw
     · simp at hw;subst hw;exact hk.1 x
   · rw[hst,z_y]
     by_cases hxy:eqA y (enc x) =true
     · have hnx : c_j y es = none := a_hl fun e he => by
         have h1:=hn e he
         have:=n_6 (by rw[h_u];exact hxy:eqA (enc x) y=true) e.2.1
         rw[h_u e.2.1 (enc x),h1,h_u e.2.1 y] at this
         exact this.symm
       simp[hxy,hnx]
     · simp[hxy]
   · rw[hst]
     intro w hw
     rcases List.mem_append.1 hw with hw | hw
     · exact h2 w hw
     · simp at hw;subst hw;exact hk.1 x
 · rw[e2,Option.getD_some] at e1
   have hlt:=(List.getElem?_eq_some_iff.1 hf.1).1
   have hj:(es.set j (e.1,enc x,e.2.2))[j]? =some (e.1,enc x,e.2.2):=by simp[hlt]
   have hst:r_4 (j_g c es (enc x)) v (es.set j (e.1,enc x,e.2.2)) =es.set j (e.1,enc x,v):=by
     rw[z_5 (hb.set hf.1 (enc x) e.2.2).2 hj (by rw[e3]),List.set_set]
   refine fin c (es.set j (e.1,enc x,e.2.2)) (fun w hw=>?_) (fun y=>by rw[hst];exact a_kv hf) ?_ (by rw[e2,Option.getD_some];exact e1) ⟨_,List.mem_of_getElem? hj,by rw[e3]⟩
   · rcases List.mem_or_eq_of_mem_set hw with hw | hw
     · exact h2 w hw
     · subst hw;exact hk.1 x
   · rw[hst]
     intro w hw
     rcases List.mem_or_eq_of_mem_set hw with hw | hw
     · exact h2 w hw
     · subst hw;exact hk.1 x
theorem y_g {σ0:Store}{id i0 n:Nat}(h:σ0 id= .free) :∀id' i len,D.osl id i0 n= .osl id' i len→σ0 id'= .free:=fun id' i len e=>by
 have:=(D.osl.inj e).1
 rw[←this];exact h
inductive FlatR:RV→Prop
 | one (x:D) (h:Flat x) :FlatR (.a (.one x))
 | agg (ds:List D) (h:∀d ∈ ds,Flat d) :FlatR (.a (.agg ds))
 | tup (ds:List D) (h:∀d ∈ ds,Flat d) :FlatR (.tup (ds.map .one))
theorem FlatR.fz {S:Nat→Prop}{r:RV}(h:FlatR r) :FzR P σ S r r:=by
 cases h with
 | one d h=>exact h.fz
 | agg ds h=>exact FzL.flat h
 | tup ds h=>
   refine ⟨rfl,fun i x y h1 h2=>?_⟩
   rw[h1] at h2;injection h2 with h2;subst h2
   simp only[List.getElem?_map,Option.map_eq_some_iff] at h1
   obtain ⟨d,h1,rfl⟩:=h1
   exact (h d (List.mem_of_getElem? h1)).fz
theorem Pure.of {f:FuncId}{as0:List A}{r:RV}(h:DCalls P f as0 σ fun r' s=>r'=r∧Ext σ s)(hf:FlatR r) :Pure P f as0 σ r:=
 h.ret fun r' s ⟨h1,h2⟩=>by subst h1;exact ⟨r',σ, .pure h2 hf.fz,rfl,rfl⟩
theorem a_wo (n:Int) :FlatR (.a (iA n)):= .one _ (.int _ _)
theorem l_e (b:Bool) :FlatR (.a (bA b)):= .one _ (.bool _)
theorem a_tu (h:∀a b:Int,g_v P kt (.agg [iD a,iD b]) =true) :Keys P kt fun p:Int × Int=> .agg [iD p.1,iD p.2]:=
 ⟨fun x=>h _ _,fun x y=>by simp[eqA,b_7,b_s,e_0,Prod.ext_iff]⟩
end
section
structure Sec where
 Kind:Int
 OC:Int
 Line:Int
structure Jt where
 A:Int
 AEnd:Int
 B:Int
 BEnd:Int
structure Sg where
 Sec:Int
 End_:Int
 deriving DecidableEq
structure St where
 Sec:Int
 In:Int
 Out:Int
structure Nd where
 Sec:Int
 Pos:Int
 deriving DecidableEq
def Sec.enc (s:Sec) :List D:= [iD s.Kind,iD s.OC,iD s.Line]
def Jt.enc (s:Jt) :List D:= [iD s.A,iD s.AEnd,iD s.B,iD s.BEnd]
def Sg.enc (s:Sg) :List D:= [iD s.Sec,iD s.End_]
def St.enc (s:St) :List D:= [iD s.Sec,iD s.In,iD s.Out]
def Nd.enc (s:Nd) :List D:= [iD s.Sec,iD s.Pos]
def encI (n:Int) :List D:= [iD n]
def f_c (k:Int) :List (Int × Int × Int):=
 if k=0 then [(0,1,0)] else if k=1 then [(0,1,1),(0,2,2)] else if k=2 then [(0,1,0),(2,3,0)] else []
def encW (w:Int × Int × Int) :List D:= [iD w.1,iD w.2.1,iD w.2.2]
def b_l (k:Int) :Int:=if k=0 then 2 else if k=1 then 3 else if k=2 then 4 else 0
def l_4 (n:Int)(w:Int × Int × Int) :Int:=
 ite (w64 (w.2.1+1) > ite (w64 (w.1+1) > n) (w64 (w.1+1)) n) (w64 (w.2.1+1)) (ite (w64 (w.1+1) > n) (w64 (w.1+1)) n)
theorem a_th (k:Int) :(f_c k).foldl l_4 0=b_l k:=by
 unfold f_c b_l
 split
 · decide
 · split
   · decide
   · split
     · decide
     · rfl
def h_n:List (Int × Int × Int)→Int→Int→Option Int
 | [],_,_=>none
 | w::r,i,o=>if (w.1=i∧w.2.1=o)∨(w.2.1=i∧w.1=o) then some w.2.2 else h_n r i o
def nxt:List Jt→Int→Int→Option (Int × Int)
 | [],_,_=>none
 | j::r,s,e=>if j.A=s∧j.AEnd=e then some (j.B,j.BEnd) else if j.B=s∧j.BEnd=e then some (j.A,j.AEnd) else nxt r s e
def opt2:Option (Int × Int)→RV
 | none=> .tup [iA 0,iA 0,bA false]
 | some p=> .tup [iA p.1,iA p.2,bA true]
def opt1:Option Int→RV
 | none=> .tup [iA 0,bA false]
 | some p=> .tup [iA p,bA true]
def cnt:List Jt→Int→Int→Int
 | [],_,_=>0
 | j::r,s,e=>(if j.A=s∧j.AEnd=e then 1 else 0) + (if j.B=s∧j.BEnd=e then 1 else 0) +cnt r s e
def k_7:List Int→Int→Nat→Int
 | [],_,_=> -1
 | x::r,v,j=>if v=x then j else k_7 r v (j+1)
/-! ### is the plan right? -/
def j_j (secs:List Sec)(i:Int) :Int:=(secs[i.toNat]?.map Sec.Kind).getD (-1)
def k_5 (secs:List Sec)(p:Int × Int) :Bool:=decide (0≤p.1∧p.1≤(secs.length:Int) - 1) && decide (0≤p.2∧p.2≤b_l (j_j secs p.1) - 1)
def v_s (secs:List Sec) :List (Int × Int)→List (Int × Int)→Option (List (Int × Int))
 | [],tk=>some tk
 | p::r,tk=>if k_5 secs p=true∧p ∉ tk then v_s secs r (p::tk) else none
def Jt.spots (j:Jt) :List (Int × Int):= [(j.A,j.AEnd),(j.B,j.BEnd)]
def w_d (secs:List Sec) :List Jt→List (Int × Int)→Option (List (Int × Int))
 | [],tk=>some tk
 | j::r,tk=>match v_s secs j.spots tk with
   | none=>none
   | some tk'=>if j.A=j.B then none else w_d secs r tk'
def v_7 (tk:List (Int × Int)) :List Sec→Int→List Int→Bool
 | [],_,_=>true
 | s::r,i,ls=>if b_l s.Kind=0∨¬(0≤s.OC∧s.OC≤3)∨¬(0≤s.Line∧s.Line≤3)∨s.Line≠0∧(s.Kind≠0∨(i,1) ∈ tk∨s.Line ∈ ls) then false else v_7 tk r (i+1) (s.Line::ls)
def b_q (secs:List Sec)(js:List Jt) :Bool:=
 decide (1≤secs.length∧secs.length≤16∧js.length≤24) && match w_d secs js [] with
   | none=>false
   | some tk=>v_7 tk secs 0 []
theorem y_i (k:Int) :0≤b_l k∧b_l k≤4:=by unfold b_l;split <;> (try split) <;> (try split) <;> omega
end
end Go.Fw
namespace Go.Proofs.YtdmfnhbmhkgemaaGreat
open Go.Fw
open Go.Proofs.Tryz (prog)
section
theorem mixed:prog.follows .mixedOrders=true:=Go.Proofs.Tryz.checked.mixed
abbrev l_b:FuncId:=3
abbrev m_j:FuncId:=5
abbrev i_y:FuncId:=6
abbrev h_i:FuncId:=7
abbrev w_s:FuncId:=8
abbrev n_a:FuncId:=9
abbrev f_b:FuncId:=10
abbrev o_t:FuncId:=13
abbrev m_0:FuncId:=14
abbrev j_o:FuncId:=15
abbrev h_7:FuncId:=16
abbrev o_o:FuncId:=17
abbrev h_w:FuncId:=18
abbrev m_p:FuncId:=19
abbrev i_r:FuncId:=20
abbrev i_q:FuncId:=21
abbrev j_k:FuncId:=22
abbrev g_b:FuncId:=23
abbrev l_i:FuncId:=24
abbrev j_n:FuncId:=25
abbrev l_g:FuncId:=26
abbrev j_f:FuncId:=27
abbrev j_q:FuncId:=28
abbrev n_b:FuncId:=29
abbrev m_1:FuncId:=30
abbrev o_2:FuncId:=31
abbrev o_r:FuncId:=32
abbrev j_y:FuncId:=33
abbrev g_t:FuncId:=34
abbrev p_l:FuncId:=35
abbrev o_y:FuncId:=36
abbrev b_x:FuncId:=37
abbrev o_i:FuncId:=38
abbrev p_n:FuncId:=39
abbrev k_0:FuncId:=40
abbrev m_h:FuncId:=41
abbrev j_p:FuncId:=42
abbrev d_8:FuncId:=43
abbrev a_s:FuncId:=44
abbrev d_9:FuncId:=45
abbrev d_4:FuncId:=46
abbrev e_i:FuncId:=47
abbrev e_j:FuncId:=48
abbrev f_1:FuncId:=50
abbrev g_q:FuncId:=51
abbrev e_2:FuncId:=52
abbrev p_k:FuncId:=53
abbrev f_9:FuncId:=54
abbrev d_w:FuncId:=55
abbrev l_v:FuncId:=56
abbrev d_q:FuncId:=57
abbrev g_x:FuncId:=58
abbrev m_o:FuncId:=59
abbrev f_f:FuncId:=60
abbrev e_l:FuncId:=61
abbrev m_c:FuncId:=62
abbrev f_n:FuncId:=63
abbrev h_1:FuncId:=64
abbrev p_v:FuncId:=65
abbrev b_k:FuncId:=66
abbrev p_u:FuncId:=67
abbrev c_g:FuncId:=68
abbrev b_y:FuncId:=69
abbrev g_y:FuncId:=70
abbrev h_6:FuncId:=71
abbrev f_4:FuncId:=72
abbrev l_f:FuncId:=73
abbrev d_a:FuncId:=74
abbrev f_u:FuncId:=75
abbrev e_b:FuncId:=76
abbrev f_h:FuncId:=77
abbrev d_h:FuncId:=78
abbrev w_q:FuncId:=79
abbrev h_a:FuncId:=80
abbrev g_4:FuncId:=81
abbrev g_7:FuncId:=82
abbrev g_2:FuncId:=83
abbrev q_v:FuncId:=84
abbrev g_5:FuncId:=85
abbrev e_x:FuncId:=86
abbrev d_v:FuncId:=87
abbrev h_4:FuncId:=88
abbrev d_m:FuncId:=89
abbrev j_t:FuncId:=90
abbrev m_g:FuncId:=91
abbrev h_8:FuncId:=92
abbrev p_m:FuncId:=93
abbrev f_k:FuncId:=94
abbrev d_x:FuncId:=95
abbrev d_p:FuncId:=96
abbrev g_p:FuncId:=97
abbrev e_a:FuncId:=98
abbrev c_m:FuncId:=99
abbrev i_c:FuncId:=100
abbrev j_0:FuncId:=101
abbrev h_s:FuncId:=103
abbrev j_4:FuncId:=104
abbrev e_3:FuncId:=105
abbrev o_f:FuncId:=106
abbrev i_m:FuncId:=107
abbrev h_9:FuncId:=108
abbrev s_k:FuncId:=109
abbrev c_b:FuncId:=110
abbrev b_a:FuncId:=111
abbrev c_d:FuncId:=112
abbrev b_1:FuncId:=113
abbrev b_h:FuncId:=114
abbrev l_3:FuncId:=115
abbrev h_v:FuncId:=116
abbrev i_t:FuncId:=117
abbrev f_z:FuncId:=118
abbrev c_h:FuncId:=119
abbrev d_5:FuncId:=120
abbrev c_a:FuncId:=121
abbrev d_d:FuncId:=122
abbrev d_f:FuncId:=123
abbrev b_c:FuncId:=124
abbrev d_g:FuncId:=125
abbrev o_6:FuncId:=126
abbrev g_c:FuncId:=127
abbrev f_d:FuncId:=128
abbrev h_2:FuncId:=129
abbrev c_4:FuncId:=130
abbrev g_j:FuncId:=131
abbrev i_2:FuncId:=132
abbrev o_j:FuncId:=133
abbrev c_r:FuncId:=134
abbrev j_r:FuncId:=135
abbrev l_x:FuncId:=136
abbrev j_d:FuncId:=137
abbrev g_z:FuncId:=138
abbrev f_e:FuncId:=139
abbrev e_4:FuncId:=140
abbrev e_p:FuncId:=141
abbrev e_y:FuncId:=142
abbrev h_r:FuncId:=143
abbrev e_h:FuncId:=144
abbrev g_k:FuncId:=145
abbrev h_c:FuncId:=146
abbrev b_3:FuncId:=147
abbrev h_q:FuncId:=148
abbrev h_b:FuncId:=149
abbrev d_r:FuncId:=150
abbrev i_9:FuncId:=151
abbrev f_p:FuncId:=152
abbrev b_2:FuncId:=153
abbrev i_p:FuncId:=154
abbrev g_d:FuncId:=155
abbrev h_l:FuncId:=156
abbrev c_1:FuncId:=157
abbrev g_6:FuncId:=158
abbrev g_h:FuncId:=159
abbrev l_y:FuncId:=160
abbrev i_s:FuncId:=161
abbrev e_m:FuncId:=162
abbrev e_z:FuncId:=165
abbrev g_l:FuncId:=166
abbrev f_5:FuncId:=167
abbrev c_y:FuncId:=168
abbrev e_f:FuncId:=169
abbrev o_e:FuncId:=170
abbrev c_o:FuncId:=171
abbrev g_a:FuncId:=172
abbrev f_i:FuncId:=184
abbrev y_h:FuncId:=185
abbrev e_o:FuncId:=186
abbrev t_x1:TypeId:=1
abbrev a_i:TypeId:=3
abbrev t_bool:TypeId:=4
abbrev f_0:TypeId:=5
abbrev n_z:TypeId:=25
abbrev t_Config:TypeId:=30
abbrev t_sl_law22_Step:TypeId:=31
abbrev o_w:TypeId:=36
abbrev o_z:TypeId:=47
abbrev i_i:TypeId:=56
abbrev j_7:TypeId:=58
abbrev e_6:TypeId:=60
abbrev d_0:TypeId:=62
abbrev m_f:TypeId:=66
abbrev a_q:TypeId:=69
abbrev c_q:TypeId:=97
abbrev d_l:TypeId:=99
abbrev m_6:TypeId:=102
abbrev a_4:TypeId:=114
abbrev b_d:TypeId:=120
abbrev d_k:TypeId:=130
abbrev j_9:TypeId:=133
abbrev a_a6:TypeId:=138
abbrev a_n:TypeId:=147
abbrev h_h:TypeId:=166
abbrev e_k:TypeId:=188
abbrev e_c:TypeId:=193
abbrev u_0:TypeId:=196
abbrev b_9:TypeId:=217
abbrev c_i:TypeId:=231
theorem c_int:prog.cellsOf a_i=1:=by kernel_rfl
theorem c_uint8:prog.cellsOf f_0=1:=by kernel_rfl
theorem r_u:prog.cellsOf n_z=1:=by kernel_rfl
theorem a_e6:prog.cellsOf o_w=1:=by kernel_rfl
theorem a_ni:prog.cellsOf o_z=12:=by kernel_rfl
theorem b_n:prog.cellsOf i_i=3:=by kernel_rfl
theorem s_6:prog.cellsOf j_7=4:=by kernel_rfl
theorem f_l:prog.cellsOf e_6=2:=by kernel_rfl
theorem g_f:prog.cellsOf d_0=3:=by kernel_rfl
theorem c_p:prog.cellsOf m_f=6:=by kernel_rfl
theorem a_e0:prog.cellsOf a_q=3:=by kernel_rfl
theorem a_x:prog.cellsOf c_q=4:=by kernel_rfl
theorem b_8:prog.cellsOf d_l=8:=by kernel_rfl
theorem m_m:prog.cellsOf a_4=2:=by kernel_rfl
theorem c_l:prog.cellsOf b_d=2:=by kernel_rfl
theorem j_c:prog.cellsOf h_h=3:=by kernel_rfl
theorem v_t:prog.cellsOf e_k=3:=by kernel_rfl
theorem a_h1:prog.cellsOf e_c=3:=by kernel_rfl
theorem a_n4:prog.cellsOf b_9=2:=by kernel_rfl
theorem l_a:prog.cellsOf c_i=3:=by kernel_rfl
end
end Go.Proofs.YtdmfnhbmhkgemaaGreat
section
set_option maxRecDepth 100000
namespace Go.Proofs.YtdmfnhbmhkgemaaGreat
open Go.Fw Go.Proofs
open Go.Proofs.Tryz (prog)
def u_f:Ann:= { cbs:= [2],loops:= [(7,{ mods:= [(5,SlotSh.bx [Sh.any,Sh.any,Sh.any,Sh.any,Sh.any,Sh.any,Sh.bool]),(19,s6)],keep:= [2,17,18] })] }
def x_d (c0 c1 c2 c3 c4:D)(c5 c6 c7 c8:Int)(script:D)(σ:Store)(Qp:RV→Store→Prop) :Prop:=
 DCalls prog m_j [] σ (fun r Z=>∃b:Bool,(r=(.a (bA b) :RV))∧a_b (!b) (Qp (.a (bA false)) Z) (DCalls prog i_y [.agg [c0,c1,c2,c3,c4,iD c5,iD c6,iD c7,iD c8]] Z (fun r1 Z1=>∃n:Int,(r1=(.a (iA n) :RV))∧a_b (n != 0) (Qp (.a (bA true)) Z1) (DCalls prog h_i [.agg [c0,c1,c2,c3,c4,iD c5,iD c6,iD c7,iD c8],iA 0] Z1 (fun r2 Z2=>∃d d1 d2 d3 d4 d5:D,∃b1:Bool,(r2=(.a (.agg [d,d1,d2,d3,d4,d5, .bool b1]) :RV))∧∃len:Nat,(Len script len)∧∃I:D→D→D→D→D→D→Bool→Int→Store→Prop,∃μ:D→D→D→D→D→D→Bool→Int→Store→Nat,(I d d1 d2 d3 d4 d5 b1 0 Z2)∧∀d6 d7 d8 d9 d10 d11:D,∀b2:Bool,∀n1:Int,∀Z3,(I d6 d7 d8 d9 d10 d11 b2 n1 Z3)→a_b (decide (n1 < (len:Int))) (∃len1:Nat,(Idx prog Z3 script 12 len1)∧((0:Int)≤n1)∧(n1 < (len1:Int))∧∃row:List D,(Row Z3 script (Int.toNat n1) row)∧∃n2 n3 n4 n5 n6 n7 n8:Int,∃d12 d13 d14 d15:D,∃b3:Bool,((List.take 12 row) =([iD n2,iD n3,iD n4,iD n5,iD n6,iD n7,iD n8,d12,d13,d14,d15, .bool b3]:List D))∧DCalls prog w_s [.agg [c0,c1,c2,c3,c4,iD c5,iD c6,iD c7,iD c8], .agg [d6,d7,d8,d9,d10,d11, .bool b2], .agg [iD n2,iD n3,iD n4,iD n5,iD n6,iD n7,iD n8,d12,d13,d14,d15, .bool b3]] Z3 (fun r3 Z4=>∃d16 d17 d18 d19 d20 d21:D,∃b4 b5:Bool,(r3=(.tup [.agg [d16,d17,d18,d19,d20,d21, .bool b4],bA b5]:RV))∧a_b (!b5) (Qp (.a (bA false)) Z4) (DCalls prog n_a [.agg [c0,c1,c2,c3,c4,iD c5,iD c6,iD c7,iD c8], .agg [d16,d17,d18,d19,d20,d21, .bool b4]] Z4 (fun r4 Z5=>∃d22:D,(r4=(.a (.one d22) :RV))∧∃len2:Nat,(Len d22 len2)∧a_b ((len2:Int) != 0) (Qp (.a (bA false)) Z5) (DCalls prog f_b [.agg [c0,c1,c2,c3,c4,iD c5,iD c6,iD c7,iD c8], .agg [d16,d17,d18,d19,d20,d21, .bool b4]] Z5 (fun r5 Z6=>∃d23:D,(r5=(.a (.one d23) :RV))∧∃len3:Nat,(Len d23 len3)∧a_b ((len3:Int) != 0) (Qp (.a (bA false)) Z6) ((I d16 d17 d18 d19 d20 d21 b4 (w64 (n1+1)) Z6)∧((μ d16 d17 d18 d19 d20 d21 b4 (w64 (n1+1)) Z6) < (μ d6 d7 d8 d9 d10 d11 b2 n1 Z3))))))))) (Qp (.a (bA true)) Z3))))))
theorem w_h (c0 c1 c2 c3 c4:D)(c5 c6 c7 c8:Int)(script:D)(σ:Store)(Qp:RV→Store→Prop)(h:x_d c0 c1 c2 c3 c4 c5 c6 c7 c8 script σ Qp) :DCalls prog l_b [.agg [c0,c1,c2,c3,c4,iD c5,iD c6,iD c7,iD c8], .one script] σ Qp:=
 a_a mixed (by kernel_rfl) Tryz.func3 u_f (Eq.mp (by kernel_rfl) h)
def a_li:Ann:= { cbs:= [2],draws:= [(1,{ ord:= [1,2,3,5,6,7,10,11,12,15,0,4,8,9,13,14,16],nb:= [2,6,11],sp:= [4] })] }
def a_p6 (c0 c1 c2 c3 c4:D)(c5 c6 c7 c8 now:Int)(σ:Store)(Qp:RV→Store→Prop) :Prop:=
 ∃pre:List A→Store→Prop,∃post:List A→Store→RV→Store→Prop,(h_k prog g_b pre post)∧∃len:Nat,(Len c0 len)∧∃len1:Nat,(Len c4 len1)∧∃len2:Nat,(Len c0 len2)∧Fw.newObj σ (.live a_i [[iD (-1)]]) (fun id Z=>(pre [.one (.osl id 0 1),iA (len:Int)] Z)∧∀r:RV,∀s:Store,(post [.one (.osl id 0 1),iA (len:Int)] Z r s)→∃d:D,(r=(.a (.one d) :RV))∧((0:Int)≤(len1:Int))∧((len1:Int)≤(len1:Int))∧(((32:Int) * (len1:Int))≤(2 ^ 48))∧Fw.newObj s (.live c_q (List.replicate (Int.toNat (len1:Int)) [iD 0,iD 0,iD 0,iD 0])) (fun id1 Z1=>((0:Int)≤4)∧((4:Int)≤4)∧(((64:Int) * 4)≤(2 ^ 48))∧Fw.newObj Z1 (.live d_l [[iD 0,iD 0,iD 0,iD 0,iD 0,iD 0,iD 0,iD 0],[iD 0,iD 0,iD 0,iD 0,iD 0,iD 0,iD 0,iD 0],[iD 0,iD 0,iD 0,iD 0,iD 0,iD 0,iD 0,iD 0],[iD 0,iD 0,iD 0,iD 0,iD 0,iD 0,iD 0,iD 0]]) (fun id2 Z2=>((0:Int)≤(len2:Int))∧((len2:Int)≤(len2:Int))∧(((8:Int) * (len2:Int))≤(2 ^ 48))∧Fw.newObj Z2 (.live a_i (List.replicate (Int.toNat (len2:Int)) [iD 0])) (fun id3 Z3=>DCalls prog l_i [.agg [c0,c1,c2,c3,c4,iD c5,iD c6,iD c7,iD c8],iA now] Z3 (fun r1 Z4=>∃d1 d2:D,(r1=(.tup [.one d1, .one d2]:RV))∧Qp (.a (.agg [d, .osl id1 0 (Int.toNat (len1:Int)),d1,d2, .osl id2 0 4, .osl id3 0 (Int.toNat (len2:Int)), .bool true])) Z4)))))
theorem a_pd (c0 c1 c2 c3 c4:D)(c5 c6 c7 c8 now:Int)(σ:Store)(Qp:RV→Store→Prop)(h:a_p6 c0 c1 c2 c3 c4 c5 c6 c7 c8 now σ Qp) :DCalls prog h_i [.agg [c0,c1,c2,c3,c4,iD c5,iD c6,iD c7,iD c8],iA now] σ Qp:=
 a_a mixed (by kernel_rfl) Tryz.func7 a_li (Eq.mp (by kernel_rfl) h)
def a_bc:Ann:= { cbs:= [1],loops:= [(2,{ mods:= [(11,s6)],keep:= [1,9,10] })] }
def a_df (c0 c1 c2 c3 c4:D)(c5 c6 c7 c8:Int)(σ:Store)(Qp:RV→Store→Prop) :Prop:=
 ∃len:Nat,(Len c2 len)∧∃I:Int→Store→Prop,∃μ:Int→Store→Nat,(I 0 σ)∧∀n:Int,∀Z,(I n Z)→a_b (decide (n < (len:Int))) (∃len1:Nat,(Idx prog Z c2 2 len1)∧((0:Int)≤n)∧(n < (len1:Int))∧∃row:List D,(Row Z c2 (Int.toNat n) row)∧∃n1 n2:Int,((List.take 2 row) =([iD n1,iD n2]:List D))∧DCalls prog e_2 [.one c1,iA n1,iA n2] Z (fun r Z1=>∃n3 n4:Int,∃b:Bool,(r=(.tup [iA n3,iA n4,bA b]:RV))∧a_b (!b) (Qp (.a (bA false)) Z1) (DCalls prog p_k [.agg [c0,c1,c2,c3,c4,iD c5,iD c6,iD c7,iD c8],iA n1,iA n2,iA n] Z1 (fun r1 Z2=>∃b1:Bool,(r1=(.a (bA b1) :RV))∧a_b b1 (Qp (.a (bA false)) Z2) ((I (w64 (n+1)) Z2)∧((μ (w64 (n+1)) Z2) < (μ n Z))))))) (∃len1:Nat,(Len c2 len1)∧Qp (.a (.one (.bool (decide ((len1:Int)≤12))))) Z)
theorem a_cq (c0 c1 c2 c3 c4:D)(c5 c6 c7 c8:Int)(σ:Store)(Qp:RV→Store→Prop)(h:a_df c0 c1 c2 c3 c4 c5 c6 c7 c8 σ Qp) :DCalls prog j_o [.agg [c0,c1,c2,c3,c4,iD c5,iD c6,iD c7,iD c8]] σ Qp:=
 a_a mixed (by kernel_rfl) Tryz.func15 a_bc (Eq.mp (by kernel_rfl) h)
def a_fd:Ann:= { cbs:= [3],loops:= [(4,{ mods:= [(7,SlotSh.one (Sh.any)),(8,SlotSh.one (Sh.any)),(18,s6)],keep:= [1,2,3,16,17] }),(8,{ mods:= [(7,SlotSh.one (Sh.any)),(8,SlotSh.one (Sh.any)),(12,s6)],keep:= [1,2,3,10,11,16,17,18] })],joins:= [(9,{ mods:= [(7,SlotSh.one (Sh.any)),(8,SlotSh.one (Sh.any))],keep:= [1,2,3,10,11,12,16,17,18] }),(11,{ keep:= [1,2,3,7,8,10,11,12,16,17,18] }),(13,{ keep:= [1,2,3,7,8,10,11,12,13,14,16,17,18] })] }
def a_je (c0 c1 c2 c3 c4:D)(c5 c6 c7 c8 approach:Int)(path:D)(σ:Store)(Qp:RV→Store→Prop) :Prop:=
 ∃len:Nat,(Len path len)∧∃I:D→D→Int→Store→Prop,∃μ:D→D→Int→Store→Nat,(I .nils .nils 0 σ)∧∀d d1:D,∀n:Int,∀Z,(I d d1 n Z)→a_b (decide (n < (len:Int))) (∃len1:Nat,(Idx prog Z path 3 len1)∧((0:Int)≤n)∧(n < (len1:Int))∧∃row:List D,(Row Z path (Int.toNat n) row)∧∃n1 n2 n3:Int,((List.take 3 row) =([iD n1,iD n2,iD n3]:List D))∧DCalls prog f_9 [.agg [c0,c1,c2,c3,c4,iD c5,iD c6,iD c7,iD c8],iA n1] Z (fun r Z1=>∃n4:Int,(r=(.a (iA n4) :RV))∧∃I1:D→D→Int→Store→Prop,∃μ1:D→D→Int→Store→Nat,(I1 d d1 0 Z1)∧∀d2 d3:D,∀n5:Int,∀Z2,(I1 d2 d3 n5 Z2)→DCalls prog f_1 [iA n4] Z2 (fun r1 Z3=>∃n6:Int,(r1=(.a (iA n6) :RV))∧a_b (decide (n5 < n6)) (∀R:D→D→Store→Prop,(∀d4 d5:D,∀Z4,((([[iD n1,iD n2,iD n3]]:List (List D)) =([[iD n1,iD n2,iD n3]]:List (List D)))∧(I1 d4 d5 (w64 (n5+1)) Z4)∧((μ1 d4 d5 (w64 (n5+1)) Z4) < (μ1 d2 d3 n5 Z2)))→R d4 d5 Z4)→∀R1:Store→Prop,(∀Z4,(DCalls prog e_2 [.one c1,iA n1,iA n5] Z4 (fun r2 Z5=>∃n7 n8:Int,∃b:Bool,(r2=(.tup [iA n7,iA n8,bA b]:RV))∧∀R2:Store→Prop,(∀Z6,(Fw.newObj Z6 (.live a_i [[iD n7]]) (fun id Z7=>a_v prog Z7 a_i 8 d3 (.osl id 0 1) (fun d4 Z8=>Fw.newObj Z8 (.live a_4 [[iD n7,iD (w64 (3 - n8))]]) (fun id1 Z9=>a_v prog Z9 a_4 16 d2 (.osl id1 0 1) (fun d5 Z10=>(([[iD n1,iD n2,iD n3]]:List (List D)) =([[iD n1,iD n2,iD n3]]:List (List D)))∧R d5 d4 Z10)))))→R2 Z6)→a_b (!b) ((([[iD n1,iD n2,iD n3]]:List (List D)) =([[iD n1,iD n2,iD n3]]:List (List D)))∧R d2 d3 Z5) (DCalls prog f_9 [.agg [c0,c1,c2,c3,c4,iD c5,iD c6,iD c7,iD c8],iA n7] Z5 (fun r3 Z6=>∃n9:Int,(r3=(.a (iA n9) :RV))∧a_b (n9 != 1) ((([[iD n1,iD n2,iD n3]]:List (List D)) =([[iD n1,iD n2,iD n3]]:List (List D)))∧R d2 d3 Z6) (a_b (n8 != 1) (a_b (n8 != 2) ((([[iD n1,iD n2,iD n3]]:List (List D)) =([[iD n1,iD n2,iD n3]]:List (List D)))∧R d2 d3 Z6) (DCalls prog d_q [.one path] Z6 (fun r4 Z7=>∃d4:D,(r4=(.a (.one d4) :RV))∧DCalls prog d_w [.one d4,iA n7] Z7 (fun r5 Z8=>∃b1:Bool,(r5=(.a (bA b1) :RV))∧a_b b1 ((([[iD n1,iD n2,iD n3]]:List (List D)) =([[iD n1,iD n2,iD n3]]:List (List D)))∧R d2 d3 Z8) (a_b (n7 == approach) ((([[iD n1,iD n2,iD n3]]:List (List D)) =([[iD n1,iD n2,iD n3]]:List (List D)))∧R d2 d3 Z8) (DCalls prog d_w [.one d3,iA n7] Z8 (fun r6 Z9=>∃b2:Bool,(r6=(.a (bA b2) :RV))∧a_b b2 ((([[iD n1,iD n2,iD n3]]:List (List D)) =([[iD n1,iD n2,iD n3]]:List (List D)))∧R d2 d3 Z9) ((([[iD n1,iD n2,iD n3]]:List (List D)) =([[iD n1,iD n2,iD n3]]:List (List D)))∧R2 Z9)))))))) (DCalls prog d_q [.one path] Z6 (fun r4 Z7=>∃d4:D,(r4=(.a (.one d4) :RV))∧DCalls prog d_w [.one d4,iA n7] Z7 (fun r5 Z8=>∃b1:Bool,(r5=(.a (bA b1) :RV))∧a_b b1 ((([[iD n1,iD n2,iD n3]]:List (List D)) =([[iD n1,iD n2,iD n3]]:List (List D)))∧R d2 d3 Z8) (a_b (n7 == approach) ((([[iD n1,iD n2,iD n3]]:List (List D)) =([[iD n1,iD n2,iD n3]]:List (List D)))∧R d2 d3 Z8) (DCalls prog d_w [.one d3,iA n7] Z8 (fun r6 Z9=>∃b2:Bool,(r6=(.a (bA b2) :RV))∧a_b b2 ((([[iD n1,iD n2,iD n3]]:List (List D)) =([[iD n1,iD n2,iD n3]]:List (List D)))∧R d2 d3 Z9) ((([[iD n1,iD n2,iD n3]]:List (List D)) =([[iD n1,iD n2,iD n3]]:List (List D)))∧R2 Z9))))))))))))→R1 Z4)→a_b (n5 == n2) ((([[iD n1,iD n2,iD n3]]:List (List D)) =([[iD n1,iD n2,iD n3]]:List (List D)))∧R d2 d3 Z3) (a_b (n5 == n3) ((([[iD n1,iD n2,iD n3]]:List (List D)) =([[iD n1,iD n2,iD n3]]:List (List D)))∧R d2 d3 Z3) ((([[iD n1,iD n2,iD n3]]:List (List D)) =([[iD n1,iD n2,iD n3]]:List (List D)))∧R1 Z3))) ((I d2 d3 (w64 (n+1)) Z3)∧((μ d2 d3 (w64 (n+1)) Z3) < (μ d d1 n Z)))))) (Qp (.a (.one d)) Z)
theorem a_h6 (c0 c1 c2 c3 c4:D)(c5 c6 c7 c8 approach:Int)(path:D)(σ:Store)(Qp:RV→Store→Prop)(h:a_je c0 c1 c2 c3 c4 c5 c6 c7 c8 approach path σ Qp) :DCalls prog m_p [.agg [c0,c1,c2,c3,c4,iD c5,iD c6,iD c7,iD c8],iA approach, .one path] σ Qp:=
 a_a mixed (by kernel_rfl) Tryz.func19 a_fd (Eq.mp (by kernel_rfl) h)
def r_t:Ann:= { draws:= [(9,{ ord:= [0,1,2,3,4,5,6,7,8,9] })],loops:= [(8,{ mods:= [(8,s6)],keep:= [7] })],joins:= [(3,{ keep:= [0,1] }),(6,{ keep:= [0,6] })] }
def t_c (x:D)(count:Int)(σ:Store)(Qp:RV→Store→Prop) :Prop:=
 ∀R:Store→Prop,(∀Z,(∃len:Nat,(Len x len)∧DCalls prog g_x [.one (.int .u64 (IntKind.wrap .u64 (len:Int))), .one (.int .u64 (IntKind.wrap .u64 count))] Z (fun r Z1=>∃n n1:Int,(r=(.tup [.one (.int .u64 n), .one (.int .u64 n1)]:RV))∧∀R1:Store→Prop,(∀Z2,(((0:Int)≤(w64 n1))∧((w64 n1)≤(w64 n1))∧(((8:Int) * (w64 n1))≤(2 ^ 48))∧Fw.newObj Z2 (.live a_i (List.replicate (Int.toNat (w64 n1)) [iD 0])) (fun id Z3=>r_d prog Z3 a_i (.osl id 0 (Int.toNat (w64 n1))) x (fun n2 Z4=>∃I:Int→Store→Prop,∃μ:Int→Store→Nat,(I n2 Z4)∧∀n3:Int,∀Z5,(I n3 Z5)→∃len1:Nat,(Len (.osl id 0 (Int.toNat (w64 n1))) len1)∧a_b (decide (n3 < (len1:Int))) (∃len2:Nat,(IdxN prog Z5 (.osl id 0 (Int.toNat (w64 n1))) 1 len2)∧((0:Int)≤n3)∧(n3≤(len2:Int))∧∃len3:Nat,(IdxN prog Z5 (.osl id 0 (Int.toNat (w64 n1))) 1 len3)∧((0:Int)≤0)∧((0:Int)≤n3)∧(n3≤(len3:Int))∧r_d prog Z5 a_i (.osl id (0+ (Int.toNat n3)) (len2 - (Int.toNat n3))) (.osl id 0 ((Int.toNat n3) - 0)) (fun n4 Z6=>(I (w64 (n3+n4)) Z6)∧((μ (w64 (n3+n4)) Z6) < (μ n3 Z5)))) (Qp (.a (.one (.osl id 0 (Int.toNat (w64 n1))))) Z5))))→R1 Z2)→a_b (decide (n > 0)) False (a_b (decide (n1 > 9223372036854775807)) False (R1 Z1))))→R Z)→a_b (decide (count < 0)) False (R σ)
theorem t_j (x:D)(count:Int)(σ:Store)(Qp:RV→Store→Prop)(h:t_c x count σ Qp) :DCalls prog g_b [.one x,iA count] σ Qp:=
 a_a mixed (by kernel_rfl) Tryz.func23 r_t (Eq.mp (by kernel_rfl) h)
def a_a0:Ann:= { cbs:= [3,4] }
def a_cv (c0 c1 c2 c3 c4:D)(c5 c6 c7 c8:Int)(k0 k1 k2 k3 k4 k5:D)(k6:Bool)(r:Int)(σ:Store)(Qp:RV→Store→Prop) :Prop:=
 Fw.newObj σ (.live a_i [[iD 3]]) (fun id Z=>DCalls prog h_1 [.agg [c0,c1,c2,c3,c4,iD c5,iD c6,iD c7,iD c8], .agg [k0,k1,k2,k3,k4,k5, .bool k6],iA r,iA 1,iA 0, .one (.osl id 0 1)] Z (fun r1 Z1=>∃d d1 d2 d3 d4 d5:D,∃b:Bool,∃n:Int,(r1=(.tup [.agg [d,d1,d2,d3,d4,d5, .bool b],iA n]:RV))∧Qp (.tup [.agg [d,d1,d2,d3,d4,d5, .bool b],iA n]) Z1))
theorem a_d2 (c0 c1 c2 c3 c4:D)(c5 c6 c7 c8:Int)(k0 k1 k2 k3 k4 k5:D)(k6:Bool)(r:Int)(σ:Store)(Qp:RV→Store→Prop)(h:a_cv c0 c1 c2 c3 c4 c5 c6 c7 c8 k0 k1 k2 k3 k4 k5 k6 r σ Qp) :DCalls prog j_f [.agg [c0,c1,c2,c3,c4,iD c5,iD c6,iD c7,iD c8], .agg [k0,k1,k2,k3,k4,k5, .bool k6],iA r] σ Qp:=
 a_a mixed (by kernel_rfl) Tryz.func27 a_a0 (Eq.mp (by kernel_rfl) h)
def a_jf:Ann:= { cbs:= [4,5,7],draws:= [(8,{ ord:= [0,1,2,3,4,5,6,7,8,9] })] }
def a_m2 (c0 c1 c2 c3 c4:D)(c5 c6 c7 c8:Int)(k0 k1 k2 k3 k4 k5:D)(k6:Bool)(line b0 b1 b2:Int)(σ:Store)(Qp:RV→Store→Prop) :Prop:=
 DCalls prog d_8 [.agg [c0,c1,c2,c3,c4,iD c5,iD c6,iD c7,iD c8], .agg [k0,k1,k2,k3,k4,k5, .bool k6]] σ (fun r Z=>∃b:Bool,(r=(.a (bA b) :RV))∧a_b (!b) (DCalls prog b_y [.agg [c0,c1,c2,c3,c4,iD c5,iD c6,iD c7,iD c8], .agg [k0,k1,k2,k3,k4,k5, .bool k6], .agg [.nils, .nils, .nils, .nils],iA 0] Z (fun r1 Z1=>∃d:D,(r1=(.a (.one d) :RV))∧(a_f d)∧∃s:D,∃i off:Nat,(d=(.el s i off:D))∧∃row:List D,(Row Z1 s i row)∧∃d1 d2 d3 d4 d5 d6:D,∃b3:Bool,((List.take 7 (List.drop (off+0) row)) =([d1,d2,d3,d4,d5,d6, .bool b3]:List D))∧Qp (.tup [.agg [d1,d2,d3,d4,d5,d6, .bool b3],iA 21]) Z1)) (DCalls prog g_y [.agg [c0,c1,c2,c3,c4,iD c5,iD c6,iD c7,iD c8],iA line] Z (fun r1 Z1=>∃n:Int,(r1=(.a (iA n) :RV))∧a_b (decide (n < 0)) (DCalls prog b_y [.agg [c0,c1,c2,c3,c4,iD c5,iD c6,iD c7,iD c8], .agg [k0,k1,k2,k3,k4,k5, .bool k6], .agg [.nils, .nils, .nils, .nils],iA 0] Z1 (fun r2 Z2=>∃d:D,(r2=(.a (.one d) :RV))∧(a_f d)∧∃s:D,∃i off:Nat,(d=(.el s i off:D))∧∃row:List D,(Row Z2 s i row)∧∃d1 d2 d3 d4 d5 d6:D,∃b3:Bool,((List.take 7 (List.drop (off+0) row)) =([d1,d2,d3,d4,d5,d6, .bool b3]:List D))∧Qp (.tup [.agg [d1,d2,d3,d4,d5,d6, .bool b3],iA 20]) Z2)) (a_b (decide ((ite (b2 < (ite (b1 < b0) b1 b0)) b2 (ite (b1 < b0) b1 b0)) < 0)) (DCalls prog b_y [.agg [c0,c1,c2,c3,c4,iD c5,iD c6,iD c7,iD c8], .agg [k0,k1,k2,k3,k4,k5, .bool k6], .agg [.nils, .nils, .nils, .nils],iA 0] Z1 (fun r2 Z2=>∃d:D,(r2=(.a (.one d) :RV))∧(a_f d)∧∃s:D,∃i off:Nat,(d=(.el s i off:D))∧∃row:List D,(Row Z2 s i row)∧∃d1 d2 d3 d4 d5 d6:D,∃b3:Bool,((List.take 7 (List.drop (off+0) row)) =([d1,d2,d3,d4,d5,d6, .bool b3]:List D))∧Qp (.tup [.agg [d1,d2,d3,d4,d5,d6, .bool b3],iA 32]) Z2)) (a_b (decide ((ite (b2 > (ite (b1 > b0) b1 b0)) b2 (ite (b1 > b0) b1 b0)) > 4294967295)) (DCalls prog b_y [.agg [c0,c1,c2,c3,c4,iD c5,iD c6,iD c7,iD c8], .agg [k0,k1,k2,k3,k4,k5, .bool k6], .agg [.nils, .nils, .nils, .nils],iA 0] Z1 (fun r2 Z2=>∃d:D,(r2=(.a (.one d) :RV))∧(a_f d)∧∃s:D,∃i off:Nat,(d=(.el s i off:D))∧∃row:List D,(Row Z2 s i row)∧∃d1 d2 d3 d4 d5 d6:D,∃b3:Bool,((List.take 7 (List.drop (off+0) row)) =([d1,d2,d3,d4,d5,d6, .bool b3]:List D))∧Qp (.tup [.agg [d1,d2,d3,d4,d5,d6, .bool b3],iA 32]) Z2)) (DCalls prog b_y [.agg [c0,c1,c2,c3,c4,iD c5,iD c6,iD c7,iD c8], .agg [k0,k1,k2,k3,k4,k5, .bool k6], .agg [.nils, .nils, .nils, .nils],iA 0] Z1 (fun r2 Z2=>∃d:D,(r2=(.a (.one d) :RV))∧(a_f d)∧∃s:D,∃i off:Nat,(d=(.el s i off:D))∧∃row:List D,(Row Z2 s i row)∧∃d1:D,((List.take 1 (List.drop ((off+0) +4) row)) =([d1]:List D))∧∃len:Nat,(Idx prog Z2 d1 8 len)∧((0:Int)≤line)∧(line < (len:Int))∧a_j [iD b0,iD b1,iD b2] Z2 d1 (Int.toNat line) 4 (fun Z3=>(a_f d)∧∃s1:D,∃i1 off1:Nat,(d=(.el s1 i1 off1:D))∧∃row1:List D,(Row Z3 s1 i1 row1)∧∃d2 d3 d4 d5 d6 d7:D,∃b3:Bool,((List.take 7 (List.drop (off1+0) row1)) =([d2,d3,d4,d5,d6,d7, .bool b3]:List D))∧Qp (.tup [.agg [d2,d3,d4,d5,d6,d7, .bool b3],iA 0]) Z3))))))))
theorem a_ml (c0 c1 c2 c3 c4:D)(c5 c6 c7 c8:Int)(k0 k1 k2 k3 k4 k5:D)(k6:Bool)(line b0 b1 b2:Int)(σ:Store)(Qp:RV→Store→Prop)(h:a_m2 c0 c1 c2 c3 c4 c5 c6 c7 c8 k0 k1 k2 k3 k4 k5 k6 line b0 b1 b2 σ Qp) :DCalls prog o_2 [.agg [c0,c1,c2,c3,c4,iD c5,iD c6,iD c7,iD c8], .agg [k0,k1,k2,k3,k4,k5, .bool k6],iA line, .agg [iD b0,iD b1,iD b2]] σ Qp:=
 a_a mixed (by kernel_rfl) Tryz.func31 a_jf (Eq.mp (by kernel_rfl) h)
def a_h0:Ann:= { cbs:= [1],loops:= [(5,{ mods:= [(29,s6)],keep:= [1,4,27,28] }),(10,{ mods:= [(43,s6)],keep:= [1,4,41,42] }),(15,{ mods:= [(59,s6)],keep:= [4,57,58] })] }
def a_mx (k0 k1 k2 k3 k4 k5:D)(k6:Bool)(σ:Store)(Qp:RV→Store→Prop) :Prop:=
 ∃len:Nat,(Len k4 len)∧a_b (decide ((len:Int) < 4)) (Qp (.tup [.one (.str (ByteArray.mk (List.toArray []))),iA 32]) σ) (∃len1:Nat,(Len k0 len1)∧∃len2:Nat,(Len k1 len2)∧DCalls prog w_q [.one (iD (w64 ((w64 ((w64 (2 * (len1:Int))) + (w64 (2 * (len2:Int))))) +36)))] σ (fun r Z=>∃d:D,(r=(.a (.one d) :RV))∧∃len3:Nat,(Len k0 len3)∧∃I:Int→Store→Prop,∃μ:Int→Store→Nat,(I 0 Z)∧∀n:Int,∀Z1,(I n Z1)→a_b (decide (n < (len3:Int))) (∃len4:Nat,(Idx prog Z1 k0 1 len4)∧((0:Int)≤n)∧(n < (len4:Int))∧∃row:List D,(Row Z1 k0 (Int.toNat n) row)∧∃n1:Int,((List.take 1 row) =([iD n1]:List D))∧Fw.newObj Z1 (.live a_i [[iD (w64 ((ite ((1048576:Int) < n1) 1048576 n1) +2))]]) (fun id Z2=>DCalls prog h_a [.one d, .one (.osl id 0 1)] Z2 (fun r1 Z3=>(r1=(.tup []:RV))∧(I (w64 (n+1)) Z3)∧((μ (w64 (n+1)) Z3) < (μ n Z1))))) (∃len4:Nat,(Len k1 len4)∧∃I1:Int→Store→Prop,∃μ1:Int→Store→Nat,(I1 0 Z1)∧∀n1:Int,∀Z2,(I1 n1 Z2)→a_b (decide (n1 < (len4:Int))) (∃len5:Nat,(Idx prog Z2 k1 4 len5)∧((0:Int)≤n1)∧(n1 < (len5:Int))∧∃row:List D,(Row Z2 k1 (Int.toNat n1) row)∧∃n2 n3 n4 n5:Int,((List.take 4 row) =([iD n2,iD n3,iD n4,iD n5]:List D))∧Fw.newObj Z2 (.live a_i [[iD n2],[iD n4]]) (fun id Z3=>DCalls prog g_4 [.one d, .one (.osl id 0 2)] Z3 (fun r1 Z4=>(r1=(.tup []:RV))∧(I1 (w64 (n1+1)) Z4)∧((μ1 (w64 (n1+1)) Z4) < (μ1 n1 Z2))))) (∃len5:Nat,(IdxN prog Z2 k4 8 len5)∧((0:Int)≤1)∧((1:Int)≤4)∧((4:Int)≤(len5:Int))∧∃len6:Nat,(Len (g_i k4 1 4) len6)∧∃I2:Int→Store→Prop,∃μ2:Int→Store→Nat,(I2 0 Z2)∧∀n2:Int,∀Z3,(I2 n2 Z3)→a_b (decide (n2 < (len6:Int))) (∃len7:Nat,(Idx prog Z3 (g_i k4 1 4) 8 len7)∧((0:Int)≤n2)∧(n2 < (len7:Int))∧∃row:List D,(Row Z3 (g_i k4 1 4) (Int.toNat n2) row)∧∃n3 n4 n5 n6 n7 n8 n9 n10:Int,((List.take 8 row) =([iD n3,iD n4,iD n5,iD n6,iD n7,iD n8,iD n9,iD n10]:List D))∧Fw.newObj Z3 (.live a_i [[iD n3],[iD n4],[iD n5]]) (fun id Z4=>DCalls prog g_7 [.one d, .one (.osl id 0 3)] Z4 (fun r1 Z5=>(r1=(.tup []:RV))∧(I2 (w64 (n2+1)) Z5)∧((μ2 (w64 (n2+1)) Z5) < (μ2 n2 Z3))))) (DCalls prog g_2 [.one d] Z3 (fun r1 Z4=>∃s:ByteArray,∃n3:Int,(r1=(.tup [.one (.str s),iA n3]:RV))∧Qp (.tup [.one (.str s),iA n3]) Z4))))))
theorem a_lh (k0 k1 k2 k3 k4 k5:D)(k6:Bool)(σ:Store)(Qp:RV→Store→Prop)(h:a_mx k0 k1 k2 k3 k4 k5 k6 σ Qp) :DCalls prog p_l [.agg [k0,k1,k2,k3,k4,k5, .bool k6]] σ Qp:=
 a_a mixed (by kernel_rfl) Tryz.func35 a_h0 (Eq.mp (by kernel_rfl) h)
def a_i6:Ann:= { cbs:= [3,4],loops:= [(4,{ mods:= [(7,SlotSh.one (Sh.any)),(24,s6)],keep:= [2,4,8,22,23] })],joins:= [(7,{ mods:= [(11,SlotSh.one (Sh.bool))],keep:= [2,4,7,8,10,22,23,24] })] }
def a_me (c0 c1 c2 c3 c4:D)(c5 c6 c7 c8:Int)(k0 k1 k2 k3 k4 k5:D)(k6:Bool)(r:Int)(σ:Store)(Qp:RV→Store→Prop) :Prop:=
 ∃len:Nat,(Idx prog σ k1 4 len)∧((0:Int)≤r)∧(r < (len:Int))∧∃row:List D,(Row σ k1 (Int.toNat r) row)∧∃n n1 n2 n3:Int,((List.take 4 row) =([iD n,iD n1,iD n2,iD n3]:List D))∧∃len1:Nat,(Idx prog σ c4 6 len1)∧((0:Int)≤r)∧(r < (len1:Int))∧∃row1:List D,(Row σ c4 (Int.toNat r) row1)∧∃d:D,((List.take 1 (List.drop 2 row1)) =([d]:List D))∧∃len2:Nat,(Len d len2)∧∃I:D→Int→Store→Prop,∃μ:D→Int→Store→Nat,(I .nils 0 σ)∧∀d1:D,∀n4:Int,∀Z,(I d1 n4 Z)→a_b (decide (n4 < (len2:Int))) (∃len3:Nat,(Idx prog Z d 3 len3)∧((0:Int)≤n4)∧(n4 < (len3:Int))∧∃row2:List D,(Row Z d (Int.toNat n4) row2)∧∃n5 n6 n7:Int,((List.take 3 row2) =([iD n5,iD n6,iD n7]:List D))∧∀R:Bool→Store→Prop,(∀b:Bool,∀Z1,(a_b b (∃len4:Nat,(Idx prog Z1 k0 1 len4)∧((0:Int)≤n5)∧(n5 < (len4:Int))∧∃row3:List D,(Row Z1 k0 (Int.toNat n5) row3)∧∃n8:Int,((List.take 1 row3) =([iD n8]:List D))∧a_b (n8 !=(w64 (r+1))) (Fw.newObj Z1 (.live a_q [[iD 2,iD r,iD n5]]) (fun id Z2=>a_v prog Z2 a_q 24 d1 (.osl id 0 1) (fun d2 Z3=>(([[iD n,iD n1,iD n2,iD n3]]:List (List D)) =([[iD n,iD n1,iD n2,iD n3]]:List (List D)))∧(I d2 (w64 (n4+1)) Z3)∧((μ d2 (w64 (n4+1)) Z3) < (μ d1 n4 Z))))) ((([[iD n,iD n1,iD n2,iD n3]]:List (List D)) =([[iD n,iD n1,iD n2,iD n3]]:List (List D)))∧(I d1 (w64 (n4+1)) Z1)∧((μ d1 (w64 (n4+1)) Z1) < (μ d1 n4 Z)))) ((([[iD n,iD n1,iD n2,iD n3]]:List (List D)) =([[iD n,iD n1,iD n2,iD n3]]:List (List D)))∧(I d1 (w64 (n4+1)) Z1)∧((μ d1 (w64 (n4+1)) Z1) < (μ d1 n4 Z))))→R b Z1)→DCalls prog j_t [iA n] Z (fun r1 Z1=>∃b:Bool,(r1=(.a (bA b) :RV))∧a_b b ((([[iD n,iD n1,iD n2,iD n3],[iD n5,iD n6,iD n7]]:List (List D)) =([[iD n,iD n1,iD n2,iD n3],[iD n5,iD n6,iD n7]]:List (List D)))∧R true Z1) (a_b (n == 4) ((([[iD n,iD n1,iD n2,iD n3],[iD n5,iD n6,iD n7]]:List (List D)) =([[iD n,iD n1,iD n2,iD n3],[iD n5,iD n6,iD n7]]:List (List D)))∧R (decide (n4≥n2)) Z1) (a_b (n == 5) ((([[iD n,iD n1,iD n2,iD n3],[iD n5,iD n6,iD n7]]:List (List D)) =([[iD n,iD n1,iD n2,iD n3],[iD n5,iD n6,iD n7]]:List (List D)))∧R (decide (n4≥n2)) Z1) ((([[iD n,iD n1,iD n2,iD n3],[iD n5,iD n6,iD n7]]:List (List D)) =([[iD n,iD n1,iD n2,iD n3],[iD n5,iD n6,iD n7]]:List (List D)))∧R false Z1))))) (Qp (.a (.one d1)) Z)
theorem a_nc (c0 c1 c2 c3 c4:D)(c5 c6 c7 c8:Int)(k0 k1 k2 k3 k4 k5:D)(k6:Bool)(r:Int)(σ:Store)(Qp:RV→Store→Prop)(h:a_me c0 c1 c2 c3 c4 c5 c6 c7 c8 k0 k1 k2 k3 k4 k5 k6 r σ Qp) :DCalls prog p_n [.agg [c0,c1,c2,c3,c4,iD c5,iD c6,iD c7,iD c8], .agg [k0,k1,k2,k3,k4,k5, .bool k6],iA r] σ Qp:=
 a_a mixed (by kernel_rfl) Tryz.func39 a_i6 (Eq.mp (by kernel_rfl) h)
def a_ie:Ann:= { cbs:= [2,3],draws:= [(13,{ ord:= [0,1,2,3,4,5,6,7,8,9,10,11,12,13,14,15,16,17,18,19,20,21,22,23,24,25] })],loops:= [(5,{ mods:= [(68,s6)],keep:= [2,3,66,67] }),(11,{ mods:= [(82,s6)],keep:= [2,3,80,81] }),(17,{ mods:= [(121,s6)],keep:= [3,119,120] }),(23,{ mods:= [(139,s6)],keep:= [3,137,138] })],joins:= [(4,{ keep:= [2,3] })] }
def a_mn (c0 c1 c2 c3 c4:D)(c5 c6 c7 c8:Int)(k0 k1 k2 k3 k4 k5:D)(k6:Bool)(σ:Store)(Qp:RV→Store→Prop) :Prop:=
 ∃len:Nat,(Len c0 len)∧∀R:Store→Prop,(∀Z,(∃len1:Nat,(Len k0 len1)∧∃I:Int→Store→Prop,∃μ:Int→Store→Nat,(I 0 Z)∧∀n:Int,∀Z1,(I n Z1)→a_b (decide (n < (len1:Int))) (∃len2:Nat,(Idx prog Z1 k0 1 len2)∧((0:Int)≤n)∧(n < (len2:Int))∧∃row:List D,(Row Z1 k0 (Int.toNat n) row)∧∃n1:Int,((List.take 1 row) =([iD n1]:List D))∧∃len3:Nat,(Len c4 len3)∧DCalls prog b_k [iA n1,iA (-2),iA (len3:Int)] Z1 (fun r Z2=>∃b:Bool,(r=(.a (bA b) :RV))∧a_b (!b) (Qp (.a (bA false)) Z2) ((I (w64 (n+1)) Z2)∧((μ (w64 (n+1)) Z2) < (μ n Z1))))) (∃len2:Nat,(Len k1 len2)∧∃I1:Int→Store→Prop,∃μ1:Int→Store→Nat,(I1 0 Z1)∧∀n1:Int,∀Z2,(I1 n1 Z2)→a_b (decide (n1 < (len2:Int))) (∃len3:Nat,(Idx prog Z2 k1 4 len3)∧((0:Int)≤n1)∧(n1 < (len3:Int))∧∃row:List D,(Row Z2 k1 (Int.toNat n1) row)∧∃n2 n3 n4 n5:Int,((List.take 4 row) =([iD n2,iD n3,iD n4,iD n5]:List D))∧DCalls prog b_k [iA n2,iA 0,iA 5] Z2 (fun r Z3=>∃b:Bool,(r=(.a (bA b) :RV))∧a_b (!b) (Qp (.a (bA false)) Z3) (∃len4:Nat,(Idx prog Z3 c4 6 len4)∧((0:Int)≤n1)∧(n1 < (len4:Int))∧∃row1:List D,(Row Z3 c4 (Int.toNat n1) row1)∧∃d:D,((List.take 1 (List.drop 2 row1)) =([d]:List D))∧∃len5:Nat,(Len d len5)∧DCalls prog b_k [iA n4,iA 0,iA (len5:Int)] Z3 (fun r1 Z4=>∃b1:Bool,(r1=(.a (bA b1) :RV))∧a_b (!b1) (Qp (.a (bA false)) Z4) (Fw.newObj Z4 (.live a_i [[iD n3],[iD n5]]) (fun id Z5=>DCalls prog d_m [iA 0, .one (.osl id 0 2)] Z5 (fun r2 Z6=>∃b2:Bool,(r2=(.a (bA b2) :RV))∧a_b (!b2) (Qp (.a (bA false)) Z6) ((I1 (w64 (n1+1)) Z6)∧((μ1 (w64 (n1+1)) Z6) < (μ1 n1 Z2)))))))))) (Fw.newObj Z2 (.live o_w [[k2],[k3]]) (fun id Z3=>DCalls prog f_k [.one (.osl id 0 2)] Z3 (fun r Z4=>∃d:D,(r=(.a (.one d) :RV))∧∃len3:Nat,(Len d len3)∧∃I2:Int→Store→Prop,∃μ2:Int→Store→Nat,(I2 0 Z4)∧∀n2:Int,∀Z5,(I2 n2 Z5)→a_b (decide (n2 < (len3:Int))) (∃len4:Nat,(Idx prog Z5 d 2 len4)∧((0:Int)≤n2)∧(n2 < (len4:Int))∧∃row:List D,(Row Z5 d (Int.toNat n2) row)∧∃n3 n4:Int,((List.take 2 row) =([iD n3,iD n4]:List D))∧DCalls prog b_k [iA n3,iA 0,iA 2] Z5 (fun r1 Z6=>∃b:Bool,(r1=(.a (bA b) :RV))∧a_b (!b) (Qp (.a (bA false)) Z6) (DCalls prog b_k [iA n4,iA (-1),iA 4294967295] Z6 (fun r2 Z7=>∃b1:Bool,(r2=(.a (bA b1) :RV))∧a_b (!b1) (Qp (.a (bA false)) Z7) ((I2 (w64 (n2+1)) Z7)∧((μ2 (w64 (n2+1)) Z7) < (μ2 n2 Z5))))))) (∃len4:Nat,(Len k4 len4)∧∃I3:Int→Store→Prop,∃μ3:Int→Store→Nat,(I3 0 Z5)∧∀n3:Int,∀Z6,(I3 n3 Z6)→a_b (decide (n3 < (len4:Int))) (∃len5:Nat,(Idx prog Z6 k4 8 len5)∧((0:Int)≤n3)∧(n3 < (len5:Int))∧∃row:List D,(Row Z6 k4 (Int.toNat n3) row)∧∃n4 n5 n6 n7 n8 n9 n10 n11:Int,((List.take 8 row) =([iD n4,iD n5,iD n6,iD n7,iD n8,iD n9,iD n10,iD n11]:List D))∧Fw.newObj Z6 (.live a_i [[iD n4],[iD n5],[iD n6],[iD n7],[iD n8],[iD n9],[iD n10]]) (fun id1 Z7=>DCalls prog d_m [iA 0, .one (.osl id1 0 7)] Z7 (fun r1 Z8=>∃b:Bool,(r1=(.a (bA b) :RV))∧a_b (!b) (Qp (.a (bA false)) Z8) (Fw.newObj Z8 (.live a_i [[iD n11]]) (fun id2 Z9=>DCalls prog d_m [iA 1, .one (.osl id2 0 1)] Z9 (fun r2 Z10=>∃b1:Bool,(r2=(.a (bA b1) :RV))∧a_b (!b1) (Qp (.a (bA false)) Z10) ((I3 (w64 (n3+1)) Z10)∧((μ3 (w64 (n3+1)) Z10) < (μ3 n3 Z6))))))))) (DCalls prog d_m [iA 1, .one k5] Z6 (fun r1 Z7=>∃b:Bool,(r1=(.a (bA b) :RV))∧Qp (.a (bA b)) Z7))))))))→R Z)→DCalls prog p_m [.agg [c0,c1,c2,c3,c4,iD c5,iD c6,iD c7,iD c8]] σ (fun r Z=>∃n:Int,(r=(.a (iA n) :RV))∧a_b (n != 0) (Qp (.a (bA false)) Z) (∃len1:Nat,(Len k0 len1)∧a_b ((len1:Int) !=(len:Int)) (Qp (.a (bA false)) Z) (∃len2:Nat,(Len k2 len2)∧a_b ((len2:Int) !=(len:Int)) (Qp (.a (bA false)) Z) (∃len3:Nat,(Len k5 len3)∧a_b ((len3:Int) !=(len:Int)) (Qp (.a (bA false)) Z) (∃len4:Nat,(Len k1 len4)∧∃len5:Nat,(Len c4 len5)∧a_b ((len4:Int) !=(len5:Int)) (Qp (.a (bA false)) Z) (∃len6:Nat,(Len k3 len6)∧∃len7:Nat,(Len c3 len7)∧a_b ((len6:Int) !=(len7:Int)) (Qp (.a (bA false)) Z) (∃len8:Nat,(Len k4 len8)∧a_b ((len8:Int) != 4) (Qp (.a (bA false)) Z) (R Z))))))))
theorem a_k4 (c0 c1 c2 c3 c4:D)(c5 c6 c7 c8:Int)(k0 k1 k2 k3 k4 k5:D)(k6:Bool)(σ:Store)(Qp:RV→Store→Prop)(h:a_mn c0 c1 c2 c3 c4 c5 c6 c7 c8 k0 k1 k2 k3 k4 k5 k6 σ Qp) :DCalls prog d_8 [.agg [c0,c1,c2,c3,c4,iD c5,iD c6,iD c7,iD c8], .agg [k0,k1,k2,k3,k4,k5, .bool k6]] σ Qp:=
 a_a mixed (by kernel_rfl) Tryz.func43 a_ie (Eq.mp (by kernel_rfl) h)
def r_j:Ann:= { loops:= [(1,{ mods:= [(12,s6)],keep:= [0,11] }),(5,{ mods:= [(26,s6)],keep:= [0,2,11,12,24,25] })] }
def t_x (j:D)(σ:Store)(Qp:RV→Store→Prop) :Prop:=
 (a_f j)∧∃s:D,∃i off:Nat,(j=(.el s i off:D))∧∃row:List D,(Row σ s i row)∧∃d:D,((List.take 1 (List.drop ((off+7) +4) row)) =([d]:List D))∧∃len:Nat,(Len d len)∧∃I:Int→Store→Prop,∃μ:Int→Store→Nat,(I 0 σ)∧∀n:Int,∀Z,(I n Z)→a_b (decide (n < (len:Int))) (Fw.newObj Z (.live a_i [[iD 0]]) (fun id Z1=>DCalls prog d_p [.one j,iA n, .one (.osl id 0 1)] Z1 (fun r Z2=>∃b:Bool,(r=(.a (bA b) :RV))∧a_b b ((I (w64 (n+1)) Z2)∧((μ (w64 (n+1)) Z2) < (μ n Z))) ((a_f j)∧∃s1:D,∃i1 off1:Nat,(j=(.el s1 i1 off1:D))∧∃row1:List D,(Row Z2 s1 i1 row1)∧∃d1 d2 d3 d4 d5:D,∃n1 n2 n3 n4:Int,((List.take 9 (List.drop (off1+7) row1)) =([d1,d2,d3,d4,d5,iD n1,iD n2,iD n3,iD n4]:List D))∧DCalls prog e_a [.agg [d1,d2,d3,d4,d5,iD n1,iD n2,iD n3,iD n4],iA n] Z2 (fun r1 Z3=>∃d6:D,(r1=(.a (.one d6) :RV))∧∃len1:Nat,(Len d6 len1)∧∃I1:Int→Store→Prop,∃μ1:Int→Store→Nat,(I1 0 Z3)∧∀n5:Int,∀Z4,(I1 n5 Z4)→a_b (decide (n5 < (len1:Int))) (∃len2:Nat,(Idx prog Z4 d6 1 len2)∧((0:Int)≤n5)∧(n5 < (len2:Int))∧∃row2:List D,(Row Z4 d6 (Int.toNat n5) row2)∧∃n6:Int,((List.take 1 row2) =([iD n6]:List D))∧(a_f j)∧∃s2:D,∃i2 off2:Nat,(j=(.el s2 i2 off2:D))∧∃row3:List D,(Row Z4 s2 i2 row3)∧∃d7:D,((List.take 1 (List.drop ((off2+7) +3) row3)) =([d7]:List D))∧∃len3:Nat,(Idx prog Z4 d7 1 len3)∧((0:Int)≤n6)∧(n6 < (len3:Int))∧∃row4:List D,(Row Z4 d7 (Int.toNat n6) row4)∧∃n7:Int,((List.take 1 row4) =([iD n7]:List D))∧(a_f j)∧∃s3:D,∃i3 off3:Nat,(j=(.el s3 i3 off3:D))∧∃row5:List D,(Row Z4 s3 i3 row5)∧∃d8:D,((List.take 1 (List.drop ((off3+0) +0) row5)) =([d8]:List D))∧∃len4:Nat,(Idx prog Z4 d8 1 len4)∧((0:Int)≤n7)∧(n7 < (len4:Int))∧∃row6:List D,(Row Z4 d8 (Int.toNat n7) row6)∧∃n8:Int,((List.take 1 row6) =([iD n8]:List D))∧a_b (n8 ==(w64 (n+1))) ((a_f j)∧∃s4:D,∃i4 off4:Nat,(j=(.el s4 i4 off4:D))∧∃row7:List D,(Row Z4 s4 i4 row7)∧∃d9:D,((List.take 1 (List.drop ((off4+0) +3) row7)) =([d9]:List D))∧∃len5:Nat,(Idx prog Z4 d9 2 len5)∧((0:Int)≤n6)∧(n6 < (len5:Int))∧∃row8:List D,(Row Z4 d9 (Int.toNat n6) row8)∧∃n9:Int,((List.take 1 row8) =([iD n9]:List D))∧DCalls prog a_s [.one j,bA (n9 != 1),iA 5,iA n,iA n7] Z4 (fun r2 Z5=>(r2=(.tup []:RV))∧(I1 (w64 (n5+1)) Z5)∧((μ1 (w64 (n5+1)) Z5) < (μ1 n5 Z4)))) (DCalls prog a_s [.one j,bA false,iA 5,iA n,iA n7] Z4 (fun r2 Z5=>(r2=(.tup []:RV))∧(I1 (w64 (n5+1)) Z5)∧((μ1 (w64 (n5+1)) Z5) < (μ1 n5 Z4))))) ((I (w64 (n+1)) Z4)∧((μ (w64 (n+1)) Z4) < (μ n Z)))))))) (Qp (.tup []) Z)
theorem u_g (j:D)(σ:Store)(Qp:RV→Store→Prop)(h:t_x j σ Qp) :DCalls prog e_i [.one j] σ Qp:=
 a_a mixed (by kernel_rfl) Tryz.func47 r_j (Eq.mp (by kernel_rfl) h)
def a_gf:Ann:= { loops:= [(3,{ mods:= [(7,s6),(12,s6)],keep:= [1,2,10,11] })],joins:= [(7,{ mods:= [(7,s6)],keep:= [1,2,9,10,11,12] })] }
def a_is (joints:D)(section_ end_:Int)(σ:Store)(Qp:RV→Store→Prop) :Prop:=
 ∃len:Nat,(Len joints len)∧∃I:Int→Int→Store→Prop,∃μ:Int→Int→Store→Nat,(I 0 0 σ)∧∀n n1:Int,∀Z,(I n n1 Z)→a_b (decide (n1 < (len:Int))) (∃len1:Nat,(Idx prog Z joints 4 len1)∧((0:Int)≤n1)∧(n1 < (len1:Int))∧∃row:List D,(Row Z joints (Int.toNat n1) row)∧∃n2 n3 n4 n5:Int,((List.take 4 row) =([iD n2,iD n3,iD n4,iD n5]:List D))∧∀R:Int→Store→Prop,(∀n6:Int,∀Z1,(a_b (n4 == section_) (a_b (n5 == end_) ((I (w64 (n6+1)) (w64 (n1+1)) Z1)∧((μ (w64 (n6+1)) (w64 (n1+1)) Z1) < (μ n n1 Z))) ((I n6 (w64 (n1+1)) Z1)∧((μ n6 (w64 (n1+1)) Z1) < (μ n n1 Z)))) ((I n6 (w64 (n1+1)) Z1)∧((μ n6 (w64 (n1+1)) Z1) < (μ n n1 Z))))→R n6 Z1)→a_b (n2 == section_) (a_b (n3 == end_) ((([[iD n2,iD n3,iD n4,iD n5]]:List (List D)) =([[iD n2,iD n3,iD n4,iD n5]]:List (List D)))∧R (w64 (n+1)) Z) ((([[iD n2,iD n3,iD n4,iD n5]]:List (List D)) =([[iD n2,iD n3,iD n4,iD n5]]:List (List D)))∧R n Z)) ((([[iD n2,iD n3,iD n4,iD n5]]:List (List D)) =([[iD n2,iD n3,iD n4,iD n5]]:List (List D)))∧R n Z)) (Qp (.a (iA n)) Z)
theorem a_iy (joints:D)(section_ end_:Int)(σ:Store)(Qp:RV→Store→Prop)(h:a_is joints section_ end_ σ Qp) :DCalls prog g_q [.one joints,iA section_,iA end_] σ Qp:=
 a_a mixed (by kernel_rfl) Tryz.func51 a_gf (Eq.mp (by kernel_rfl) h)
def a_p9:Ann:= { loops:= [(2,{ mods:= [(9,s6)],keep:= [1,7,8] })] }
def a_q2 (l:D)(n:Int)(σ:Store)(Qp:RV→Store→Prop) :Prop:=
 ∃len:Nat,(Len l len)∧∃I:Int→Store→Prop,∃μ:Int→Store→Nat,(I 0 σ)∧∀n1:Int,∀Z,(I n1 Z)→a_b (decide (n1 < (len:Int))) (∃len1:Nat,(Idx prog Z l 1 len1)∧((0:Int)≤n1)∧(n1 < (len1:Int))∧∃row:List D,(Row Z l (Int.toNat n1) row)∧∃n2:Int,((List.take 1 row) =([iD n2]:List D))∧a_b (n2 == n) (Qp (.a (bA true)) Z) ((I (w64 (n1+1)) Z)∧((μ (w64 (n1+1)) Z) < (μ n1 Z)))) (Qp (.a (bA false)) Z)
theorem a_rp (l:D)(n:Int)(σ:Store)(Qp:RV→Store→Prop)(h:a_q2 l n σ Qp) :DCalls prog d_w [.one l,iA n] σ Qp:=
 a_a mixed (by kernel_rfl) Tryz.func55 a_p9 (Eq.mp (by kernel_rfl) h)
def a_gj:Ann:= { }
def a_i9 (now:Int)(σ:Store)(Qp:RV→Store→Prop) :Prop:=
 Qp (.a (.agg [iD 0,iD now])) σ
theorem a_ig (now:Int)(σ:Store)(Qp:RV→Store→Prop)(h:a_i9 now σ Qp) :DCalls prog m_o [iA now] σ Qp:=
 a_a mixed (by kernel_rfl) Tryz.func59 a_gj (Eq.mp (by kernel_rfl) h)
def q_g:Ann:= { draws:= [(24,{ ord:= [0,1,2,3,4,5,6,7,8,9,10,11,12,13,14,15,16,17,18,19,20,21],nb:= [6],sp:= [19] }),(29,{ ord:= [0,1,2,3,4,5,6,7,8,9,10,11,12,13,14,15,16,17],sp:= [15] })],loops:= [(16,{ mods:= [(66,s6)],keep:= [0,1,2,7,64,65] }),(22,{ mods:= [(90,s6)],keep:= [0,1,2,88,89] }),(27,{ mods:= [(123,s6)],keep:= [0,1,121,122] })],joins:= [(15,{ keep:= [0,1,2,7,9] })] }
def s_h (d:D)(now r:Int)(σ:Store)(Qp:RV→Store→Prop) :Prop:=
 DCalls prog e_3 [.one d,iA r] σ (fun r1 Z=>∃d1:D,∃n:Int,(r1=(.tup [.one d1,iA n]:RV))∧a_b (n != 0) (Qp (.a (iA n)) Z) ((a_f d1)∧∃s:D,∃i off:Nat,(d1=(.el s i off:D))∧∃row:List D,(Row Z s i row)∧∃n1:Int,((List.take 1 (List.drop (off+0) row)) =([iD n1]:List D))∧a_b (n1 != 0) (Qp (.a (iA 28)) Z) ((a_f d)∧∃s1:D,∃i1 off1:Nat,(d=(.el s1 i1 off1:D))∧∃row1:List D,(Row Z s1 i1 row1)∧∃d2 d3 d4 d5 d6:D,∃n2 n3 n4 n5:Int,((List.take 9 (List.drop (off1+0) row1)) =([d2,d3,d4,d5,d6,iD n2,iD n3,iD n4,iD n5]:List D))∧DCalls prog o_f [.agg [d2,d3,d4,d5,d6,iD n2,iD n3,iD n4,iD n5],iA r] Z (fun r2 Z1=>∃d7:D,(r2=(.a (.one d7) :RV))∧DCalls prog i_m [.one d,iA r, .one d7] Z1 (fun r3 Z2=>∃n6:Int,(r3=(.a (iA n6) :RV))∧a_b (n6 != 0) (Qp (.a (iA n6)) Z2) (∀R:Store→Prop,(∀Z3,(∃len:Nat,(Len d7 len)∧∃I:Int→Store→Prop,∃μ:Int→Store→Nat,(I 0 Z3)∧∀n7:Int,∀Z4,(I n7 Z4)→a_b (decide (n7 < (len:Int))) (∃len1:Nat,(Idx prog Z4 d7 1 len1)∧((0:Int)≤n7)∧(n7 < (len1:Int))∧∃row2:List D,(Row Z4 d7 (Int.toNat n7) row2)∧∃n8:Int,((List.take 1 row2) =([iD n8]:List D))∧(a_f d)∧∃s2:D,∃i2 off2:Nat,(d=(.el s2 i2 off2:D))∧∃row3:List D,(Row Z4 s2 i2 row3)∧∃d8:D,((List.take 1 (List.drop ((off2+9) +0) row3)) =([d8]:List D))∧∃len2:Nat,(Idx prog Z4 d8 1 len2)∧((0:Int)≤n8)∧(n8 < (len2:Int))∧a_j [iD (w64 (r+1))] Z4 d8 (Int.toNat n8) 0 (fun Z5=>(I (w64 (n7+1)) Z5)∧((μ (w64 (n7+1)) Z5) < (μ n7 Z4)))) ((a_f d1)∧∃s2:D,∃i2 off2:Nat,(d1=(.el s2 i2 off2:D))∧a_j [iD 1,iD 0,iD 0,iD 0] Z4 s2 i2 off2 (fun Z5=>(a_f d)∧∃s3:D,∃i3 off3:Nat,(d=(.el s3 i3 off3:D))∧∃row2:List D,(Row Z5 s3 i3 row2)∧∃d8 d9 d10 d11 d12:D,∃n8 n9 n10 n11:Int,((List.take 9 (List.drop (off3+0) row2)) =([d8,d9,d10,d11,d12,iD n8,iD n9,iD n10,iD n11]:List D))∧DCalls prog g_p [.agg [d8,d9,d10,d11,d12,iD n8,iD n9,iD n10,iD n11],iA r] Z5 (fun r4 Z6=>∃d13:D,(r4=(.a (.one d13) :RV))∧∃len1:Nat,(Len d13 len1)∧∃I1:Int→Store→Prop,∃μ1:Int→Store→Nat,(I1 0 Z6)∧∀n12:Int,∀Z7,(I1 n12 Z7)→a_b (decide (n12 < (len1:Int))) (∃len2:Nat,(Idx prog Z7 d13 2 len2)∧((0:Int)≤n12)∧(n12 < (len2:Int))∧∃row3:List D,(Row Z7 d13 (Int.toNat n12) row3)∧∃n13 n14:Int,((List.take 2 row3) =([iD n13,iD n14]:List D))∧∃pre:List A→Store→Prop,∃post:List A→Store→RV→Store→Prop,(h_k prog c_g pre post)∧(a_f d)∧∃s4:D,∃i4 off4:Nat,(d=(.el s4 i4 off4:D))∧∃row4:List D,(Row Z7 s4 i4 row4)∧∃d14:D,((List.take 1 (List.drop ((off4+9) +2) row4)) =([d14]:List D))∧(a_f d)∧∃s5:D,∃i5 off5:Nat,(d=(.el s5 i5 off5:D))∧∃row5:List D,(Row Z7 s5 i5 row5)∧∃d15:D,((List.take 1 (List.drop ((off5+9) +2) row5)) =([d15]:List D))∧∃len3:Nat,(Idx prog Z7 d15 2 len3)∧((0:Int)≤n13)∧(n13 < (len3:Int))∧∃row6:List D,(Row Z7 d15 (Int.toNat n13) row6)∧∃n15 n16:Int,((List.take 2 row6) =([iD n15,iD n16]:List D))∧(pre [.agg [iD n15,iD n16],iA now,iA n14] Z7)∧∀r5:RV,∀s6:Store,(post [.agg [iD n15,iD n16],iA now,iA n14] Z7 r5 s6)→∃n17 n18:Int,(r5=(.a (.agg [iD n17,iD n18]) :RV))∧∃len4:Nat,(Idx prog s6 d14 2 len4)∧((0:Int)≤n13)∧(n13 < (len4:Int))∧a_j [iD n17,iD n18] s6 d14 (Int.toNat n13) 0 (fun Z8=>(I1 (w64 (n12+1)) Z8)∧((μ1 (w64 (n12+1)) Z8) < (μ1 n12 Z7)))) ((a_f d)∧∃s4:D,∃i4 off4:Nat,(d=(.el s4 i4 off4:D))∧∃row3:List D,(Row Z7 s4 i4 row3)∧∃d14 d15 d16 d17 d18:D,∃n13 n14 n15 n16:Int,((List.take 9 (List.drop (off4+0) row3)) =([d14,d15,d16,d17,d18,iD n13,iD n14,iD n15,iD n16]:List D))∧DCalls prog e_a [.agg [d14,d15,d16,d17,d18,iD n13,iD n14,iD n15,iD n16],iA r] Z7 (fun r5 Z8=>∃d19:D,(r5=(.a (.one d19) :RV))∧∃len2:Nat,(Len d19 len2)∧∃I2:Int→Store→Prop,∃μ2:Int→Store→Nat,(I2 0 Z8)∧∀n17:Int,∀Z9,(I2 n17 Z9)→a_b (decide (n17 < (len2:Int))) (∃len3:Nat,(Idx prog Z9 d19 1 len3)∧((0:Int)≤n17)∧(n17 < (len3:Int))∧∃row4:List D,(Row Z9 d19 (Int.toNat n17) row4)∧∃n18:Int,((List.take 1 row4) =([iD n18]:List D))∧∃pre:List A→Store→Prop,∃post:List A→Store→RV→Store→Prop,(h_k prog c_g pre post)∧(a_f d)∧∃s5:D,∃i5 off5:Nat,(d=(.el s5 i5 off5:D))∧∃row5:List D,(Row Z9 s5 i5 row5)∧∃d20:D,((List.take 1 (List.drop ((off5+9) +3) row5)) =([d20]:List D))∧(a_f d)∧∃s6:D,∃i6 off6:Nat,(d=(.el s6 i6 off6:D))∧∃row6:List D,(Row Z9 s6 i6 row6)∧∃d21:D,((List.take 1 (List.drop ((off6+9) +3) row6)) =([d21]:List D))∧∃len4:Nat,(Idx prog Z9 d21 2 len4)∧((0:Int)≤n18)∧(n18 < (len4:Int))∧∃row7:List D,(Row Z9 d21 (Int.toNat n18) row7)∧∃n19 n20:Int,((List.take 2 row7) =([iD n19,iD n20]:List D))∧(pre [.agg [iD n19,iD n20],iA now,iA 1] Z9)∧∀r6:RV,∀s7:Store,(post [.agg [iD n19,iD n20],iA now,iA 1] Z9 r6 s7)→∃n21 n22:Int,(r6=(.a (.agg [iD n21,iD n22]) :RV))∧∃len5:Nat,(Idx prog s7 d20 2 len5)∧((0:Int)≤n18)∧(n18 < (len5:Int))∧a_j [iD n21,iD n22] s7 d20 (Int.toNat n18) 0 (fun Z10=>(I2 (w64 (n17+1)) Z10)∧((μ2 (w64 (n17+1)) Z10) < (μ2 n17 Z9)))) ((a_f d)∧∃s5:D,∃i5 off5:Nat,(d=(.el s5 i5 off5:D))∧a_j [.bool true] Z9 s5 i5 ((off5+9) +6) (fun Z10=>Qp (.a (iA 0)) Z10))))))))→R Z3)→DCalls prog h_9 [.one d,iA r] Z2 (fun r4 Z3=>∃d8:D,(r4=(.a (.one d8) :RV))∧∃b:Bool,(i_d .pt d8 b)∧a_b (b != true) ((a_f d8)∧∃s2:D,∃i2 off2:Nat,(d8=(.el s2 i2 off2:D))∧∃row2:List D,(Row Z3 s2 i2 row2)∧∃n7:Int,((List.take 1 (List.drop (off2+0) row2)) =([iD n7]:List D))∧a_b (decide (n7≥4294967295)) (Qp (.a (iA 5)) Z3) ((a_f d8)∧∃s3:D,∃i3 off3:Nat,(d8=(.el s3 i3 off3:D))∧∃row3:List D,(Row Z3 s3 i3 row3)∧∃n8:Int,((List.take 1 (List.drop (off3+0) row3)) =([iD n8]:List D))∧(a_f d8)∧∃s4:D,∃i4 off4:Nat,(d8=(.el s4 i4 off4:D))∧a_j [iD (w64 (n8+1))] Z3 s4 i4 (off4+0) (fun Z4=>R Z4))) (R Z3))))))))
theorem q_8 (d:D)(now r:Int)(σ:Store)(Qp:RV→Store→Prop)(h:s_h d now r σ Qp) :DCalls prog f_n [.one d,iA now,iA r] σ Qp:=
 a_a mixed (by kernel_rfl) Tryz.func63 q_g (Eq.mp (by kernel_rfl) h)
def a_ao:Ann:= { draws:= [(1,{ ord:= [0,1,2,3,4,5,6,7,8,9,10,11,12,13,14,15,16,17,18,19,20,21,22] }),(5,{ ord:= [0,1,2,3,4,5,6,7,8,9] }),(7,{ ord:= [0,1,2,3,4,5,6,7,8,9,10,11,12,13,14,15,16,17,18],sp:= [16] })],joins:= [(7,{ keep:= [0,1,2,3] })] }
def a_dd (d a1 a2 a3:D)(σ:Store)(Qp:RV→Store→Prop) :Prop:=
 ∀R:Store→Prop,(∀Z,(∃pre:List A→Store→Prop,∃post:List A→Store→RV→Store→Prop,(h_k prog c_g pre post)∧(a_f d)∧∃s:D,∃i off:Nat,(d=(.el s i off:D))∧∃row:List D,(Row Z s i row)∧∃d1:D,((List.take 1 (List.drop ((off+9) +2) row)) =([d1]:List D))∧∃s1:D,∃i1 off1:Nat,(a1=(.el s1 i1 off1:D))∧∃row1:List D,(Row Z s1 i1 row1)∧∃n:Int,((List.take 1 (List.drop off1 row1)) =([iD n]:List D))∧(a_f d)∧∃s2:D,∃i2 off2:Nat,(d=(.el s2 i2 off2:D))∧∃row2:List D,(Row Z s2 i2 row2)∧∃d2:D,((List.take 1 (List.drop ((off2+9) +2) row2)) =([d2]:List D))∧∃s3:D,∃i3 off3:Nat,(a1=(.el s3 i3 off3:D))∧∃row3:List D,(Row Z s3 i3 row3)∧∃n1:Int,((List.take 1 (List.drop off3 row3)) =([iD n1]:List D))∧∃len:Nat,(Idx prog Z d2 2 len)∧((0:Int)≤n1)∧(n1 < (len:Int))∧∃row4:List D,(Row Z d2 (Int.toNat n1) row4)∧∃n2 n3:Int,((List.take 2 row4) =([iD n2,iD n3]:List D))∧∃s4:D,∃i4 off4:Nat,(a3=(.el s4 i4 off4:D))∧∃row5:List D,(Row Z s4 i4 row5)∧∃n4:Int,((List.take 1 (List.drop off4 row5)) =([iD n4]:List D))∧∃s5:D,∃i5 off5:Nat,(a2=(.el s5 i5 off5:D))∧∃row6:List D,(Row Z s5 i5 row6)∧∃n5:Int,((List.take 1 (List.drop off5 row6)) =([iD n5]:List D))∧(pre [.agg [iD n2,iD n3],iA n4,iA n5] Z)∧∀r:RV,∀s6:Store,(post [.agg [iD n2,iD n3],iA n4,iA n5] Z r s6)→∃n6 n7:Int,(r=(.a (.agg [iD n6,iD n7]) :RV))∧∃len1:Nat,(Idx prog s6 d1 2 len1)∧((0:Int)≤n)∧(n < (len1:Int))∧a_j [iD n6,iD n7] s6 d1 (Int.toNat n) 0 (fun Z1=>Qp (.a (iA 0)) Z1))→R Z)→∃s:D,∃i off:Nat,(a1=(.el s i off:D))∧∃row:List D,(Row σ s i row)∧∃n:Int,((List.take 1 (List.drop off row)) =([iD n]:List D))∧(a_f d)∧∃s1:D,∃i1 off1:Nat,(d=(.el s1 i1 off1:D))∧∃row1:List D,(Row σ s1 i1 row1)∧∃d1:D,((List.take 1 (List.drop ((off1+9) +0) row1)) =([d1]:List D))∧∃len:Nat,(Len d1 len)∧DCalls prog b_k [iA n,iA 0, .one (iD (w64 ((len:Int) - 1)))] σ (fun r Z=>∃b:Bool,(r=(.a (bA b) :RV))∧a_b (!b) (Qp (.a (iA 20)) Z) ((a_f d)∧∃s2:D,∃i2 off2:Nat,(d=(.el s2 i2 off2:D))∧∃row2:List D,(Row Z s2 i2 row2)∧∃d2:D,((List.take 1 (List.drop ((off2+0) +0) row2)) =([d2]:List D))∧∃s3:D,∃i3 off3:Nat,(a1=(.el s3 i3 off3:D))∧∃row3:List D,(Row Z s3 i3 row3)∧∃n1:Int,((List.take 1 (List.drop off3 row3)) =([iD n1]:List D))∧∃len1:Nat,(Idx prog Z d2 3 len1)∧((0:Int)≤n1)∧(n1 < (len1:Int))∧∃row4:List D,(Row Z d2 (Int.toNat n1) row4)∧∃n2:Int,((List.take 1 row4) =([iD n2]:List D))∧a_b (n2 != 1) (Qp (.a (iA 20)) Z) (∃s4:D,∃i4 off4:Nat,(a2=(.el s4 i4 off4:D))∧∃row5:List D,(Row Z s4 i4 row5)∧∃n3:Int,((List.take 1 (List.drop off4 row5)) =([iD n3]:List D))∧a_b (n3 != 1) (∃s5:D,∃i5 off5:Nat,(a2=(.el s5 i5 off5:D))∧∃row6:List D,(Row Z s5 i5 row6)∧∃n4:Int,((List.take 1 (List.drop off5 row6)) =([iD n4]:List D))∧a_b (n4 != 2) (Qp (.a (iA 32)) Z) ((a_f d)∧∃s6:D,∃i6 off6:Nat,(d=(.el s6 i6 off6:D))∧∃row7:List D,(Row Z s6 i6 row7)∧∃d3:D,((List.take 1 (List.drop ((off6+9) +0) row7)) =([d3]:List D))∧∃s7:D,∃i7 off7:Nat,(a1=(.el s7 i7 off7:D))∧∃row8:List D,(Row Z s7 i7 row8)∧∃n5:Int,((List.take 1 (List.drop off7 row8)) =([iD n5]:List D))∧∃len2:Nat,(Idx prog Z d3 1 len2)∧((0:Int)≤n5)∧(n5 < (len2:Int))∧∃row9:List D,(Row Z d3 (Int.toNat n5) row9)∧∃n6:Int,((List.take 1 row9) =([iD n6]:List D))∧a_b (n6 != 0) (Qp (.a (iA 22)) Z) (R Z))) ((a_f d)∧∃s5:D,∃i5 off5:Nat,(d=(.el s5 i5 off5:D))∧∃row6:List D,(Row Z s5 i5 row6)∧∃d3:D,((List.take 1 (List.drop ((off5+9) +0) row6)) =([d3]:List D))∧∃s6:D,∃i6 off6:Nat,(a1=(.el s6 i6 off6:D))∧∃row7:List D,(Row Z s6 i6 row7)∧∃n4:Int,((List.take 1 (List.drop off6 row7)) =([iD n4]:List D))∧∃len2:Nat,(Idx prog Z d3 1 len2)∧((0:Int)≤n4)∧(n4 < (len2:Int))∧∃row8:List D,(Row Z d3 (Int.toNat n4) row8)∧∃n5:Int,((List.take 1 row8) =([iD n5]:List D))∧a_b (n5 != 0) (Qp (.a (iA 22)) Z) (R Z)))))
theorem a_de (d a1 a2 a3:D)(σ:Store)(Qp:RV→Store→Prop)(h:a_dd d a1 a2 a3 σ Qp) :DCalls prog p_u [.one d, .one a1, .one a2, .one a3] σ Qp:=
 a_a mixed (by kernel_rfl) Tryz.func67 a_ao (Eq.mp (by kernel_rfl) h)
def w_2:Ann:= { joins:= [(6,{ keep:= [0,1,6] })] }
def x_0 (d l:D)(s:Int)(σ:Store)(Qp:RV→Store→Prop) :Prop:=
 (a_f l)∧∃s1:D,∃i off:Nat,(l=(.el s1 i off:D))∧∃row:List D,(Row σ s1 i row)∧∃n:Int,((List.take 1 (List.drop (off+2) row)) =([iD n]:List D))∧∀R:Store→Prop,(∀Z,((a_f d)∧∃s2:D,∃i1 off1:Nat,(d=(.el s2 i1 off1:D))∧∃row1:List D,(Row Z s2 i1 row1)∧∃b:Bool,((List.take 1 (List.drop (off1+21) row1)) =([.bool b]:List D))∧a_b (!b) ((a_f l)∧∃s3:D,∃i2 off2:Nat,(l=(.el s3 i2 off2:D))∧a_j [iD n] Z s3 i2 (off2+3) (fun Z1=>Qp (.tup []) Z1)) (Qp (.tup []) Z))→R Z)→(a_f d)∧∃s2:D,∃i1 off1:Nat,(d=(.el s2 i1 off1:D))∧∃row1:List D,(Row σ s2 i1 row1)∧∃d1:D,((List.take 1 (List.drop ((off1+0) +0) row1)) =([d1]:List D))∧∃len:Nat,(Idx prog σ d1 1 len)∧((0:Int)≤s)∧(s < (len:Int))∧∃row2:List D,(Row σ d1 (Int.toNat s) row2)∧∃n1:Int,((List.take 1 row2) =([iD n1]:List D))∧a_b (n1 ==(-2)) (DCalls prog h_v [.one d, .one l,iA s] σ (fun r Z=>(r=(.tup []:RV))∧R Z)) ((a_f d)∧∃s3:D,∃i2 off2:Nat,(d=(.el s3 i2 off2:D))∧∃row3:List D,(Row σ s3 i2 row3)∧∃d2:D,((List.take 1 (List.drop ((off2+0) +0) row3)) =([d2]:List D))∧∃len1:Nat,(Idx prog σ d2 1 len1)∧((0:Int)≤s)∧(s < (len1:Int))∧∃row4:List D,(Row σ d2 (Int.toNat s) row4)∧∃n2:Int,((List.take 1 row4) =([iD n2]:List D))∧a_b (n2 == 0) (DCalls prog i_t [.one d, .one l,iA s] σ (fun r Z=>∃b:Bool,(r=(.a (bA b) :RV))∧a_b b (DCalls prog f_z [.one d,iA s,iA (-2)] Z (fun r1 Z1=>(r1=(.tup []:RV))∧(a_f l)∧∃s4:D,∃i3 off3:Nat,(l=(.el s4 i3 off3:D))∧∃row5:List D,(Row Z1 s4 i3 row5)∧∃n3:Int,((List.take 1 (List.drop ((off3+4) +0) row5)) =([iD n3]:List D))∧(a_f l)∧∃s5:D,∃i4 off4:Nat,(l=(.el s5 i4 off4:D))∧a_j [iD n3] Z1 s5 i4 (off4+2) (fun Z2=>(a_f l)∧∃s6:D,∃i5 off5:Nat,(l=(.el s6 i5 off5:D))∧a_j [iD 0] Z2 s6 i5 (off5+7) (fun Z3=>R Z3)))) (R Z))) (R σ))
theorem z_f (d l:D)(s:Int)(σ:Store)(Qp:RV→Store→Prop)(h:x_0 d l s σ Qp) :DCalls prog h_6 [.one d, .one l,iA s] σ Qp:=
 a_a mixed (by kernel_rfl) Tryz.func71 w_2 (Eq.mp (by kernel_rfl) h)
def p_2:Ann:= { draws:= [(2,{ ord:= [0,1,2,3,4,5,6,7,8,9,10,11,12,13,14,15] })],joins:= [(2,{ mods:= [(5,SlotSh.one (Sh.bool))],keep:= [0,1,4] }),(3,{ mods:= [(25,SlotSh.one (Sh.bool))],keep:= [0,1,4] }),(5,{ mods:= [(54,SlotSh.one (Sh.bool))],keep:= [0,1,4] })] }
def q_z (x:D)(r:Int)(σ:Store)(Qp:RV→Store→Prop) :Prop:=
 (a_f x)∧∃s:D,∃i off:Nat,(x=(.el s i off:D))∧∃row:List D,(Row σ s i row)∧∃d:D,((List.take 1 (List.drop ((off+13) +1) row)) =([d]:List D))∧∃len:Nat,(Idx prog σ d 4 len)∧((0:Int)≤r)∧(r < (len:Int))∧∀R:Bool→Store→Prop,(∀b:Bool,∀Z,(∀R1:Bool→Store→Prop,(∀b1:Bool,∀Z1,(a_b b1 ((a_f x)∧∃s1:D,∃i1 off1:Nat,(x=(.el s1 i1 off1:D))∧∃row1:List D,(Row Z1 s1 i1 row1)∧∃n:Int,((List.take 1 (List.drop (off1+20) row1)) =([iD n]:List D))∧a_j [iD 4] Z1 d (Int.toNat r) 0 (fun Z2=>a_j [iD n] Z2 d (Int.toNat r) 1 (fun Z3=>a_j [iD 0] Z3 d (Int.toNat r) 3 (fun Z4=>Qp (.tup []) Z4)))) (∀R2:Bool→Store→Prop,(∀b2:Bool,∀Z2,(a_b b2 (a_j [iD 3] Z2 d (Int.toNat r) 0 (fun Z3=>Qp (.tup []) Z3)) (∃row1:List D,(Row Z2 d (Int.toNat r) row1)∧∃n:Int,((List.take 1 row1) =([iD n]:List D))∧a_b (n == 1) ((a_f x)∧∃s1:D,∃i1 off1:Nat,(x=(.el s1 i1 off1:D))∧∃row2:List D,(Row Z2 s1 i1 row2)∧∃b3:Bool,((List.take 1 (List.drop (off1+21) row2)) =([.bool b3]:List D))∧a_b (!b3) (DCalls prog d_5 [.one x,iA r] Z2 (fun r1 Z3=>∃b4:Bool,(r1=(.a (bA b4) :RV))∧a_b b4 (a_j [iD 2] Z3 d (Int.toNat r) 0 (fun Z4=>Qp (.tup []) Z4)) (∃row3:List D,(Row Z3 d (Int.toNat r) row3)∧∃n1:Int,((List.take 1 row3) =([iD n1]:List D))∧a_b (n1 == 4) (DCalls prog c_a [.one x,iA r] Z3 (fun r2 Z4=>(r2=(.tup []:RV))∧Qp (.tup []) Z4)) (Qp (.tup []) Z3)))) (∃row3:List D,(Row Z2 d (Int.toNat r) row3)∧∃n1:Int,((List.take 1 row3) =([iD n1]:List D))∧a_b (n1 == 4) (DCalls prog c_a [.one x,iA r] Z2 (fun r1 Z3=>(r1=(.tup []:RV))∧Qp (.tup []) Z3)) (Qp (.tup []) Z2))) (∃row2:List D,(Row Z2 d (Int.toNat r) row2)∧∃n1:Int,((List.take 1 row2) =([iD n1]:List D))∧a_b (n1 == 4) (DCalls prog c_a [.one x,iA r] Z2 (fun r1 Z3=>(r1=(.tup []:RV))∧Qp (.tup []) Z3)) (Qp (.tup []) Z2))))→R2 b2 Z2)→∃row1:List D,(Row Z1 d (Int.toNat r) row1)∧∃n:Int,((List.take 1 row1) =([iD n]:List D))∧a_b (n == 2) (DCalls prog d_5 [.one x,iA r] Z1 (fun r1 Z2=>∃b2:Bool,(r1=(.a (bA b2) :RV))∧R2 (!b2) Z2)) (R2 false Z1)))→R1 b1 Z1)→a_b b ((a_f x)∧∃s1:D,∃i1 off1:Nat,(x=(.el s1 i1 off1:D))∧(a_f x)∧∃s2:D,∃i2 off2:Nat,(x=(.el s2 i2 off2:D))∧∃row1:List D,(Row Z s2 i2 row1)∧∃d1:D,((List.take 1 (List.drop (off2+22) row1)) =([d1]:List D))∧∃len1:Nat,(Idx prog Z d1 1 len1)∧((0:Int)≤r)∧(r < (len1:Int))∧∃row2:List D,(Row Z d1 (Int.toNat r) row2)∧∃d2:D,((List.take 1 row2) =([d2]:List D))∧DCalls prog c_h [.one (.el s1 i1 (off1+0)), .one d2] Z (fun r1 Z1=>∃b1:Bool,(r1=(.a (bA b1) :RV))∧R1 (!b1) Z1)) (R1 false Z))→R b Z)→∃row1:List D,(Row σ d (Int.toNat r) row1)∧∃n:Int,((List.take 1 row1) =([iD n]:List D))∧a_b (n == 2) (R true σ) (∃row2:List D,(Row σ d (Int.toNat r) row2)∧∃n1:Int,((List.take 1 row2) =([iD n1]:List D))∧R (n1 == 3) σ)
theorem q_5 (x:D)(r:Int)(σ:Store)(Qp:RV→Store→Prop)(h:q_z x r σ Qp) :DCalls prog f_u [.one x,iA r] σ Qp:=
 a_a mixed (by kernel_rfl) Tryz.func75 p_2 (Eq.mp (by kernel_rfl) h)
def a_oi:Ann:= { esc:= [6] }
def a_rm (limit:Int)(σ:Store)(Qp:RV→Store→Prop) :Prop:=
 Fw.newObj σ (.live e_c [[iD 0, .nils,iD (ite ((0:Int) > limit) 0 limit)]]) (fun id Z=>Qp (.a (.one (.el (.osl id 0 1) 0 0))) Z)
theorem a_rr (limit:Int)(σ:Store)(Qp:RV→Store→Prop)(h:a_rm limit σ Qp) :DCalls prog w_q [iA limit] σ Qp:=
 a_a mixed (by kernel_rfl) Tryz.func79 a_oi (Eq.mp (by kernel_rfl) h)
def t_m:Ann:= { draws:= [(2,{ ord:= [0,1,2,3,4,5,6] })] }
def v_f (w:D)(σ:Store)(Qp:RV→Store→Prop) :Prop:=
 (a_f w)∧∃s:D,∃i off:Nat,(w=(.el s i off:D))∧DCalls prog b_c [.one (.el s i (off+0))] σ (fun r Z=>∃b:Bool,(r=(.a (bA b) :RV))∧a_b (!b) ((a_f w)∧∃s1:D,∃i1 off1:Nat,(w=(.el s1 i1 off1:D))∧∃row:List D,(Row Z s1 i1 row)∧∃n:Int,((List.take 1 (List.drop ((off1+0) +0) row)) =([iD n]:List D))∧Qp (.tup [.one (.str (ByteArray.mk (List.toArray []))),iA n]) Z) ((a_f w)∧∃s1:D,∃i1 off1:Nat,(w=(.el s1 i1 off1:D))∧∃row:List D,(Row Z s1 i1 row)∧∃d:D,((List.take 1 (List.drop (off1+1) row)) =([d]:List D))∧∃b1:ByteArray,(Fw.Rows prog Z f_0 d (d_j b1))∧Qp (.tup [.one (.str b1),iA 0]) Z))
theorem w_a (w:D)(σ:Store)(Qp:RV→Store→Prop)(h:v_f w σ Qp) :DCalls prog g_2 [.one w] σ Qp:=
 a_a mixed (by kernel_rfl) Tryz.func83 t_m (Eq.mp (by kernel_rfl) h)
def u_h:Ann:= { }
def w_7 (r:D)(σ:Store)(Qp:RV→Store→Prop) :Prop:=
 DCalls prog d_g [.one r,iA 4] σ (fun r1 Z=>∃n:Int,(r1=(.a (iA n) :RV))∧Qp (.a (iA n)) Z)
theorem v_3 (r:D)(σ:Store)(Qp:RV→Store→Prop)(h:w_7 r σ Qp) :DCalls prog d_v [.one r] σ Qp:=
 a_a mixed (by kernel_rfl) Tryz.func87 u_h (Eq.mp (by kernel_rfl) h)
def a_gx:Ann:= { cbs:= [2],draws:= [(8,{ ord:= [0,1,2,3,4,5,6,7,8,9,10,11,12,13,14,15,16] })],loops:= [(5,{ mods:= [(5,SlotSh.one (Sh.any)),(26,s6)],keep:= [1,2,24,25] })],joins:= [(3,{ keep:= [1,2] })] }
def a_it (c0 c1 c2 c3 c4:D)(c5 c6 c7 c8 r:Int)(σ:Store)(Qp:RV→Store→Prop) :Prop:=
 ∀R:Store→Prop,(∀Z,(∃len:Nat,(Idx prog Z c4 6 len)∧((0:Int)≤r)∧(r < (len:Int))∧∃row:List D,(Row Z c4 (Int.toNat r) row)∧∃d:D,((List.take 1 (List.drop 2 row)) =([d]:List D))∧∃len1:Nat,(Len d len1)∧∃I:D→Int→Store→Prop,∃μ:D→Int→Store→Nat,(I .nils 0 Z)∧∀d1:D,∀n:Int,∀Z1,(I d1 n Z1)→a_b (decide (n < (len1:Int))) (∃len2:Nat,(Idx prog Z1 d 3 len2)∧((0:Int)≤n)∧(n < (len2:Int))∧∃row1:List D,(Row Z1 d (Int.toNat n) row1)∧∃n1 n2 n3:Int,((List.take 3 row1) =([iD n1,iD n2,iD n3]:List D))∧a_b (decide (n1 < 0)) ((I d1 (w64 (n+1)) Z1)∧((μ d1 (w64 (n+1)) Z1) < (μ d1 n Z1))) (∃len3:Nat,(Len c0 len3)∧a_b (decide (n1≥(len3:Int))) ((I d1 (w64 (n+1)) Z1)∧((μ d1 (w64 (n+1)) Z1) < (μ d1 n Z1))) (∃len4:Nat,(Idx prog Z1 c0 3 len4)∧((0:Int)≤n1)∧(n1 < (len4:Int))∧∃row2:List D,(Row Z1 c0 (Int.toNat n1) row2)∧∃n4:Int,((List.take 1 row2) =([iD n4]:List D))∧DCalls prog l_v [iA n4,iA n2,iA n3] Z1 (fun r1 Z2=>∃n5:Int,∃b:Bool,(r1=(.tup [iA n5,bA b]:RV))∧a_b b (a_b (n5 != 0) (Fw.newObj Z2 (.live a_4 [[iD n1,iD n5]]) (fun id Z3=>a_v prog Z3 a_4 16 d1 (.osl id 0 1) (fun d2 Z4=>(I d2 (w64 (n+1)) Z4)∧((μ d2 (w64 (n+1)) Z4) < (μ d1 n Z1))))) ((I d1 (w64 (n+1)) Z2)∧((μ d1 (w64 (n+1)) Z2) < (μ d1 n Z1)))) ((I d1 (w64 (n+1)) Z2)∧((μ d1 (w64 (n+1)) Z2) < (μ d1 n Z1))))))) (∃len2:Nat,(Idx prog Z1 c4 6 len2)∧((0:Int)≤r)∧(r < (len2:Int))∧∃row1:List D,(Row Z1 c4 (Int.toNat r) row1)∧∃d2:D,((List.take 1 (List.drop 3 row1)) =([d2]:List D))∧a_v prog Z1 a_4 16 d1 d2 (fun d3 Z2=>Qp (.a (.one d3)) Z2)))→R Z)→a_b (decide (r < 0)) (Qp (.a (.one .nils)) σ) (∃len:Nat,(Len c4 len)∧a_b (decide (r≥(len:Int))) (Qp (.a (.one .nils)) σ) (R σ))
theorem a_jh (c0 c1 c2 c3 c4:D)(c5 c6 c7 c8 r:Int)(σ:Store)(Qp:RV→Store→Prop)(h:a_it c0 c1 c2 c3 c4 c5 c6 c7 c8 r σ Qp) :DCalls prog m_g [.agg [c0,c1,c2,c3,c4,iD c5,iD c6,iD c7,iD c8],iA r] σ Qp:=
 a_a mixed (by kernel_rfl) Tryz.func91 a_gx (Eq.mp (by kernel_rfl) h)
def o_0:Ann:= { }
def q_f (j:D)(r:Int)(σ:Store)(Qp:RV→Store→Prop) :Prop:=
 Fw.newObj σ (.live a_i [[iD 1],[iD 2],[iD 3]]) (fun id Z=>DCalls prog d_p [.one j,iA r, .one (.osl id 0 3)] Z (fun r1 Z1=>∃b:Bool,(r1=(.a (bA b) :RV))∧Qp (.a (bA b)) Z1))
theorem q_n (j:D)(r:Int)(σ:Store)(Qp:RV→Store→Prop)(h:q_f j r σ Qp) :DCalls prog d_x [.one j,iA r] σ Qp:=
 a_a mixed (by kernel_rfl) Tryz.func95 o_0 (Eq.mp (by kernel_rfl) h)
def j_v:Ann:= { loops:= [(2,{ mods:= [(8,s6)],keep:= [0,1,7] })] }
def l_j (s f:D)(σ:Store)(Qp:RV→Store→Prop) :Prop:=
 ∃len:Nat,(Len s len)∧∃I:Int→Store→Prop,∃μ:Int→Store→Nat,(I 0 σ)∧∀n:Int,∀Z,(I n Z)→a_b (decide (n < (len:Int))) (∃len1:Nat,(Idx prog Z s 3 len1)∧((0:Int)≤n)∧(n < (len1:Int))∧∃row:List D,(Row Z s (Int.toNat n) row)∧∃n1 n2 n3:Int,((List.take 3 row) =([iD n1,iD n2,iD n3]:List D))∧∃f1:FuncId,∃a:List (Bool × (List D)),∃b:List (Bool × (List D)),∃as0':List A,∃bs:List A,(f=(.fn f1 a b:D))∧((f_v a) =(Option.some as0'))∧((f_v b) =(Option.some bs))∧DCalls prog f1 (HAppend.hAppend (HAppend.hAppend as0' [.agg [iD n1,iD n2,iD n3]]) bs) Z (fun r Z1=>∃b1:Bool,(r=(.a (bA b1) :RV))∧a_b b1 (Qp (.a (iA n)) Z1) ((I (w64 (n+1)) Z1)∧((μ (w64 (n+1)) Z1) < (μ n Z))))) (Qp (.a (iA (-1))) Z)
theorem l_c (s f:D)(σ:Store)(Qp:RV→Store→Prop)(h:l_j s f σ Qp) :DCalls prog c_m [.one s, .one f] σ Qp:=
 a_a mixed (by kernel_rfl) Tryz.func99 j_v (Eq.mp (by kernel_rfl) h)
def a_jc:Ann:= { esc:= [10],cbs:= [2,3] }
def a_mm (c0 c1 c2 c3 c4:D)(c5 c6 c7 c8:Int)(k0 k1 k2 k3 k4 k5:D)(k6:Bool)(σ:Store)(Qp:RV→Store→Prop) :Prop:=
 Fw.newObj σ (.live d_k [[c0,c1,c2,c3,c4,iD c5,iD c6,iD c7,iD c8,k0,k1,k2,k3,k4,k5, .bool k6]]) (fun id Z=>DCalls prog b_a [.one k0] Z (fun r Z1=>∃d:D,(r=(.a (.one d) :RV))∧a_j [d] Z1 (.osl id 0 1) 0 9 (fun Z2=>DCalls prog b_1 [.one k1] Z2 (fun r1 Z3=>∃d1:D,(r1=(.a (.one d1) :RV))∧a_j [d1] Z3 (.osl id 0 1) 0 10 (fun Z4=>DCalls prog b_h [.one k2] Z4 (fun r2 Z5=>∃d2:D,(r2=(.a (.one d2) :RV))∧a_j [d2] Z5 (.osl id 0 1) 0 11 (fun Z6=>DCalls prog b_h [.one k3] Z6 (fun r3 Z7=>∃d3:D,(r3=(.a (.one d3) :RV))∧a_j [d3] Z7 (.osl id 0 1) 0 12 (fun Z8=>DCalls prog c_d [.one k4] Z8 (fun r4 Z9=>∃d4:D,(r4=(.a (.one d4) :RV))∧a_j [d4] Z9 (.osl id 0 1) 0 13 (fun Z10=>DCalls prog b_a [.one k5] Z10 (fun r5 Z11=>∃d5:D,(r5=(.a (.one d5) :RV))∧a_j [d5] Z11 (.osl id 0 1) 0 14 (fun Z12=>DCalls prog d_8 [.agg [c0,c1,c2,c3,c4,iD c5,iD c6,iD c7,iD c8], .agg [k0,k1,k2,k3,k4,k5, .bool k6]] Z12 (fun r6 Z13=>∃b:Bool,(r6=(.a (bA b) :RV))∧Qp (.tup [.one (.el (.osl id 0 1) 0 0),bA b]) Z13))))))))))))))
theorem a_m6 (c0 c1 c2 c3 c4:D)(c5 c6 c7 c8:Int)(k0 k1 k2 k3 k4 k5:D)(k6:Bool)(σ:Store)(Qp:RV→Store→Prop)(h:a_mm c0 c1 c2 c3 c4 c5 c6 c7 c8 k0 k1 k2 k3 k4 k5 k6 σ Qp) :DCalls prog j_4 [.agg [c0,c1,c2,c3,c4,iD c5,iD c6,iD c7,iD c8], .agg [k0,k1,k2,k3,k4,k5, .bool k6]] σ Qp:=
 a_a mixed (by kernel_rfl) Tryz.func104 a_jc (Eq.mp (by kernel_rfl) h)
def v_p:Ann:= { draws:= [(4,{ ord:= [0,1,2,3,4,5,6,7,8,9,10] })],loops:= [(2,{ mods:= [(18,s6)],keep:= [0,16,17] })] }
def y_c (d:D)(r:Int)(σ:Store)(Qp:RV→Store→Prop) :Prop:=
 (a_f d)∧∃s:D,∃i off:Nat,(d=(.el s i off:D))∧∃row:List D,(Row σ s i row)∧∃d1:D,((List.take 1 (List.drop ((off+0) +4) row)) =([d1]:List D))∧∃len:Nat,(Idx prog σ d1 6 len)∧((0:Int)≤r)∧(r < (len:Int))∧∃row1:List D,(Row σ d1 (Int.toNat r) row1)∧∃d2:D,((List.take 1 (List.drop 2 row1)) =([d2]:List D))∧∃len1:Nat,(Len d2 len1)∧∃I:Int→Store→Prop,∃μ:Int→Store→Nat,(I 0 σ)∧∀n:Int,∀Z,(I n Z)→a_b (decide (n < (len1:Int))) (∃len2:Nat,(Idx prog Z d2 3 len2)∧((0:Int)≤n)∧(n < (len2:Int))∧∃row2:List D,(Row Z d2 (Int.toNat n) row2)∧∃n1 n2 n3:Int,((List.take 3 row2) =([iD n1,iD n2,iD n3]:List D))∧(a_f d)∧∃s1:D,∃i1 off1:Nat,(d=(.el s1 i1 off1:D))∧∃row3:List D,(Row Z s1 i1 row3)∧∃d3:D,((List.take 1 (List.drop ((off1+0) +0) row3)) =([d3]:List D))∧∃len3:Nat,(Idx prog Z d3 3 len3)∧((0:Int)≤n1)∧(n1 < (len3:Int))∧∃row4:List D,(Row Z d3 (Int.toNat n1) row4)∧∃n4:Int,((List.take 1 (List.drop 2 row4)) =([iD n4]:List D))∧a_b (decide (n4 > 0)) ((a_f d)∧∃s2:D,∃i2 off2:Nat,(d=(.el s2 i2 off2:D))∧∃row5:List D,(Row Z s2 i2 row5)∧∃d4:D,((List.take 1 (List.drop ((off2+9) +4) row5)) =([d4]:List D))∧∃len4:Nat,(Idx prog Z d4 8 len4)∧((0:Int)≤n4)∧(n4 < (len4:Int))∧Qp (.a (.one (.el d4 (Int.toNat n4) 0))) Z) ((I (w64 (n+1)) Z)∧((μ (w64 (n+1)) Z) < (μ n Z)))) (Qp (.a (.one .nilp)) Z)
theorem y_l (d:D)(r:Int)(σ:Store)(Qp:RV→Store→Prop)(h:y_c d r σ Qp) :DCalls prog h_9 [.one d,iA r] σ Qp:=
 a_a mixed (by kernel_rfl) Tryz.func108 v_p (Eq.mp (by kernel_rfl) h)
def l_s:Ann:= { }
def m_v (s:D)(σ:Store)(Qp:RV→Store→Prop) :Prop:=
 ∃b:Bool,(i_d .sl s b)∧a_b (b != false) (Qp (.a (.one .nils)) σ) (Fw.newObj σ (.live d_l []) (fun id Z=>a_v prog Z d_l 64 (.osl id 0 0) s (fun d Z1=>Qp (.a (.one d)) Z1)))
theorem m_w (s:D)(σ:Store)(Qp:RV→Store→Prop)(h:m_v s σ Qp) :DCalls prog c_d [.one s] σ Qp:=
 a_a mixed (by kernel_rfl) Tryz.func112 l_s (Eq.mp (by kernel_rfl) h)
def w_b:Ann:= { draws:= [(1,{ ord:= [0,1,2,3,4,5,6,7,8,9,10] }),(5,{ ord:= [0,1,2,3,4,5,6,7,8,9,10,11,12,13,14,15,16] })] }
def y_8 (d l:D)(s:Int)(σ:Store)(Qp:RV→Store→Prop) :Prop:=
 (a_f d)∧∃s1:D,∃i off:Nat,(d=(.el s1 i off:D))∧∃row:List D,(Row σ s1 i row)∧∃d1:D,((List.take 1 (List.drop ((off+16) +0) row)) =([d1]:List D))∧∃len:Nat,(Idx prog σ d1 3 len)∧((0:Int)≤s)∧(s < (len:Int))∧∃row1:List D,(Row σ d1 (Int.toNat s) row1)∧∃n n1:Int,∃b:Bool,((List.take 3 row1) =([iD n,iD n1, .bool b]:List D))∧(a_f l)∧∃s2:D,∃i1 off1:Nat,(l=(.el s2 i1 off1:D))∧∃row2:List D,(Row σ s2 i1 row2)∧∃n2:Int,((List.take 1 (List.drop ((off1+4) +1) row2)) =([iD n2]:List D))∧(a_f l)∧∃s3:D,∃i2 off2:Nat,(l=(.el s3 i2 off2:D))∧∃row3:List D,(Row σ s3 i2 row3)∧∃n3:Int,((List.take 1 (List.drop (off2+2) row3)) =([iD n3]:List D))∧a_b (decide (n2 < n3)) ((a_f l)∧∃s4:D,∃i3 off3:Nat,(l=(.el s4 i3 off3:D))∧a_j [iD 0] σ s4 i3 (off3+7) (fun Z=>Qp (.tup []) Z)) ((a_f l)∧∃s4:D,∃i3 off3:Nat,(l=(.el s4 i3 off3:D))∧∃row4:List D,(Row σ s4 i3 row4)∧∃n4:Int,((List.take 1 (List.drop (off3+7) row4)) =([iD n4]:List D))∧a_b (n4 == 0) ((a_f d)∧∃s5:D,∃i4 off4:Nat,(d=(.el s5 i4 off4:D))∧∃row5:List D,(Row σ s5 i4 row5)∧∃n5:Int,((List.take 1 (List.drop (off4+20) row5)) =([iD n5]:List D))∧(a_f l)∧∃s6:D,∃i5 off5:Nat,(l=(.el s6 i5 off5:D))∧a_j [iD (w64 (n5+1))] σ s6 i5 (off5+7) (fun Z=>Qp (.tup []) Z)) (a_b b (a_b (n == 0) ((a_f l)∧∃s5:D,∃i4 off4:Nat,(l=(.el s5 i4 off4:D))∧∃row5:List D,(Row σ s5 i4 row5)∧∃n5:Int,((List.take 1 (List.drop (off4+7) row5)) =([iD n5]:List D))∧a_b (decide (n1≥n5)) (DCalls prog f_z [.one d,iA s,iA 0] σ (fun r Z=>(r=(.tup []:RV))∧(a_f l)∧∃s6:D,∃i5 off5:Nat,(l=(.el s6 i5 off5:D))∧a_j [iD 0] Z s6 i5 (off5+7) (fun Z1=>Qp (.tup []) Z1))) (Qp (.tup []) σ)) (Qp (.tup []) σ)) (Qp (.tup []) σ)))
theorem z_u (d l:D)(s:Int)(σ:Store)(Qp:RV→Store→Prop)(h:y_8 d l s σ Qp) :DCalls prog h_v [.one d, .one l,iA s] σ Qp:=
 a_a mixed (by kernel_rfl) Tryz.func116 w_b (Eq.mp (by kernel_rfl) h)
def q_j:Ann:= { esc:= [2,3],draws:= [(1,{ ord:= [0,1,2,3,4,5,6,7,8,10,9,11,12] }),(2,{ ord:= [0,1,2,3,4,5,6,7,8,9,10,11,12,13,14,15,16,17,18,19] }),(4,{ ord:= [0,1,2,3,4,7,5,6] }),(7,{ ord:= [0,1,2,3,4,5,6,7,8,9,10] }),(8,{ ord:= [0,1,2,3,4,5,6,7,8,9,10,11,12,13,14,15,16,17,18,19,20,21,22,23,24,25] }),(11,{ ord:= [0,1,2,3,4,7,5,6] }),(14,{ ord:= [0,1,2,3,4,5,6,7,8,9,10,11,12,13,14,15,16,17,18,19,20,21,22,23,24] }),(18,{ ord:= [0,1,2,3,4,5,6,7,8,9,10,11,12,13,14,15,16,17,18] }),(19,{ ord:= [0,1,2,3,4,5,6,7,8,9,10,11,12,13,14,15,16,17,18,19,20,21,22,23] })],loops:= [(5,{ mods:= [(52,s6)],keep:= [2,3,50,51] }),(12,{ mods:= [(99,s6)],keep:= [2,3,97,98] })],joins:= [(4,{ keep:= [2,3] })] }
def r_3 (x:D)(r:Int)(σ:Store)(Qp:RV→Store→Prop) :Prop:=
 Fw.newObj σ (.live a_a6 [[x]]) (fun id Z=>Fw.newObj Z (.live a_i [[iD r]]) (fun id1 Z1=>∃row:List D,(Row Z1 (.osl id 0 1) 0 row)∧∃d:D,((List.take 1 row) =([d]:List D))∧(a_f d)∧∃s:D,∃i off:Nat,(d=(.el s i off:D))∧∃row1:List D,(Row Z1 s i row1)∧∃d1:D,((List.take 1 (List.drop ((off+4) +4) row1)) =([d1]:List D))∧∃row2:List D,(Row Z1 (.osl id1 0 1) 0 row2)∧∃n:Int,((List.take 1 row2) =([iD n]:List D))∧∃len:Nat,(Idx prog Z1 d1 6 len)∧((0:Int)≤n)∧(n < (len:Int))∧∃row3:List D,(Row Z1 d1 (Int.toNat n) row3)∧∃d2:D,((List.take 1 (List.drop 4 row3)) =([d2]:List D))∧DCalls prog b_a [.one d2] Z1 (fun r1 Z2=>∃d3:D,(r1=(.a (.one d3) :RV))∧DCalls prog e_p [.one d3, .one (.fn e_y [] [(false,[.el (.osl id 0 1) 0 0]),(false,[.el (.osl id1 0 1) 0 0])])] Z2 (fun r2 Z3=>∃d4:D,(r2=(.a (.one d4) :RV))∧∀R:Store→Prop,(∀Z4,(∃row4:List D,(Row Z4 (.osl id 0 1) 0 row4)∧∃d5:D,((List.take 1 row4) =([d5]:List D))∧(a_f d5)∧∃s1:D,∃i1 off1:Nat,(d5=(.el s1 i1 off1:D))∧∃row5:List D,(Row Z4 s1 i1 row5)∧∃d6 d7 d8 d9 d10:D,∃n1 n2 n3 n4:Int,((List.take 9 (List.drop (off1+4) row5)) =([d6,d7,d8,d9,d10,iD n1,iD n2,iD n3,iD n4]:List D))∧∃row6:List D,(Row Z4 (.osl id1 0 1) 0 row6)∧∃n5:Int,((List.take 1 row6) =([iD n5]:List D))∧DCalls prog g_p [.agg [d6,d7,d8,d9,d10,iD n1,iD n2,iD n3,iD n4],iA n5] Z4 (fun r3 Z5=>∃d11:D,(r3=(.a (.one d11) :RV))∧∃len1:Nat,(Len d11 len1)∧∃I:Int→Store→Prop,∃μ:Int→Store→Nat,(I 0 Z5)∧∀n6:Int,∀Z6,(I n6 Z6)→a_b (decide (n6 < (len1:Int))) (∃len2:Nat,(Idx prog Z6 d11 2 len2)∧((0:Int)≤n6)∧(n6 < (len2:Int))∧∃row7:List D,(Row Z6 d11 (Int.toNat n6) row7)∧∃n7 n8:Int,((List.take 2 row7) =([iD n7,iD n8]:List D))∧∃row8:List D,(Row Z6 (.osl id 0 1) 0 row8)∧∃d12:D,((List.take 1 row8) =([d12]:List D))∧(a_f d12)∧∃s2:D,∃i2 off2:Nat,(d12=(.el s2 i2 off2:D))∧∃row9:List D,(Row Z6 s2 i2 row9)∧∃d13:D,((List.take 1 (List.drop ((off2+13) +2) row9)) =([d13]:List D))∧∃len3:Nat,(Idx prog Z6 d13 2 len3)∧((0:Int)≤n7)∧(n7 < (len3:Int))∧∃row10:List D,(Row Z6 d13 (Int.toNat n7) row10)∧∃n9 n10:Int,((List.take 2 row10) =([iD n9,iD n10]:List D))∧a_b (n9 != n8) (Qp (.a (bA false)) Z6) (∃row11:List D,(Row Z6 (.osl id 0 1) 0 row11)∧∃d14:D,((List.take 1 row11) =([d14]:List D))∧(a_f d14)∧∃s3:D,∃i3 off3:Nat,(d14=(.el s3 i3 off3:D))∧∃row12:List D,(Row Z6 s3 i3 row12)∧∃d15:D,((List.take 1 (List.drop (((off3+0) +0) +1) row12)) =([d15]:List D))∧∃len4:Nat,(Idx prog Z6 d15 3 len4)∧((0:Int)≤n7)∧(n7 < (len4:Int))∧∃row13:List D,(Row Z6 d15 (Int.toNat n7) row13)∧∃n11 n12:Int,∃b:Bool,((List.take 3 row13) =([iD n11,iD n12, .bool b]:List D))∧∃row14:List D,(Row Z6 (.osl id 0 1) 0 row14)∧∃d16:D,((List.take 1 row14) =([d16]:List D))∧(a_f d16)∧∃s4:D,∃i4 off4:Nat,(d16=(.el s4 i4 off4:D))∧∃row15:List D,(Row Z6 s4 i4 row15)∧∃n13:Int,((List.take 1 (List.drop (((off4+4) +5) +0) row15)) =([iD n13]:List D))∧DCalls prog h_r [.agg [iD n9,iD n10], .agg [iD n11,iD n12, .bool b],iA n13] Z6 (fun r4 Z7=>∃b1:Bool,(r4=(.a (bA b1) :RV))∧a_b (!b1) (Qp (.a (bA false)) Z7) ((I (w64 (n6+1)) Z7)∧((μ (w64 (n6+1)) Z7) < (μ n6 Z6)))))) (∃row7:List D,(Row Z6 (.osl id 0 1) 0 row7)∧∃d12:D,((List.take 1 row7) =([d12]:List D))∧(a_f d12)∧∃s2:D,∃i2 off2:Nat,(d12=(.el s2 i2 off2:D))∧∃row8:List D,(Row Z6 s2 i2 row8)∧∃d13 d14 d15 d16 d17:D,∃n7 n8 n9 n10:Int,((List.take 9 (List.drop (off2+4) row8)) =([d13,d14,d15,d16,d17,iD n7,iD n8,iD n9,iD n10]:List D))∧∃row9:List D,(Row Z6 (.osl id1 0 1) 0 row9)∧∃n11:Int,((List.take 1 row9) =([iD n11]:List D))∧DCalls prog e_a [.agg [d13,d14,d15,d16,d17,iD n7,iD n8,iD n9,iD n10],iA n11] Z6 (fun r4 Z7=>∃d18:D,(r4=(.a (.one d18) :RV))∧∃len2:Nat,(Len d18 len2)∧∃I1:Int→Store→Prop,∃μ1:Int→Store→Nat,(I1 0 Z7)∧∀n12:Int,∀Z8,(I1 n12 Z8)→a_b (decide (n12 < (len2:Int))) (∃len3:Nat,(Idx prog Z8 d18 1 len3)∧((0:Int)≤n12)∧(n12 < (len3:Int))∧∃row10:List D,(Row Z8 d18 (Int.toNat n12) row10)∧∃n13:Int,((List.take 1 row10) =([iD n13]:List D))∧∃row11:List D,(Row Z8 (.osl id 0 1) 0 row11)∧∃d19:D,((List.take 1 row11) =([d19]:List D))∧(a_f d19)∧∃s3:D,∃i3 off3:Nat,(d19=(.el s3 i3 off3:D))∧∃row12:List D,(Row Z8 s3 i3 row12)∧∃d20:D,((List.take 1 (List.drop ((off3+13) +3) row12)) =([d20]:List D))∧∃len4:Nat,(Idx prog Z8 d20 2 len4)∧((0:Int)≤n13)∧(n13 < (len4:Int))∧∃row13:List D,(Row Z8 d20 (Int.toNat n13) row13)∧∃n14 n15:Int,((List.take 2 row13) =([iD n14,iD n15]:List D))∧∃row14:List D,(Row Z8 (.osl id 0 1) 0 row14)∧∃d21:D,((List.take 1 row14) =([d21]:List D))∧(a_f d21)∧∃s4:D,∃i4 off4:Nat,(d21=(.el s4 i4 off4:D))∧∃row15:List D,(Row Z8 s4 i4 row15)∧∃d22:D,((List.take 1 (List.drop (((off4+0) +0) +2) row15)) =([d22]:List D))∧∃len5:Nat,(Idx prog Z8 d22 3 len5)∧((0:Int)≤n13)∧(n13 < (len5:Int))∧∃row16:List D,(Row Z8 d22 (Int.toNat n13) row16)∧∃n16 n17:Int,∃b:Bool,((List.take 3 row16) =([iD n16,iD n17, .bool b]:List D))∧∃row17:List D,(Row Z8 (.osl id 0 1) 0 row17)∧∃d23:D,((List.take 1 row17) =([d23]:List D))∧(a_f d23)∧∃s5:D,∃i5 off5:Nat,(d23=(.el s5 i5 off5:D))∧∃row18:List D,(Row Z8 s5 i5 row18)∧∃n18:Int,((List.take 1 (List.drop (((off5+4) +5) +0) row18)) =([iD n18]:List D))∧DCalls prog h_r [.agg [iD n14,iD n15], .agg [iD n16,iD n17, .bool b],iA n18] Z8 (fun r5 Z9=>∃b1:Bool,(r5=(.a (bA b1) :RV))∧a_b (!b1) (Qp (.a (bA false)) Z9) ((I1 (w64 (n12+1)) Z9)∧((μ1 (w64 (n12+1)) Z9) < (μ1 n12 Z8))))) (∃row10:List D,(Row Z8 (.osl id 0 1) 0 row10)∧∃d19:D,((List.take 1 row10) =([d19]:List D))∧∃row11:List D,(Row Z8 (.osl id1 0 1) 0 row11)∧∃n13:Int,((List.take 1 row11) =([iD n13]:List D))∧DCalls prog e_h [.one d19,iA n13] Z8 (fun r5 Z9=>∃d20:D,(r5=(.a (.one d20) :RV))∧∃row12:List D,(Row Z9 (.osl id 0 1) 0 row12)∧∃d21:D,((List.take 1 row12) =([d21]:List D))∧(a_f d21)∧∃s3:D,∃i3 off3:Nat,(d21=(.el s3 i3 off3:D))∧∃row13:List D,(Row Z9 s3 i3 row13)∧∃d22:D,((List.take 1 (List.drop (((off3+0) +0) +3) row13)) =([d22]:List D))∧∃row14:List D,(Row Z9 (.osl id 0 1) 0 row14)∧∃d23:D,((List.take 1 row14) =([d23]:List D))∧(a_f d23)∧∃s4:D,∃i4 off4:Nat,(d23=(.el s4 i4 off4:D))∧∃row15:List D,(Row Z9 s4 i4 row15)∧∃d24:D,((List.take 1 (List.drop ((off4+4) +4) row15)) =([d24]:List D))∧∃row16:List D,(Row Z9 (.osl id1 0 1) 0 row16)∧∃n14:Int,((List.take 1 row16) =([iD n14]:List D))∧∃len3:Nat,(Idx prog Z9 d24 6 len3)∧((0:Int)≤n14)∧(n14 < (len3:Int))∧∃row17:List D,(Row Z9 d24 (Int.toNat n14) row17)∧∃n15:Int,((List.take 1 row17) =([iD n15]:List D))∧∃len4:Nat,(Idx prog Z9 d22 3 len4)∧((0:Int)≤n15)∧(n15 < (len4:Int))∧∃row18:List D,(Row Z9 d22 (Int.toNat n15) row18)∧∃n16 n17:Int,∃b:Bool,((List.take 3 row18) =([iD n16,iD n17, .bool b]:List D))∧a_b b (a_b (n16 == 1) (∃b1:Bool,(i_d .pt d20 b1)∧a_b (b1 != false) (Qp (.a (bA true)) Z9) ((a_f d20)∧∃s5:D,∃i5 off5:Nat,(d20=(.el s5 i5 off5:D))∧∃row19:List D,(Row Z9 s5 i5 row19)∧∃n18:Int,((List.take 1 (List.drop ((off5+4) +2) row19)) =([iD n18]:List D))∧(a_f d20)∧∃s6:D,∃i6 off6:Nat,(d20=(.el s6 i6 off6:D))∧∃row20:List D,(Row Z9 s6 i6 row20)∧∃n19:Int,((List.take 1 (List.drop (off6+0) row20)) =([iD n19]:List D))∧Qp (.a (bA (n18 == n19))) Z9)) (Qp (.a (bA false)) Z9)) (Qp (.a (bA false)) Z9)))))))→R Z4)→∃row4:List D,(Row Z3 (.osl id 0 1) 0 row4)∧∃d5:D,((List.take 1 row4) =([d5]:List D))∧(a_f d5)∧∃s1:D,∃i1 off1:Nat,(d5=(.el s1 i1 off1:D))∧∃row5:List D,(Row Z3 (.osl id 0 1) 0 row5)∧∃d6:D,((List.take 1 row5) =([d6]:List D))∧(a_f d6)∧∃s2:D,∃i2 off2:Nat,(d6=(.el s2 i2 off2:D))∧∃row6:List D,(Row Z3 s2 i2 row6)∧∃d7:D,((List.take 1 (List.drop (off2+22) row6)) =([d7]:List D))∧∃row7:List D,(Row Z3 (.osl id1 0 1) 0 row7)∧∃n1:Int,((List.take 1 row7) =([iD n1]:List D))∧∃len1:Nat,(Idx prog Z3 d7 1 len1)∧((0:Int)≤n1)∧(n1 < (len1:Int))∧∃row8:List D,(Row Z3 d7 (Int.toNat n1) row8)∧∃d8:D,((List.take 1 row8) =([d8]:List D))∧DCalls prog c_h [.one (.el s1 i1 (off1+0)), .one d8] Z3 (fun r3 Z4=>∃b:Bool,(r3=(.a (bA b) :RV))∧a_b (!b) (Qp (.a (bA false)) Z4) (∃row9:List D,(Row Z4 (.osl id 0 1) 0 row9)∧∃d9:D,((List.take 1 row9) =([d9]:List D))∧(a_f d9)∧∃s3:D,∃i3 off3:Nat,(d9=(.el s3 i3 off3:D))∧DCalls prog c_h [.one (.el s3 i3 (off3+0)), .one d4] Z4 (fun r4 Z5=>∃b1:Bool,(r4=(.a (bA b1) :RV))∧a_b (!b1) (Qp (.a (bA false)) Z5) (R Z5))))))))
theorem s_n (x:D)(r:Int)(σ:Store)(Qp:RV→Store→Prop)(h:r_3 x r σ Qp) :DCalls prog d_5 [.one x,iA r] σ Qp:=
 a_a mixed (by kernel_rfl) Tryz.func120 q_j (Eq.mp (by kernel_rfl) h)
def r_z:Ann:= { }
def t_0 (t:D)(σ:Store)(Qp:RV→Store→Prop) :Prop:=
 (a_f t)∧∃s:D,∃i off:Nat,(t=(.el s i off:D))∧∃row:List D,(Row σ s i row)∧∃n:Int,((List.take 1 (List.drop (off+0) row)) =([iD n]:List D))∧Qp (.a (bA (n == 0))) σ
theorem u_a (t:D)(σ:Store)(Qp:RV→Store→Prop)(h:t_0 t σ Qp) :DCalls prog b_c [.one t] σ Qp:=
 a_a mixed (by kernel_rfl) Tryz.func124 r_z (Eq.mp (by kernel_rfl) h)
def p_r:Ann:= { cbs:= [1],loops:= [(3,{ mods:= [(13,s6)],keep:= [1,3,11,12] })] }
def q_s (p0 p1 p2 p3 p4:D)(p5 p6 p7 p8:Int)(σ:Store)(Qp:RV→Store→Prop) :Prop:=
 Fw.newObj σ (.mp 0 []) (fun id Z=>∃len:Nat,(Len p3 len)∧∃I:Int→Store→Prop,∃μ:Int→Store→Nat,(I 0 Z)∧∀n:Int,∀Z1,(I n Z1)→a_b (decide (n < (len:Int))) (∃len1:Nat,(Idx prog Z1 p3 1 len1)∧((0:Int)≤n)∧(n < (len1:Int))∧∃row:List D,(Row Z1 p3 (Int.toNat n) row)∧∃n1:Int,((List.take 1 row) =([iD n1]:List D))∧DCalls prog b_2 [.agg [p0,p1,p2,p3,p4,iD p5,iD p6,iD p7,iD p8],iA n1] Z1 (fun r Z2=>∃n2 n3 n4:Int,∃b:Bool,(r=(.tup [.agg [iD n2,iD n3,iD n4],bA b]:RV))∧∃r1:Option A,(j_b prog a_i Z2 (.omap id) (iA n1) r1)∧∃n5:Int,((Option.getD r1 (iA 0)) =(iA n5:A))∧MPut prog a_i Z2 (.omap id) (iA n1) (.one (iD (w64 (n5+1)))) (fun Z3=>a_b (!b) (Qp (.a (bA false)) Z3) (a_b (n4 != 0) (Qp (.a (bA false)) Z3) (∃r2:Option A,(j_b prog a_i Z3 (.omap id) (iA n1) r2)∧∃n6:Int,((Option.getD r2 (iA 0)) =(iA n6:A))∧a_b (decide (n6 > 1)) (Qp (.a (bA false)) Z3) ((I (w64 (n+1)) Z3)∧((μ (w64 (n+1)) Z3) < (μ n Z1)))))))) (∃len1:Nat,(Len p3 len1)∧Qp (.a (.one (.bool (decide ((len1:Int)≤4))))) Z1))
theorem q_p (p0 p1 p2 p3 p4:D)(p5 p6 p7 p8:Int)(σ:Store)(Qp:RV→Store→Prop)(h:q_s p0 p1 p2 p3 p4 p5 p6 p7 p8 σ Qp) :DCalls prog f_d [.agg [p0,p1,p2,p3,p4,iD p5,iD p6,iD p7,iD p8]] σ Qp:=
 a_a mixed (by kernel_rfl) Tryz.func128 p_r (Eq.mp (by kernel_rfl) h)
def a_fc:Ann:= { cbs:= [2] }
def a_iz (c0 c1 c2 c3 c4:D)(c5 c6 c7 c8 r:Int)(σ:Store)(Qp:RV→Store→Prop) :Prop:=
 a_b (decide (r < 0)) (Qp (.tup [.agg [iD 0,iD 0, .nils, .nils, .nils, .bool false],bA false]) σ) (∃len:Nat,(Len c4 len)∧a_b (decide (r≥(len:Int))) (Qp (.tup [.agg [iD 0,iD 0, .nils, .nils, .nils, .bool false],bA false]) σ) (∃len1:Nat,(Idx prog σ c4 6 len1)∧((0:Int)≤r)∧(r < (len1:Int))∧∃row:List D,(Row σ c4 (Int.toNat r) row)∧∃n n1:Int,∃d d1 d2:D,∃b:Bool,((List.take 6 row) =([iD n,iD n1,d,d1,d2, .bool b]:List D))∧Qp (.tup [.agg [iD n,iD n1,d,d1,d2, .bool b],bA true]) σ))
theorem a_js (c0 c1 c2 c3 c4:D)(c5 c6 c7 c8 r:Int)(σ:Store)(Qp:RV→Store→Prop)(h:a_iz c0 c1 c2 c3 c4 c5 c6 c7 c8 r σ Qp) :DCalls prog i_2 [.agg [c0,c1,c2,c3,c4,iD c5,iD c6,iD c7,iD c8],iA r] σ Qp:=
 a_a mixed (by kernel_rfl) Tryz.func132 a_fc (Eq.mp (by kernel_rfl) h)
def n_d:Ann:= { loops:= [(5,{ mods:= [(5,s6),(6,s6)],keep:= [0,1] })] }
def n_j (s del:D)(σ:Store)(Qp:RV→Store→Prop) :Prop:=
 DCalls prog e_z [.one s, .one del] σ (fun r Z=>∃n:Int,(r=(.a (iA n) :RV))∧a_b (n ==(-1)) (Qp (.a (.one s)) Z) (∃I:Int→Int→Store→Prop,∃μ:Int→Int→Store→Nat,(I n (w64 (n+1)) Z)∧∀n1 n2:Int,∀Z1,(I n1 n2 Z1)→∃len:Nat,(Len s len)∧a_b (decide (n2 < (len:Int))) (∃len1:Nat,(Idx prog Z1 s 1 len1)∧((0:Int)≤n2)∧(n2 < (len1:Int))∧∃row:List D,(Row Z1 s (Int.toNat n2) row)∧∃n3:Int,((List.take 1 row) =([iD n3]:List D))∧∃f:FuncId,∃a:List (Bool × (List D)),∃b:List (Bool × (List D)),∃as0':List A,∃bs:List A,(del=(.fn f a b:D))∧((f_v a) =(Option.some as0'))∧((f_v b) =(Option.some bs))∧DCalls prog f (HAppend.hAppend (HAppend.hAppend as0' [iA n3]) bs) Z1 (fun r1 Z2=>∃b1:Bool,(r1=(.a (bA b1) :RV))∧a_b (!b1) (∃len2:Nat,(Idx prog Z2 s 1 len2)∧((0:Int)≤n1)∧(n1 < (len2:Int))∧a_j [iD n3] Z2 s (Int.toNat n1) 0 (fun Z3=>(I (w64 (n1+1)) (w64 (n2+1)) Z3)∧((μ (w64 (n1+1)) (w64 (n2+1)) Z3) < (μ n1 n2 Z1)))) ((I n1 (w64 (n2+1)) Z2)∧((μ n1 (w64 (n2+1)) Z2) < (μ n1 n2 Z1))))) (∃len1:Nat,(IdxN prog Z1 s 1 len1)∧((0:Int)≤n1)∧(n1≤(len1:Int))∧∃rd:List (List D),(Fw.Rows prog Z1 a_i (g_i s (Int.toNat n1) len1) rd)∧(((rd=([]:List (List D)))∧∃len2:Nat,(IdxN prog Z1 s 1 len2)∧((0:Int)≤0)∧((0:Int)≤n1)∧(n1≤(len2:Int))∧Qp (.a (.one (g_i s 0 (Int.toNat n1)))) Z1)∨(∃id i0 len2:Nat,∃t:TypeId,∃rows:List (List D),((g_i s (Int.toNat n1) len1) =(.osl id i0 len2:D))∧((Z1 id) =(.live t rows:SO))∧∃len3:Nat,(IdxN prog (Store.set Z1 id (.live t (HAppend.hAppend (HAppend.hAppend (List.take i0 rows) (List.replicate len2 [iD 0])) (List.drop (i0+len2) rows)))) s 1 len3)∧((0:Int)≤0)∧((0:Int)≤n1)∧(n1≤(len3:Int))∧Qp (.a (.one (g_i s 0 (Int.toNat n1)))) (Store.set Z1 id (.live t (HAppend.hAppend (HAppend.hAppend (List.take i0 rows) (List.replicate len2 [iD 0])) (List.drop (i0+len2) rows)))))))))
theorem n_t (s del:D)(σ:Store)(Qp:RV→Store→Prop)(h:n_j s del σ Qp) :DCalls prog e_p [.one s, .one del] σ Qp:=
 a_a mixed (by kernel_rfl) Tryz.func141 n_d (Eq.mp (by kernel_rfl) h)
def r_0:Ann:= { draws:= [(1,{ ord:= [0,1,2,3,4,5,6,7,8,9,10,11,12,13,14,15,16,17,18],sp:= [15] })] }
def t_5 (e_:D)(section_:Int)(cycles:D)(σ:Store)(Qp:RV→Store→Prop) :Prop:=
 ∃pre:List A→Store→Prop,∃post:List A→Store→RV→Store→Prop,(h_k prog f_5 pre post)∧Fw.newObj σ (.live a_i [[iD section_]]) (fun id Z=>DCalls prog c_h [.one e_, .one (.osl id 0 1)] Z (fun r Z1=>∃b:Bool,(r=(.a (bA b) :RV))∧a_b b ((a_f e_)∧∃s:D,∃i off:Nat,(e_=(.el s i off:D))∧∃row:List D,(Row Z1 s i row)∧∃d:D,((List.take 1 (List.drop ((off+0) +0) row)) =([d]:List D))∧∃len:Nat,(Idx prog Z1 d 3 len)∧((0:Int)≤section_)∧(section_ < (len:Int))∧∃row1:List D,(Row Z1 d (Int.toNat section_) row1)∧∃n:Int,((List.take 1 (List.drop 1 row1)) =([iD n]:List D))∧(pre [.one cycles] Z1)∧∀r1:RV,∀s1:Store,(post [.one cycles] Z1 r1 s1)→∃n1:Int,(r1=(.a (iA n1) :RV))∧Qp (.a (.one (.bool (decide (n > n1))))) s1) (Qp (.a (bA false)) Z1)))
theorem t_p (e_:D)(section_:Int)(cycles:D)(σ:Store)(Qp:RV→Store→Prop)(h:t_5 e_ section_ cycles σ Qp) :DCalls prog g_k [.one e_,iA section_, .one cycles] σ Qp:=
 a_a mixed (by kernel_rfl) Tryz.func145 r_0 (Eq.mp (by kernel_rfl) h)
def u_i:Ann:= { }
def v_x (r:D)(skip n:Int)(σ:Store)(Qp:RV→Store→Prop) :Prop:=
 (a_f r)∧∃s:D,∃i off:Nat,(r=(.el s i off:D))∧∃row:List D,(Row σ s i row)∧∃s1:ByteArray,((List.take 1 (List.drop (off+1) row)) =([.str s1]:List D))∧a_b (decide (n > (w64 ((ByteArray.size s1:Int) - skip)))) ((a_f r)∧∃s2:D,∃i1 off1:Nat,(r=(.el s2 i1 off1:D))∧DCalls prog b_3 [.one (.el s2 i1 (off1+0)),iA 1] σ (fun r1 Z=>(r1=(.tup []:RV))∧(a_f r)∧∃s3:D,∃i2 off2:Nat,(r=(.el s3 i2 off2:D))∧DCalls prog b_c [.one (.el s3 i2 (off2+0))] Z (fun r2 Z1=>∃b:Bool,(r2=(.a (bA b) :RV))∧a_b (!b) (Qp (.a (.one (.str (ByteArray.mk (List.toArray []))))) Z1) ((a_f r)∧∃s4:D,∃i3 off3:Nat,(r=(.el s4 i3 off3:D))∧∃row1:List D,(Row Z1 s4 i3 row1)∧∃s5:ByteArray,((List.take 1 (List.drop (off3+1) row1)) =([.str s5]:List D))∧((0:Int)≤skip)∧(skip≤(w64 (skip+n)))∧((w64 (skip+n))≤(ByteArray.size s5:Int))∧(a_f r)∧∃s6:D,∃i4 off4:Nat,(r=(.el s6 i4 off4:D))∧∃row2:List D,(Row Z1 s6 i4 row2)∧∃s7:ByteArray,((List.take 1 (List.drop (off4+1) row2)) =([.str s7]:List D))∧((0:Int)≤(w64 (skip+n)))∧((w64 (skip+n))≤(ByteArray.size s7:Int))∧(a_f r)∧∃s8:D,∃i5 off5:Nat,(r=(.el s8 i5 off5:D))∧a_j [.str (ByteArray.extract s7 (Int.toNat (w64 (skip+n))) (ByteArray.size s7))] Z1 s8 i5 (off5+1) (fun Z2=>Qp (.a (.one (.str (ByteArray.extract s5 (Int.toNat skip) (Int.toNat (w64 (skip+n))))))) Z2))))) ((a_f r)∧∃s2:D,∃i1 off1:Nat,(r=(.el s2 i1 off1:D))∧DCalls prog b_c [.one (.el s2 i1 (off1+0))] σ (fun r1 Z=>∃b:Bool,(r1=(.a (bA b) :RV))∧a_b (!b) (Qp (.a (.one (.str (ByteArray.mk (List.toArray []))))) Z) ((a_f r)∧∃s3:D,∃i2 off2:Nat,(r=(.el s3 i2 off2:D))∧∃row1:List D,(Row Z s3 i2 row1)∧∃s4:ByteArray,((List.take 1 (List.drop (off2+1) row1)) =([.str s4]:List D))∧((0:Int)≤skip)∧(skip≤(w64 (skip+n)))∧((w64 (skip+n))≤(ByteArray.size s4:Int))∧(a_f r)∧∃s5:D,∃i3 off3:Nat,(r=(.el s5 i3 off3:D))∧∃row2:List D,(Row Z s5 i3 row2)∧∃s6:ByteArray,((List.take 1 (List.drop (off3+1) row2)) =([.str s6]:List D))∧((0:Int)≤(w64 (skip+n)))∧((w64 (skip+n))≤(ByteArray.size s6:Int))∧(a_f r)∧∃s7:D,∃i4 off4:Nat,(r=(.el s7 i4 off4:D))∧a_j [.str (ByteArray.extract s6 (Int.toNat (w64 (skip+n))) (ByteArray.size s6))] Z s7 i4 (off4+1) (fun Z1=>Qp (.a (.one (.str (ByteArray.extract s4 (Int.toNat skip) (Int.toNat (w64 (skip+n))))))) Z1))))
theorem x_b (r:D)(skip n:Int)(σ:Store)(Qp:RV→Store→Prop)(h:v_x r skip n σ Qp) :DCalls prog h_b [.one r,iA skip,iA n] σ Qp:=
 a_a mixed (by kernel_rfl) Tryz.func149 u_i (Eq.mp (by kernel_rfl) h)
def r_6:Ann:= { cbs:= [2] }
def t_e (p0 p1 p2 p3 p4:D)(p5 p6 p7 p8 s:Int)(σ:Store)(Qp:RV→Store→Prop) :Prop:=
 a_b (decide (s < 0)) (Qp (.tup [.agg [iD 0,iD 0,iD 0],bA false]) σ) (∃len:Nat,(Len p0 len)∧a_b (decide (s≥(len:Int))) (Qp (.tup [.agg [iD 0,iD 0,iD 0],bA false]) σ) (∃len1:Nat,(Idx prog σ p0 3 len1)∧((0:Int)≤s)∧(s < (len1:Int))∧∃row:List D,(Row σ p0 (Int.toNat s) row)∧∃n n1 n2:Int,((List.take 3 row) =([iD n,iD n1,iD n2]:List D))∧Qp (.tup [.agg [iD n,iD n1,iD n2],bA true]) σ))
theorem u_n (p0 p1 p2 p3 p4:D)(p5 p6 p7 p8 s:Int)(σ:Store)(Qp:RV→Store→Prop)(h:t_e p0 p1 p2 p3 p4 p5 p6 p7 p8 s σ Qp) :DCalls prog b_2 [.agg [p0,p1,p2,p3,p4,iD p5,iD p6,iD p7,iD p8],iA s] σ Qp:=
 a_a mixed (by kernel_rfl) Tryz.func153 r_6 (Eq.mp (by kernel_rfl) h)
def q_c:Ann:= { cbs:= [2,3] }
def s_c (p0 p1 p2 p3 p4:D)(p5 p6 p7 p8 r0 r1:Int)(r2 r3 r4:D)(r5:Bool)(σ:Store)(Qp:RV→Store→Prop) :Prop:=
 DCalls prog c_y [.agg [p0,p1,p2,p3,p4,iD p5,iD p6,iD p7,iD p8],iA r0] σ (fun r Z=>∃n n1:Int,∃b:Bool,(r=(.tup [.agg [iD n,iD n1],bA b]:RV))∧a_b (!b) (Qp (.a (iA (-1))) Z) (Qp (.a (iA n)) Z))
theorem r_g (p0 p1 p2 p3 p4:D)(p5 p6 p7 p8 r0 r1:Int)(r2 r3 r4:D)(r5:Bool)(σ:Store)(Qp:RV→Store→Prop)(h:s_c p0 p1 p2 p3 p4 p5 p6 p7 p8 r0 r1 r2 r3 r4 r5 σ Qp) :DCalls prog c_1 [.agg [p0,p1,p2,p3,p4,iD p5,iD p6,iD p7,iD p8], .agg [iD r0,iD r1,r2,r3,r4, .bool r5]] σ Qp:=
 a_a mixed (by kernel_rfl) Tryz.func157 q_c (Eq.mp (by kernel_rfl) h)
def y_d:Ann:= { loops:= [(5,{ mods:= [(3,s6),(4,s6)],keep:= [0] })],joins:= [(3,{ keep:= [0] })] }
def z_3 (x:D)(σ:Store)(Qp:RV→Store→Prop) :Prop:=
 ∀R:Store→Prop,(∀Z,(∃len:Nat,(Idx prog Z x 1 len)∧((0:Int)≤0)∧((0:Int) < (len:Int))∧∃row:List D,(Row Z x 0 row)∧∃n:Int,((List.take 1 row) =([iD n]:List D))∧∃I:Int→Int→Store→Prop,∃μ:Int→Int→Store→Nat,(I n 1 Z)∧∀n1 n2:Int,∀Z1,(I n1 n2 Z1)→∃len1:Nat,(Len x len1)∧a_b (decide (n2 < (len1:Int))) (∃len2:Nat,(Idx prog Z1 x 1 len2)∧((0:Int)≤n2)∧(n2 < (len2:Int))∧∃row1:List D,(Row Z1 x (Int.toNat n2) row1)∧∃n3:Int,((List.take 1 row1) =([iD n3]:List D))∧(I (ite (n3 > n1) n3 n1) (w64 (n2+1)) Z1)∧((μ (ite (n3 > n1) n3 n1) (w64 (n2+1)) Z1) < (μ n1 n2 Z1))) (Qp (.a (iA n1)) Z1))→R Z)→∃len:Nat,(Len x len)∧a_b (decide ((len:Int) < 1)) False (R σ)
theorem a_bu (x:D)(σ:Store)(Qp:RV→Store→Prop)(h:z_3 x σ Qp) :DCalls prog f_5 [.one x] σ Qp:=
 a_a mixed (by kernel_rfl) Tryz.func167 y_d (Eq.mp (by kernel_rfl) h)
def j_5:Ann:= { }
def k_3 (s f:D)(σ:Store)(Qp:RV→Store→Prop) :Prop:=
 DCalls prog e_o [.one s, .one f] σ (fun r Z=>∃n:Int,(r=(.a (iA n) :RV))∧Qp (.a (.one (.bool (decide (n≥0))))) Z)
theorem k_o (s f:D)(σ:Store)(Qp:RV→Store→Prop)(h:k_3 s f σ Qp) :DCalls prog c_o [.one s, .one f] σ Qp:=
 a_a mixed (by kernel_rfl) Tryz.func171 j_5 (Eq.mp (by kernel_rfl) h)
def m_x:Ann:= { loops:= [(2,{ mods:= [(8,s6)],keep:= [0,1,7] })] }
def n_v (s f:D)(σ:Store)(Qp:RV→Store→Prop) :Prop:=
 ∃len:Nat,(Len s len)∧∃I:Int→Store→Prop,∃μ:Int→Store→Nat,(I 0 σ)∧∀n:Int,∀Z,(I n Z)→a_b (decide (n < (len:Int))) (∃len1:Nat,(Idx prog Z s 2 len1)∧((0:Int)≤n)∧(n < (len1:Int))∧∃row:List D,(Row Z s (Int.toNat n) row)∧∃n1 n2:Int,((List.take 2 row) =([iD n1,iD n2]:List D))∧∃f1:FuncId,∃a:List (Bool × (List D)),∃b:List (Bool × (List D)),∃as0':List A,∃bs:List A,(f=(.fn f1 a b:D))∧((f_v a) =(Option.some as0'))∧((f_v b) =(Option.some bs))∧DCalls prog f1 (HAppend.hAppend (HAppend.hAppend as0' [.agg [iD n1,iD n2]]) bs) Z (fun r Z1=>∃b1:Bool,(r=(.a (bA b1) :RV))∧a_b b1 (Qp (.a (iA n)) Z1) ((I (w64 (n+1)) Z1)∧((μ (w64 (n+1)) Z1) < (μ n Z))))) (Qp (.a (iA (-1))) Z)
theorem n_p (s f:D)(σ:Store)(Qp:RV→Store→Prop)(h:n_v s f σ Qp) :DCalls prog e_o [.one s, .one f] σ Qp:=
 a_a mixed (by kernel_rfl) Tryz.func186 m_x (Eq.mp (by kernel_rfl) h)
end Go.Proofs.YtdmfnhbmhkgemaaGreat
end
section
set_option maxRecDepth 100000
namespace Go.Proofs.YtdmfnhbmhkgemaaGreat
open Go.Fw Go.Proofs
open Go.Proofs.Tryz (prog)
def a_o1:Ann:= { cbs:= [3,5],draws:= [(21,{ ord:= [0,1,2,3,4,5],nb:= [0] }),(29,{ ord:= [0,1,2,3,4,5,6],nb:= [0] }),(31,{ ord:= [0,1,2,3,4,5,6,7,8,9],nb:= [0] })],joins:= [(31,{ mods:= [(4,SlotSh.bx [Sh.any,Sh.any,Sh.any,Sh.any,Sh.any,Sh.any,Sh.bool]),(6,SlotSh.bx [Sh.any,Sh.any,Sh.any,Sh.any,Sh.any,Sh.any,Sh.bool]),(8,SlotSh.bx [Sh.any,Sh.any,Sh.any,Sh.any,Sh.any,Sh.any,Sh.bool]),(9,s6)],keep:= [] }),(19,{ mods:= [(4,SlotSh.bx [Sh.any,Sh.any,Sh.any,Sh.any,Sh.any,Sh.any,Sh.bool])],keep:= [3,5,6,8] })] }
def a_sk (c0 c1 c2 c3 c4:D)(c5 c6 c7 c8:Int)(k0 k1 k2 k3 k4 k5:D)(k6:Bool)(o0 o1 o2 o3 o4 o5 o6:Int)(o7 o8 o9 o10:D)(o11:Bool)(σ:Store)(Qp:RV→Store→Prop) :Prop:=
 ∀R:D→D→D→D→D→D→Bool→D→D→D→D→D→D→Bool→D→D→D→D→D→D→Bool→Int→Store→Prop,(∀d d1 d2 d3 d4 d5:D,∀b:Bool,∀d6 d7 d8 d9 d10 d11:D,∀b1:Bool,∀d12 d13 d14 d15 d16 d17:D,∀b2:Bool,∀n:Int,∀Z,(a_b (n == 0) (Qp (.tup [.agg [d12,d13,d14,d15,d16,d17, .bool b2],bA true]) Z) (DCalls prog j_y [.agg [d12,d13,d14,d15,d16,d17, .bool b2], .agg [d,d1,d2,d3,d4,d5, .bool b]] Z (fun r Z1=>∃b3:Bool,(r=(.a (bA b3) :RV))∧Qp (.tup [.agg [d12,d13,d14,d15,d16,d17, .bool b2],bA b3]) Z1)))→R d d1 d2 d3 d4 d5 b d6 d7 d8 d9 d10 d11 b1 d12 d13 d14 d15 d16 d17 b2 n Z)→a_b (o0 == 1) (DCalls prog j_n [.agg [c0,c1,c2,c3,c4,iD c5,iD c6,iD c7,iD c8], .agg [k0,k1,k2,k3,k4,k5, .bool k6],iA o1,iA o2] σ (fun r Z=>∃d d1 d2 d3 d4 d5:D,∃b:Bool,∃n:Int,(r=(.tup [.agg [d,d1,d2,d3,d4,d5, .bool b],iA n]:RV))∧R k0 k1 k2 k3 k4 k5 k6 .nils .nils .nils .nils .nils .nils false d d1 d2 d3 d4 d5 b n Z)) (a_b (o0 == 2) (DCalls prog l_g [.agg [c0,c1,c2,c3,c4,iD c5,iD c6,iD c7,iD c8], .agg [k0,k1,k2,k3,k4,k5, .bool k6],iA o1,iA o2] σ (fun r Z=>∃d d1 d2 d3 d4 d5:D,∃b:Bool,∃n:Int,(r=(.tup [.agg [d,d1,d2,d3,d4,d5, .bool b],iA n]:RV))∧R k0 k1 k2 k3 k4 k5 k6 .nils .nils .nils .nils .nils .nils false d d1 d2 d3 d4 d5 b n Z)) (a_b (o0 == 3) (DCalls prog j_f [.agg [c0,c1,c2,c3,c4,iD c5,iD c6,iD c7,iD c8], .agg [k0,k1,k2,k3,k4,k5, .bool k6],iA o2] σ (fun r Z=>∃d d1 d2 d3 d4 d5:D,∃b:Bool,∃n:Int,(r=(.tup [.agg [d,d1,d2,d3,d4,d5, .bool b],iA n]:RV))∧R k0 k1 k2 k3 k4 k5 k6 .nils .nils .nils .nils .nils .nils false d d1 d2 d3 d4 d5 b n Z)) (a_b (o0 == 4) (DCalls prog j_q [.agg [c0,c1,c2,c3,c4,iD c5,iD c6,iD c7,iD c8], .agg [k0,k1,k2,k3,k4,k5, .bool k6],iA o1,iA o2] σ (fun r Z=>∃d d1 d2 d3 d4 d5:D,∃b:Bool,∃n:Int,(r=(.tup [.agg [d,d1,d2,d3,d4,d5, .bool b],iA n]:RV))∧R k0 k1 k2 k3 k4 k5 k6 .nils .nils .nils .nils .nils .nils false d d1 d2 d3 d4 d5 b n Z)) (a_b (o0 == 5) (DCalls prog n_b [.agg [c0,c1,c2,c3,c4,iD c5,iD c6,iD c7,iD c8], .agg [k0,k1,k2,k3,k4,k5, .bool k6],iA o1,iA o2] σ (fun r Z=>∃d d1 d2 d3 d4 d5:D,∃b:Bool,∃n:Int,(r=(.tup [.agg [d,d1,d2,d3,d4,d5, .bool b],iA n]:RV))∧R k0 k1 k2 k3 k4 k5 k6 .nils .nils .nils .nils .nils .nils false d d1 d2 d3 d4 d5 b n Z)) (a_b (o0 == 6) (DCalls prog m_1 [.agg [c0,c1,c2,c3,c4,iD c5,iD c6,iD c7,iD c8], .agg [k0,k1,k2,k3,k4,k5, .bool k6],iA o1,iA o2,iA o3] σ (fun r Z=>∃d d1 d2 d3 d4 d5:D,∃b:Bool,∃n:Int,(r=(.tup [.agg [d,d1,d2,d3,d4,d5, .bool b],iA n]:RV))∧R k0 k1 k2 k3 k4 k5 k6 .nils .nils .nils .nils .nils .nils false d d1 d2 d3 d4 d5 b n Z)) (a_b (o0 == 7) (DCalls prog o_2 [.agg [c0,c1,c2,c3,c4,iD c5,iD c6,iD c7,iD c8], .agg [k0,k1,k2,k3,k4,k5, .bool k6],iA o2, .agg [iD o4,iD o5,iD o6]] σ (fun r Z=>∃d d1 d2 d3 d4 d5:D,∃b:Bool,∃n:Int,(r=(.tup [.agg [d,d1,d2,d3,d4,d5, .bool b],iA n]:RV))∧R k0 k1 k2 k3 k4 k5 k6 .nils .nils .nils .nils .nils .nils false d d1 d2 d3 d4 d5 b n Z)) (a_b (o0 == 8) (∀R1:D→D→D→D→D→D→Bool→Store→Prop,(∀d d1 d2 d3 d4 d5:D,∀b:Bool,∀Z,(DCalls prog o_r [.agg [c0,c1,c2,c3,c4,iD c5,iD c6,iD c7,iD c8], .agg [d,d1,d2,d3,d4,d5, .bool b], .agg [o7,o8,o9,o10],iA o1] Z (fun r Z1=>∃d6 d7 d8 d9 d10 d11:D,∃b1:Bool,∃n:Int,(r=(.tup [.agg [d6,d7,d8,d9,d10,d11, .bool b1],iA n]:RV))∧a_b (n != 0) (DCalls prog j_y [.agg [d6,d7,d8,d9,d10,d11, .bool b1], .agg [d,d1,d2,d3,d4,d5, .bool b]] Z1 (fun r1 Z2=>∃b2:Bool,(r1=(.a (bA b2) :RV))∧Qp (.tup [.agg [d,d1,d2,d3,d4,d5, .bool b],bA b2]) Z2)) (DCalls prog g_t [.agg [c0,c1,c2,c3,c4,iD c5,iD c6,iD c7,iD c8], .agg [d6,d7,d8,d9,d10,d11, .bool b1], .agg [o7,o8,o9,o10],iA o1] Z1 (fun r1 Z2=>∃d12 d13 d14 d15 d16 d17:D,∃b2:Bool,∃d18:D,∃n1:Int,(r1=(.tup [.agg [d12,d13,d14,d15,d16,d17, .bool b2], .one d18,iA n1]:RV))∧R d d1 d2 d3 d4 d5 b .nils .nils .nils .nils .nils .nils false d12 d13 d14 d15 d16 d17 b2 n1 Z2))))→R1 d d1 d2 d3 d4 d5 b Z)→a_b k6 ((([[.nils, .nils, .nils, .nils, .nils, .nils, .bool false],[k0,k1,k2,k3,k4,k5, .bool k6]]:List (List D)) =([[.nils, .nils, .nils, .nils, .nils, .nils, .bool false],[k0,k1,k2,k3,k4,k5, .bool k6]]:List (List D)))∧R1 k0 k1 k2 k3 k4 k5 (!o11) σ) ((([[.nils, .nils, .nils, .nils, .nils, .nils, .bool false],[k0,k1,k2,k3,k4,k5, .bool k6]]:List (List D)) =([[.nils, .nils, .nils, .nils, .nils, .nils, .bool false],[k0,k1,k2,k3,k4,k5, .bool k6]]:List (List D)))∧R1 k0 k1 k2 k3 k4 k5 false σ)) (a_b (o0 == 9) (DCalls prog p_l [.agg [k0,k1,k2,k3,k4,k5, .bool k6]] σ (fun r Z=>∃s:ByteArray,∃n:Int,(r=(.tup [.one (.str s),iA n]:RV))∧a_b (n != 0) (Qp (.tup [.agg [k0,k1,k2,k3,k4,k5, .bool k6],bA false]) Z) (DCalls prog o_y [.agg [c0,c1,c2,c3,c4,iD c5,iD c6,iD c7,iD c8],iA o1, .one (.str s)] Z (fun r1 Z1=>∃d d1 d2 d3 d4 d5:D,∃b:Bool,∃n1:Int,(r1=(.tup [.agg [d,d1,d2,d3,d4,d5, .bool b],iA n1]:RV))∧a_b (n1 != 0) (DCalls prog b_x [iA o1] Z1 (fun r2 Z2=>∃b1:Bool,(r2=(.a (bA b1) :RV))∧Qp (.tup [.agg [k0,k1,k2,k3,k4,k5, .bool k6],bA (!b1)]) Z2)) (Qp (.tup [.agg [d,d1,d2,d3,d4,d5, .bool b],bA true]) Z1))))) (R k0 k1 k2 k3 k4 k5 k6 .nils .nils .nils .nils .nils .nils false k0 k1 k2 k3 k4 k5 k6 0 σ)))))))))
theorem a_rk (c0 c1 c2 c3 c4:D)(c5 c6 c7 c8:Int)(k0 k1 k2 k3 k4 k5:D)(k6:Bool)(o0 o1 o2 o3 o4 o5 o6:Int)(o7 o8 o9 o10:D)(o11:Bool)(σ:Store)(Qp:RV→Store→Prop)(h:a_sk c0 c1 c2 c3 c4 c5 c6 c7 c8 k0 k1 k2 k3 k4 k5 k6 o0 o1 o2 o3 o4 o5 o6 o7 o8 o9 o10 o11 σ Qp) :DCalls prog w_s [.agg [c0,c1,c2,c3,c4,iD c5,iD c6,iD c7,iD c8], .agg [k0,k1,k2,k3,k4,k5, .bool k6], .agg [iD o0,iD o1,iD o2,iD o3,iD o4,iD o5,iD o6,o7,o8,o9,o10, .bool o11]] σ Qp:=
 a_a mixed (by kernel_rfl) Tryz.func8 a_o1 (Eq.mp (by kernel_rfl) h)
def v_o:Ann:= { cbs:= [1],loops:= [(2,{ mods:= [(8,s6)],keep:= [1,6,7] })] }
def y_n (c0 c1 c2 c3 c4:D)(c5 c6 c7 c8:Int)(σ:Store)(Qp:RV→Store→Prop) :Prop:=
 ∃len:Nat,(Len c3 len)∧∃I:Int→Store→Prop,∃μ:Int→Store→Nat,(I 0 σ)∧∀n:Int,∀Z,(I n Z)→a_b (decide (n < (len:Int))) (∃len1:Nat,(Idx prog Z c3 1 len1)∧((0:Int)≤n)∧(n < (len1:Int))∧∃row:List D,(Row Z c3 (Int.toNat n) row)∧∃n1:Int,((List.take 1 row) =([iD n1]:List D))∧DCalls prog f_9 [.agg [c0,c1,c2,c3,c4,iD c5,iD c6,iD c7,iD c8],iA n1] Z (fun r Z1=>∃n2:Int,(r=(.a (iA n2) :RV))∧a_b (decide (n2 < 0)) (Qp (.a (bA false)) Z1) (∃len2:Nat,(Idx prog Z1 c0 3 len2)∧((0:Int)≤n1)∧(n1 < (len2:Int))∧∃row1:List D,(Row Z1 c0 (Int.toNat n1) row1)∧∃n3:Int,((List.take 1 (List.drop 2 row1)) =([iD n3]:List D))∧a_b (n3 != 0) (Qp (.a (bA false)) Z1) (∃len3:Nat,(IdxN prog Z1 c3 1 len3)∧((0:Int)≤0)∧((0:Int)≤n)∧(n≤(len3:Int))∧DCalls prog d_w [.one (g_i c3 0 (Int.toNat n)),iA n1] Z1 (fun r1 Z2=>∃b:Bool,(r1=(.a (bA b) :RV))∧a_b b (Qp (.a (bA false)) Z2) ((I (w64 (n+1)) Z2)∧((μ (w64 (n+1)) Z2) < (μ n Z)))))))) (∃len1:Nat,(Len c3 len1)∧Qp (.a (.one (.bool (decide ((len1:Int)≤4))))) Z)
theorem x_l (c0 c1 c2 c3 c4:D)(c5 c6 c7 c8:Int)(σ:Store)(Qp:RV→Store→Prop)(h:y_n c0 c1 c2 c3 c4 c5 c6 c7 c8 σ Qp) :DCalls prog h_7 [.agg [c0,c1,c2,c3,c4,iD c5,iD c6,iD c7,iD c8]] σ Qp:=
 a_a mixed (by kernel_rfl) Tryz.func16 v_o (Eq.mp (by kernel_rfl) h)
def x_u:Ann:= { cbs:= [2],draws:= [(1,{ ord:= [0,1,2,3,4,5,6,7,8,9,10,11,12,13,14,15,16,17,18,19,20,21,22,23,24,25,26,27,28,29] }),(3,{ ord:= [0,1,2,3,4,5,6,7,8,9,10,11] })] }
def a_av (c0 c1 c2 c3 c4:D)(c5 c6 c7 c8 r:Int)(σ:Store)(Qp:RV→Store→Prop) :Prop:=
 a_b (decide (r < 0)) (Qp (.a (iA (-1))) σ) (∃len:Nat,(Len c4 len)∧a_b (decide (r≥(len:Int))) (Qp (.a (iA (-1))) σ) (∃len1:Nat,(Idx prog σ c4 6 len1)∧((0:Int)≤r)∧(r < (len1:Int))∧∃row:List D,(Row σ c4 (Int.toNat r) row)∧∃n:Int,((List.take 1 row) =([iD n]:List D))∧a_b (decide (n < 0)) (Qp (.a (iA (-1))) σ) (∃len2:Nat,(Idx prog σ c4 6 len2)∧((0:Int)≤r)∧(r < (len2:Int))∧∃row1:List D,(Row σ c4 (Int.toNat r) row1)∧∃n1:Int,((List.take 1 row1) =([iD n1]:List D))∧∃len3:Nat,(Len c2 len3)∧a_b (decide (n1≥(len3:Int))) (Qp (.a (iA (-1))) σ) (∃len4:Nat,(Idx prog σ c4 6 len4)∧((0:Int)≤r)∧(r < (len4:Int))∧∃row2:List D,(Row σ c4 (Int.toNat r) row2)∧∃n2:Int,((List.take 1 row2) =([iD n2]:List D))∧∃len5:Nat,(Idx prog σ c2 2 len5)∧((0:Int)≤n2)∧(n2 < (len5:Int))∧∃row3:List D,(Row σ c2 (Int.toNat n2) row3)∧∃n3:Int,((List.take 1 row3) =([iD n3]:List D))∧Qp (.a (iA n3)) σ))))
theorem z_8 (c0 c1 c2 c3 c4:D)(c5 c6 c7 c8 r:Int)(σ:Store)(Qp:RV→Store→Prop)(h:a_av c0 c1 c2 c3 c4 c5 c6 c7 c8 r σ Qp) :DCalls prog i_r [.agg [c0,c1,c2,c3,c4,iD c5,iD c6,iD c7,iD c8],iA r] σ Qp:=
 a_a mixed (by kernel_rfl) Tryz.func20 x_u (Eq.mp (by kernel_rfl) h)
def a_dk:Ann:= { cbs:= [2],loops:= [(3,{ mods:= [(16,s6)],keep:= [1,2,6,14,15] })] }
def a_gz (c0 c1 c2 c3 c4:D)(c5 c6 c7 c8 now:Int)(σ:Store)(Qp:RV→Store→Prop) :Prop:=
 ∃len:Nat,(Len c0 len)∧((0:Int)≤(len:Int))∧((len:Int)≤(len:Int))∧(((16:Int) * (len:Int))≤(2 ^ 48))∧Fw.newObj σ (.live b_d (List.replicate (Int.toNat (len:Int)) [iD 0,iD 0])) (fun id Z=>∃len1:Nat,(Len c0 len1)∧∃I:Int→Store→Prop,∃μ:Int→Store→Nat,(I 0 Z)∧∀n:Int,∀Z1,(I n Z1)→a_b (decide (n < (len1:Int))) (∃len2:Nat,(Idx prog Z1 c0 3 len2)∧((0:Int)≤n)∧(n < (len2:Int))∧∃row:List D,(Row Z1 c0 (Int.toNat n) row)∧∃n1 n2 n3:Int,((List.take 3 row) =([iD n1,iD n2,iD n3]:List D))∧a_b (n1 == 1) (DCalls prog m_o [iA now] Z1 (fun r Z2=>∃n4 n5:Int,(r=(.a (.agg [iD n4,iD n5]) :RV))∧∃len3:Nat,(Idx prog Z2 (.osl id 0 (Int.toNat (len:Int))) 2 len3)∧((0:Int)≤n)∧(n < (len3:Int))∧a_j [iD n4,iD n5] Z2 (.osl id 0 (Int.toNat (len:Int))) (Int.toNat n) 0 (fun Z3=>(I (w64 (n+1)) Z3)∧((μ (w64 (n+1)) Z3) < (μ n Z1))))) ((I (w64 (n+1)) Z1)∧((μ (w64 (n+1)) Z1) < (μ n Z1)))) (Fw.newObj Z1 (.live b_d [[iD 1,iD now]]) (fun id1 Z2=>∃len2:Nat,(Len c3 len2)∧DCalls prog f_f [.one (.osl id1 0 1),iA (len2:Int)] Z2 (fun r Z3=>∃d:D,(r=(.a (.one d) :RV))∧Qp (.tup [.one (.osl id 0 (Int.toNat (len:Int))), .one d]) Z3))))
theorem a_gu (c0 c1 c2 c3 c4:D)(c5 c6 c7 c8 now:Int)(σ:Store)(Qp:RV→Store→Prop)(h:a_gz c0 c1 c2 c3 c4 c5 c6 c7 c8 now σ Qp) :DCalls prog l_i [.agg [c0,c1,c2,c3,c4,iD c5,iD c6,iD c7,iD c8],iA now] σ Qp:=
 a_a mixed (by kernel_rfl) Tryz.func24 a_dk (Eq.mp (by kernel_rfl) h)
def a_ar:Ann:= { cbs:= [4,5] }
def a_c2 (c0 c1 c2 c3 c4:D)(c5 c6 c7 c8:Int)(k0 k1 k2 k3 k4 k5:D)(k6:Bool)(now r:Int)(σ:Store)(Qp:RV→Store→Prop) :Prop:=
 Fw.newObj σ (.live a_i [[iD 5]]) (fun id Z=>DCalls prog h_1 [.agg [c0,c1,c2,c3,c4,iD c5,iD c6,iD c7,iD c8], .agg [k0,k1,k2,k3,k4,k5, .bool k6],iA r,iA 4,iA now, .one (.osl id 0 1)] Z (fun r1 Z1=>∃d d1 d2 d3 d4 d5:D,∃b:Bool,∃n:Int,(r1=(.tup [.agg [d,d1,d2,d3,d4,d5, .bool b],iA n]:RV))∧Qp (.tup [.agg [d,d1,d2,d3,d4,d5, .bool b],iA n]) Z1))
theorem a_dq (c0 c1 c2 c3 c4:D)(c5 c6 c7 c8:Int)(k0 k1 k2 k3 k4 k5:D)(k6:Bool)(now r:Int)(σ:Store)(Qp:RV→Store→Prop)(h:a_c2 c0 c1 c2 c3 c4 c5 c6 c7 c8 k0 k1 k2 k3 k4 k5 k6 now r σ Qp) :DCalls prog j_q [.agg [c0,c1,c2,c3,c4,iD c5,iD c6,iD c7,iD c8], .agg [k0,k1,k2,k3,k4,k5, .bool k6],iA now,iA r] σ Qp:=
 a_a mixed (by kernel_rfl) Tryz.func28 a_ar (Eq.mp (by kernel_rfl) h)
def a_h8:Ann:= { cbs:= [4,5,6],loops:= [(7,{ mods:= [(11,s6)],keep:= [4,8,10] })],joins:= [(5,{ mods:= [(8,SlotSh.bx [Sh.any,Sh.any,Sh.any,Sh.any,Sh.any,Sh.any,Sh.bool])],keep:= [3,4,5,6] }),(2,{ mods:= [(13,SlotSh.one (Sh.bool))],keep:= [3,4,5,6,8] })] }
def a_k6 (c0 c1 c2 c3 c4:D)(c5 c6 c7 c8:Int)(k0 k1 k2 k3 k4 k5:D)(k6:Bool)(v0 v1 v2 v3:D)(now:Int)(σ:Store)(Qp:RV→Store→Prop) :Prop:=
 ∀R:D→D→D→D→D→D→Bool→Store→Prop,(∀d d1 d2 d3 d4 d5:D,∀b:Bool,∀Z,(DCalls prog b_y [.agg [c0,c1,c2,c3,c4,iD c5,iD c6,iD c7,iD c8], .agg [k0,k1,k2,k3,k4,k5, .bool k6], .agg [v0,v1,v2,v3],iA now] Z (fun r Z1=>∃d6:D,(r=(.a (.one d6) :RV))∧∃I:Int→Store→Prop,∃μ:Int→Store→Nat,(I 1 Z1)∧∀n:Int,∀Z2,(I n Z2)→a_b (decide (n≤3)) (DCalls prog g_y [.agg [c0,c1,c2,c3,c4,iD c5,iD c6,iD c7,iD c8],iA n] Z2 (fun r1 Z3=>∃n1:Int,(r1=(.a (iA n1) :RV))∧a_b (decide (n1≥0)) ((a_f d6)∧∃s:D,∃i off:Nat,(d6=(.el s i off:D))∧∃row:List D,(Row Z3 s i row)∧∃d7:D,((List.take 1 (List.drop ((off+0) +4) row)) =([d7]:List D))∧∃len:Nat,(Idx prog Z3 d7 8 len)∧((0:Int)≤n)∧(n < (len:Int))∧DCalls prog h_6 [.one d6, .one (.el d7 (Int.toNat n) 0),iA n1] Z3 (fun r2 Z4=>(r2=(.tup []:RV))∧(([[d,d1,d2,d3,d4,d5, .bool b]]:List (List D)) =([[d,d1,d2,d3,d4,d5, .bool b]]:List (List D)))∧(I (w64 (n+1)) Z4)∧((μ (w64 (n+1)) Z4) < (μ n Z2)))) ((([[d,d1,d2,d3,d4,d5, .bool b]]:List (List D)) =([[d,d1,d2,d3,d4,d5, .bool b]]:List (List D)))∧(I (w64 (n+1)) Z3)∧((μ (w64 (n+1)) Z3) < (μ n Z2))))) ((a_f d6)∧∃s:D,∃i off:Nat,(d6=(.el s i off:D))∧∃row:List D,(Row Z2 s i row)∧∃d7 d8 d9 d10 d11 d12:D,∃b1:Bool,((List.take 7 (List.drop (off+0) row)) =([d7,d8,d9,d10,d11,d12, .bool b1]:List D))∧Qp (.tup [.agg [d7,d8,d9,d10,d11,d12, .bool b1],iA 0]) Z2)))→R d d1 d2 d3 d4 d5 b Z)→∀R1:Bool→Store→Prop,(∀b:Bool,∀Z,(a_b b (DCalls prog b_y [.agg [c0,c1,c2,c3,c4,iD c5,iD c6,iD c7,iD c8], .agg [k0,k1,k2,k3,k4,k5, .bool k6], .agg [.nils, .nils, .nils, .nils],iA 0] Z (fun r Z1=>∃d:D,(r=(.a (.one d) :RV))∧(a_f d)∧∃s:D,∃i off:Nat,(d=(.el s i off:D))∧∃row:List D,(Row Z1 s i row)∧∃d1 d2 d3 d4 d5 d6:D,∃b1:Bool,((List.take 7 (List.drop (off+0) row)) =([d1,d2,d3,d4,d5,d6, .bool b1]:List D))∧Qp (.tup [.agg [d1,d2,d3,d4,d5,d6, .bool b1],iA 21]) Z1)) (a_b (decide (now < 0)) (DCalls prog b_y [.agg [c0,c1,c2,c3,c4,iD c5,iD c6,iD c7,iD c8], .agg [k0,k1,k2,k3,k4,k5, .bool k6], .agg [.nils, .nils, .nils, .nils],iA 0] Z (fun r Z1=>∃d:D,(r=(.a (.one d) :RV))∧(a_f d)∧∃s:D,∃i off:Nat,(d=(.el s i off:D))∧∃row:List D,(Row Z1 s i row)∧∃d1 d2 d3 d4 d5 d6:D,∃b1:Bool,((List.take 7 (List.drop (off+0) row)) =([d1,d2,d3,d4,d5,d6, .bool b1]:List D))∧Qp (.tup [.agg [d1,d2,d3,d4,d5,d6, .bool b1],iA 32]) Z1)) (a_b (decide (now > 4294967295)) (DCalls prog b_y [.agg [c0,c1,c2,c3,c4,iD c5,iD c6,iD c7,iD c8], .agg [k0,k1,k2,k3,k4,k5, .bool k6], .agg [.nils, .nils, .nils, .nils],iA 0] Z (fun r Z1=>∃d:D,(r=(.a (.one d) :RV))∧(a_f d)∧∃s:D,∃i off:Nat,(d=(.el s i off:D))∧∃row:List D,(Row Z1 s i row)∧∃d1 d2 d3 d4 d5 d6:D,∃b1:Bool,((List.take 7 (List.drop (off+0) row)) =([d1,d2,d3,d4,d5,d6, .bool b1]:List D))∧Qp (.tup [.agg [d1,d2,d3,d4,d5,d6, .bool b1],iA 32]) Z1)) (R .nils .nils .nils .nils .nils .nils false Z))))→R1 b Z)→DCalls prog d_8 [.agg [c0,c1,c2,c3,c4,iD c5,iD c6,iD c7,iD c8], .agg [k0,k1,k2,k3,k4,k5, .bool k6]] σ (fun r Z=>∃b:Bool,(r=(.a (bA b) :RV))∧a_b (!b) ((([[.nils, .nils, .nils, .nils, .nils, .nils, .bool false]]:List (List D)) =([[.nils, .nils, .nils, .nils, .nils, .nils, .bool false]]:List (List D)))∧R1 true Z) (∃len:Nat,(Len v0 len)∧∃len1:Nat,(Len c0 len1)∧a_b ((len:Int) !=(len1:Int)) ((([[.nils, .nils, .nils, .nils, .nils, .nils, .bool false]]:List (List D)) =([[.nils, .nils, .nils, .nils, .nils, .nils, .bool false]]:List (List D)))∧R1 true Z) (∃len2:Nat,(Len v1 len2)∧∃len3:Nat,(Len c0 len3)∧a_b ((len2:Int) !=(len3:Int)) ((([[.nils, .nils, .nils, .nils, .nils, .nils, .bool false]]:List (List D)) =([[.nils, .nils, .nils, .nils, .nils, .nils, .bool false]]:List (List D)))∧R1 true Z) (∃len4:Nat,(Len v2 len4)∧∃len5:Nat,(Len c3 len5)∧a_b ((len4:Int) !=(len5:Int)) ((([[.nils, .nils, .nils, .nils, .nils, .nils, .bool false]]:List (List D)) =([[.nils, .nils, .nils, .nils, .nils, .nils, .bool false]]:List (List D)))∧R1 true Z) (∃len6:Nat,(Len v3 len6)∧∃len7:Nat,(Len c2 len7)∧(([[.nils, .nils, .nils, .nils, .nils, .nils, .bool false]]:List (List D)) =([[.nils, .nils, .nils, .nils, .nils, .nils, .bool false]]:List (List D)))∧R1 ((len6:Int) !=(len7:Int)) Z)))))
theorem a_m1 (c0 c1 c2 c3 c4:D)(c5 c6 c7 c8:Int)(k0 k1 k2 k3 k4 k5:D)(k6:Bool)(v0 v1 v2 v3:D)(now:Int)(σ:Store)(Qp:RV→Store→Prop)(h:a_k6 c0 c1 c2 c3 c4 c5 c6 c7 c8 k0 k1 k2 k3 k4 k5 k6 v0 v1 v2 v3 now σ Qp) :DCalls prog o_r [.agg [c0,c1,c2,c3,c4,iD c5,iD c6,iD c7,iD c8], .agg [k0,k1,k2,k3,k4,k5, .bool k6], .agg [v0,v1,v2,v3],iA now] σ Qp:=
 a_a mixed (by kernel_rfl) Tryz.func32 a_h8 (Eq.mp (by kernel_rfl) h)
def a_jn:Ann:= { cbs:= [3],draws:= [(6,{ ord:= [0,1,2,3,4,5,6,7],nb:= [1] }),(11,{ ord:= [0,1,2,3,5,4,6,7,8,9],nb:= [1] })],loops:= [(4,{ mods:= [(25,s6)],keep:= [1,3,6,8,9,24] }),(9,{ mods:= [(39,s6)],keep:= [1,3,6,8,9,38] }),(14,{ mods:= [(56,s6)],keep:= [1,3,6,8,9,55] }),(23,{ mods:= [(95,s6)],keep:= [6,8,93,94] })],joins:= [(22,{ mods:= [(6,SlotSh.bx [Sh.any,Sh.any,Sh.any,Sh.any,Sh.any,Sh.any,Sh.bool])],keep:= [8] })] }
def a_nj (c0 c1 c2 c3 c4:D)(c5 c6 c7 c8 now:Int)(text:ByteArray)(σ:Store)(Qp:RV→Store→Prop) :Prop:=
 DCalls prog h_i [.agg [c0,c1,c2,c3,c4,iD c5,iD c6,iD c7,iD c8],iA now] σ (fun r Z=>∃d d1 d2 d3 d4 d5:D,∃b:Bool,(r=(.a (.agg [d,d1,d2,d3,d4,d5, .bool b]) :RV))∧DCalls prog q_v [.one (.str text)] Z (fun r1 Z1=>∃d6:D,(r1=(.a (.one d6) :RV))∧∃len:Nat,(Len d len)∧∃I:Int→Store→Prop,∃μ:Int→Store→Nat,(I 0 Z1)∧∀n:Int,∀Z2,(I n Z2)→a_b (decide (n < (len:Int))) (DCalls prog g_5 [.one d6] Z2 (fun r2 Z3=>∃n1:Int,(r2=(.a (iA n1) :RV))∧∃len1:Nat,(Idx prog Z3 d 1 len1)∧((0:Int)≤n)∧(n < (len1:Int))∧a_j [iD (w64 (n1 - 2))] Z3 d (Int.toNat n) 0 (fun Z4=>(([[.nils, .nils, .nils, .nils, .nils, .nils, .bool false],[d,d1,d2,d3,d4,d5, .bool b]]:List (List D)) =([[.nils, .nils, .nils, .nils, .nils, .nils, .bool false],[d,d1,d2,d3,d4,d5, .bool b]]:List (List D)))∧(I (w64 (n+1)) Z4)∧((μ (w64 (n+1)) Z4) < (μ n Z2))))) (∃len1:Nat,(Len d1 len1)∧∃I1:Int→Store→Prop,∃μ1:Int→Store→Nat,(I1 0 Z2)∧∀n1:Int,∀Z3,(I1 n1 Z3)→a_b (decide (n1 < (len1:Int))) (DCalls prog e_x [.one d6] Z3 (fun r2 Z4=>∃n2:Int,(r2=(.a (iA n2) :RV))∧DCalls prog e_x [.one d6] Z4 (fun r3 Z5=>∃n3:Int,(r3=(.a (iA n3) :RV))∧∃len2:Nat,(Idx prog Z5 d1 4 len2)∧((0:Int)≤n1)∧(n1 < (len2:Int))∧a_j [iD n2,iD 0,iD n3,iD 0] Z5 d1 (Int.toNat n1) 0 (fun Z6=>(([[.nils, .nils, .nils, .nils, .nils, .nils, .bool false],[d,d1,d2,d3,d4,d5, .bool b]]:List (List D)) =([[.nils, .nils, .nils, .nils, .nils, .nils, .bool false],[d,d1,d2,d3,d4,d5, .bool b]]:List (List D)))∧(I1 (w64 (n1+1)) Z6)∧((μ1 (w64 (n1+1)) Z6) < (μ1 n1 Z3)))))) (∃len2:Nat,(IdxN prog Z3 d4 8 len2)∧((0:Int)≤1)∧((1:Int)≤(len2:Int))∧∃len3:Nat,(Len (g_i d4 1 len2) len3)∧∃I2:Int→Store→Prop,∃μ2:Int→Store→Nat,(I2 0 Z3)∧∀n2:Int,∀Z4,(I2 n2 Z4)→a_b (decide (n2 < (len3:Int))) (DCalls prog d_v [.one d6] Z4 (fun r2 Z5=>∃n3:Int,(r2=(.a (iA n3) :RV))∧DCalls prog d_v [.one d6] Z5 (fun r3 Z6=>∃n4:Int,(r3=(.a (iA n4) :RV))∧DCalls prog d_v [.one d6] Z6 (fun r4 Z7=>∃n5:Int,(r4=(.a (iA n5) :RV))∧∃len4:Nat,(Idx prog Z7 d4 8 len4)∧((0:Int)≤(w64 (n2+1)))∧((w64 (n2+1)) < (len4:Int))∧a_j [iD n3,iD n4,iD n5,iD n5,iD 0,iD 0,iD 0,iD 0] Z7 d4 (Int.toNat (w64 (n2+1))) 0 (fun Z8=>(([[.nils, .nils, .nils, .nils, .nils, .nils, .bool false],[d,d1,d2,d3,d4,d5, .bool b]]:List (List D)) =([[.nils, .nils, .nils, .nils, .nils, .nils, .bool false],[d,d1,d2,d3,d4,d5, .bool b]]:List (List D)))∧(I2 (w64 (n2+1)) Z8)∧((μ2 (w64 (n2+1)) Z8) < (μ2 n2 Z4))))))) (∀R:D→D→D→D→D→D→Bool→Store→Prop,(∀d7 d8 d9 d10 d11 d12:D,∀b1:Bool,∀Z5,(∃len4:Nat,(Len d1 len4)∧∃I3:Int→Store→Prop,∃μ3:Int→Store→Nat,(I3 0 Z5)∧∀n3:Int,∀Z6,(I3 n3 Z6)→a_b (decide (n3 < (len4:Int))) (∃len5:Nat,(Idx prog Z6 d1 4 len5)∧((0:Int)≤n3)∧(n3 < (len5:Int))∧∃row:List D,(Row Z6 d1 (Int.toNat n3) row)∧∃n4 n5 n6 n7:Int,((List.take 4 row) =([iD n4,iD n5,iD n6,iD n7]:List D))∧a_b (n4 == 0) (∃len6:Nat,(Idx prog Z6 d1 4 len6)∧((0:Int)≤n3)∧(n3 < (len6:Int))∧a_j [iD 0,iD 0,iD 0,iD 0] Z6 d1 (Int.toNat n3) 0 (fun Z7=>(([[d7,d8,d9,d10,d11,d12, .bool b1],[d,d1,d2,d3,d4,d5, .bool b]]:List (List D)) =([[d7,d8,d9,d10,d11,d12, .bool b1],[d,d1,d2,d3,d4,d5, .bool b]]:List (List D)))∧(I3 (w64 (n3+1)) Z7)∧((μ3 (w64 (n3+1)) Z7) < (μ3 n3 Z6)))) (∃len6:Nat,(Idx prog Z6 d1 4 len6)∧((0:Int)≤n3)∧(n3 < (len6:Int))∧a_j [iD 5,iD 0,iD n6,iD 0] Z6 d1 (Int.toNat n3) 0 (fun Z7=>(([[d7,d8,d9,d10,d11,d12, .bool b1],[d,d1,d2,d3,d4,d5, .bool b]]:List (List D)) =([[d7,d8,d9,d10,d11,d12, .bool b1],[d,d1,d2,d3,d4,d5, .bool b]]:List (List D)))∧(I3 (w64 (n3+1)) Z7)∧((μ3 (w64 (n3+1)) Z7) < (μ3 n3 Z6))))) (Qp (.tup [.agg [d,d1,d2,d3,d4,d5, .bool false],iA 0]) Z6))→R d7 d8 d9 d10 d11 d12 b1 Z5)→DCalls prog h_4 [.one d6] Z4 (fun r2 Z5=>∃n3:Int,(r2=(.a (iA n3) :RV))∧a_b (n3 != 0) (Qp (.tup [.agg [.nils, .nils, .nils, .nils, .nils, .nils, .bool false],iA 3]) Z5) (DCalls prog d_8 [.agg [c0,c1,c2,c3,c4,iD c5,iD c6,iD c7,iD c8], .agg [d,d1,d2,d3,d4,d5, .bool b]] Z5 (fun r3 Z6=>∃b1:Bool,(r3=(.a (bA b1) :RV))∧a_b (!b1) (Qp (.tup [.agg [.nils, .nils, .nils, .nils, .nils, .nils, .bool false],iA 3]) Z6) (Fw.newObj Z6 (.live a_i [[iD now]]) (fun id Z7=>DCalls prog d_m [iA 0, .one (.osl id 0 1)] Z7 (fun r4 Z8=>∃b2:Bool,(r4=(.a (bA b2) :RV))∧a_b (!b2) (Qp (.tup [.agg [.nils, .nils, .nils, .nils, .nils, .nils, .bool false],iA 3]) Z8) ((([[d,d1,d2,d3,d4,d5, .bool b]]:List (List D)) =([[d,d1,d2,d3,d4,d5, .bool b]]:List (List D)))∧R .nils .nils .nils .nils .nils .nils false Z8))))))))))))
theorem a_m5 (c0 c1 c2 c3 c4:D)(c5 c6 c7 c8 now:Int)(text:ByteArray)(σ:Store)(Qp:RV→Store→Prop)(h:a_nj c0 c1 c2 c3 c4 c5 c6 c7 c8 now text σ Qp) :DCalls prog o_y [.agg [c0,c1,c2,c3,c4,iD c5,iD c6,iD c7,iD c8],iA now, .one (.str text)] σ Qp:=
 a_a mixed (by kernel_rfl) Tryz.func36 a_jn (Eq.mp (by kernel_rfl) h)
def a_c4:Ann:= { cbs:= [3,4],draws:= [(7,{ ord:= [0,1,2,3,4,5,6,7,8,9,10,11,12,13,14,15,16,17,18,19,20] })],loops:= [(5,{ mods:= [(7,SlotSh.one (Sh.any)),(22,s6)],keep:= [2,4,20,21] })] }
def a_fo (c0 c1 c2 c3 c4:D)(c5 c6 c7 c8:Int)(k0 k1 k2 k3 k4 k5:D)(k6:Bool)(r:Int)(σ:Store)(Qp:RV→Store→Prop) :Prop:=
 ∃len:Nat,(Idx prog σ k1 4 len)∧((0:Int)≤r)∧(r < (len:Int))∧∃row:List D,(Row σ k1 (Int.toNat r) row)∧∃n:Int,((List.take 1 row) =([iD n]:List D))∧DCalls prog j_t [iA n] σ (fun r1 Z=>∃b:Bool,(r1=(.a (bA b) :RV))∧a_b (!b) (Qp (.a (.one .nils)) Z) (DCalls prog m_g [.agg [c0,c1,c2,c3,c4,iD c5,iD c6,iD c7,iD c8],iA r] Z (fun r2 Z1=>∃d:D,(r2=(.a (.one d) :RV))∧∃len1:Nat,(Len d len1)∧∃I:D→Int→Store→Prop,∃μ:D→Int→Store→Nat,(I .nils 0 Z1)∧∀d1:D,∀n1:Int,∀Z2,(I d1 n1 Z2)→a_b (decide (n1 < (len1:Int))) (∃len2:Nat,(Idx prog Z2 d 2 len2)∧((0:Int)≤n1)∧(n1 < (len2:Int))∧∃row1:List D,(Row Z2 d (Int.toNat n1) row1)∧∃n2 n3:Int,((List.take 2 row1) =([iD n2,iD n3]:List D))∧∃len3:Nat,(Idx prog Z2 k0 1 len3)∧((0:Int)≤n2)∧(n2 < (len3:Int))∧∃row2:List D,(Row Z2 k0 (Int.toNat n2) row2)∧∃n4:Int,((List.take 1 row2) =([iD n4]:List D))∧a_b (n4 ==(w64 (r+1))) (∃len4:Nat,(Idx prog Z2 k2 2 len4)∧((0:Int)≤n2)∧(n2 < (len4:Int))∧∃row3:List D,(Row Z2 k2 (Int.toNat n2) row3)∧∃n5:Int,((List.take 1 row3) =([iD n5]:List D))∧a_b (n5 != n3) (Fw.newObj Z2 (.live a_q [[iD 4,iD r,iD n2]]) (fun id Z3=>a_v prog Z3 a_q 24 d1 (.osl id 0 1) (fun d2 Z4=>(I d2 (w64 (n1+1)) Z4)∧((μ d2 (w64 (n1+1)) Z4) < (μ d1 n1 Z2))))) ((I d1 (w64 (n1+1)) Z2)∧((μ d1 (w64 (n1+1)) Z2) < (μ d1 n1 Z2)))) ((I d1 (w64 (n1+1)) Z2)∧((μ d1 (w64 (n1+1)) Z2) < (μ d1 n1 Z2)))) (Qp (.a (.one d1)) Z2))))
theorem a_e7 (c0 c1 c2 c3 c4:D)(c5 c6 c7 c8:Int)(k0 k1 k2 k3 k4 k5:D)(k6:Bool)(r:Int)(σ:Store)(Qp:RV→Store→Prop)(h:a_fo c0 c1 c2 c3 c4 c5 c6 c7 c8 k0 k1 k2 k3 k4 k5 k6 r σ Qp) :DCalls prog k_0 [.agg [c0,c1,c2,c3,c4,iD c5,iD c6,iD c7,iD c8], .agg [k0,k1,k2,k3,k4,k5, .bool k6],iA r] σ Qp:=
 a_a mixed (by kernel_rfl) Tryz.func40 a_c4 (Eq.mp (by kernel_rfl) h)
def u_q:Ann:= { }
def w_3 (j:D)(wrong:Bool)(kind route section_:Int)(σ:Store)(Qp:RV→Store→Prop) :Prop:=
 a_b wrong ((a_f j)∧∃s:D,∃i off:Nat,(j=(.el s i off:D))∧∃row:List D,(Row σ s i row)∧∃d:D,((List.take 1 (List.drop (off+16) row)) =([d]:List D))∧Fw.newObj σ (.live a_q [[iD kind,iD route,iD section_]]) (fun id Z=>a_v prog Z a_q 24 d (.osl id 0 1) (fun d1 Z1=>(a_f j)∧∃s1:D,∃i1 off1:Nat,(j=(.el s1 i1 off1:D))∧a_j [d1] Z1 s1 i1 (off1+16) (fun Z2=>Qp (.tup []) Z2)))) (Qp (.tup []) σ)
theorem w_u (j:D)(wrong:Bool)(kind route section_:Int)(σ:Store)(Qp:RV→Store→Prop)(h:w_3 j wrong kind route section_ σ Qp) :DCalls prog a_s [.one j,bA wrong,iA kind,iA route,iA section_] σ Qp:=
 a_a mixed (by kernel_rfl) Tryz.func44 u_q (Eq.mp (by kernel_rfl) h)
def r_2:Ann:= { esc:= [2],draws:= [(5,{ ord:= [0,1,2,3,4,5,6,7,8,9] })],loops:= [(1,{ mods:= [(2,sA)],keep:= [0] })] }
def t_w (j:D)(σ:Store)(Qp:RV→Store→Prop) :Prop:=
 Fw.newObj σ (.live a_i [[iD 0]]) (fun id Z=>a_j [iD 1] Z (.osl id 0 1) 0 0 (fun Z1=>∃I:D→Store→Prop,∃μ:D→Store→Nat,(I (.el (.osl id 0 1) 0 0) Z1)∧∀d:D,∀Z2,(I d Z2)→∃s:D,∃i off:Nat,(d=(.el s i off:D))∧∃row:List D,(Row Z2 s i row)∧∃n:Int,((List.take 1 (List.drop off row)) =([iD n]:List D))∧a_b (decide (n≤3)) ((a_f j)∧∃s1:D,∃i1 off1:Nat,(j=(.el s1 i1 off1:D))∧∃row1:List D,(Row Z2 s1 i1 row1)∧∃d1:D,((List.take 1 (List.drop ((off1+7) +0) row1)) =([d1]:List D))∧DCalls prog c_m [.one d1, .one (.fn i_c [] [(false,[d])])] Z2 (fun r Z3=>∃n1:Int,(r=(.a (iA n1) :RV))∧a_b (decide (n1 < 0)) (∃s2:D,∃i2 off2:Nat,(d=(.el s2 i2 off2:D))∧∃row2:List D,(Row Z3 s2 i2 row2)∧∃n2:Int,((List.take 1 (List.drop off2 row2)) =([iD n2]:List D))∧Fw.newObj Z3 (.live a_i [[iD 0]]) (fun id1 Z4=>a_j [iD n2] Z4 (.osl id1 0 1) 0 0 (fun Z5=>∃row3:List D,(Row Z5 (.osl id1 0 1) 0 row3)∧∃n3:Int,((List.take 1 row3) =([iD n3]:List D))∧a_j [iD (w64 (n3+1))] Z5 (.osl id1 0 1) 0 0 (fun Z6=>(I (.el (.osl id1 0 1) 0 0) Z6)∧((μ (.el (.osl id1 0 1) 0 0) Z6) < (μ d Z2)))))) ((a_f j)∧∃s2:D,∃i2 off2:Nat,(j=(.el s2 i2 off2:D))∧∃row2:List D,(Row Z3 s2 i2 row2)∧∃d2:D,((List.take 1 (List.drop ((off2+0) +4) row2)) =([d2]:List D))∧∃s3:D,∃i3 off3:Nat,(d=(.el s3 i3 off3:D))∧∃row3:List D,(Row Z3 s3 i3 row3)∧∃n2:Int,((List.take 1 (List.drop off3 row3)) =([iD n2]:List D))∧∃len:Nat,(Idx prog Z3 d2 8 len)∧((0:Int)≤n2)∧(n2 < (len:Int))∧∃row4:List D,(Row Z3 d2 (Int.toNat n2) row4)∧∃n3 n4 n5 n6 n7 n8 n9 n10:Int,((List.take 8 row4) =([iD n3,iD n4,iD n5,iD n6,iD n7,iD n8,iD n9,iD n10]:List D))∧a_b (decide (n4 > n3)) (DCalls prog a_s [.one j,bA true,iA 6,iA (-1),iA n1] Z3 (fun r1 Z4=>(r1=(.tup []:RV))∧∃s4:D,∃i4 off4:Nat,(d=(.el s4 i4 off4:D))∧∃row5:List D,(Row Z4 s4 i4 row5)∧∃n11:Int,((List.take 1 (List.drop off4 row5)) =([iD n11]:List D))∧Fw.newObj Z4 (.live a_i [[iD 0]]) (fun id1 Z5=>a_j [iD n11] Z5 (.osl id1 0 1) 0 0 (fun Z6=>∃row6:List D,(Row Z6 (.osl id1 0 1) 0 row6)∧∃n12:Int,((List.take 1 row6) =([iD n12]:List D))∧a_j [iD (w64 (n12+1))] Z6 (.osl id1 0 1) 0 0 (fun Z7=>(I (.el (.osl id1 0 1) 0 0) Z7)∧((μ (.el (.osl id1 0 1) 0 0) Z7) < (μ d Z2))))))) (a_b (decide (n6 > n5)) (DCalls prog a_s [.one j,bA true,iA 6,iA (-1),iA n1] Z3 (fun r1 Z4=>(r1=(.tup []:RV))∧∃s4:D,∃i4 off4:Nat,(d=(.el s4 i4 off4:D))∧∃row5:List D,(Row Z4 s4 i4 row5)∧∃n11:Int,((List.take 1 (List.drop off4 row5)) =([iD n11]:List D))∧Fw.newObj Z4 (.live a_i [[iD 0]]) (fun id1 Z5=>a_j [iD n11] Z5 (.osl id1 0 1) 0 0 (fun Z6=>∃row6:List D,(Row Z6 (.osl id1 0 1) 0 row6)∧∃n12:Int,((List.take 1 row6) =([iD n12]:List D))∧a_j [iD (w64 (n12+1))] Z6 (.osl id1 0 1) 0 0 (fun Z7=>(I (.el (.osl id1 0 1) 0 0) Z7)∧((μ (.el (.osl id1 0 1) 0 0) Z7) < (μ d Z2))))))) ((a_f j)∧∃s4:D,∃i4 off4:Nat,(j=(.el s4 i4 off4:D))∧∃row5:List D,(Row Z3 s4 i4 row5)∧∃d3:D,((List.take 1 (List.drop ((off4+0) +0) row5)) =([d3]:List D))∧∃len1:Nat,(Idx prog Z3 d3 1 len1)∧((0:Int)≤n1)∧(n1 < (len1:Int))∧∃row6:List D,(Row Z3 d3 (Int.toNat n1) row6)∧∃n11:Int,((List.take 1 row6) =([iD n11]:List D))∧a_b (n11 ==(-2)) (DCalls prog a_s [.one j,bA (n3 != n4),iA 6,iA (-1),iA n1] Z3 (fun r1 Z4=>(r1=(.tup []:RV))∧∃s5:D,∃i5 off5:Nat,(d=(.el s5 i5 off5:D))∧∃row7:List D,(Row Z4 s5 i5 row7)∧∃n12:Int,((List.take 1 (List.drop off5 row7)) =([iD n12]:List D))∧Fw.newObj Z4 (.live a_i [[iD 0]]) (fun id1 Z5=>a_j [iD n12] Z5 (.osl id1 0 1) 0 0 (fun Z6=>∃row8:List D,(Row Z6 (.osl id1 0 1) 0 row8)∧∃n13:Int,((List.take 1 row8) =([iD n13]:List D))∧a_j [iD (w64 (n13+1))] Z6 (.osl id1 0 1) 0 0 (fun Z7=>(I (.el (.osl id1 0 1) 0 0) Z7)∧((μ (.el (.osl id1 0 1) 0 0) Z7) < (μ d Z2))))))) (DCalls prog a_s [.one j,bA false,iA 6,iA (-1),iA n1] Z3 (fun r1 Z4=>(r1=(.tup []:RV))∧∃s5:D,∃i5 off5:Nat,(d=(.el s5 i5 off5:D))∧∃row7:List D,(Row Z4 s5 i5 row7)∧∃n12:Int,((List.take 1 (List.drop off5 row7)) =([iD n12]:List D))∧Fw.newObj Z4 (.live a_i [[iD 0]]) (fun id1 Z5=>a_j [iD n12] Z5 (.osl id1 0 1) 0 0 (fun Z6=>∃row8:List D,(Row Z6 (.osl id1 0 1) 0 row8)∧∃n13:Int,((List.take 1 row8) =([iD n13]:List D))∧a_j [iD (w64 (n13+1))] Z6 (.osl id1 0 1) 0 0 (fun Z7=>(I (.el (.osl id1 0 1) 0 0) Z7)∧((μ (.el (.osl id1 0 1) 0 0) Z7) < (μ d Z2)))))))))))) (Qp (.tup []) Z2)))
theorem t_9 (j:D)(σ:Store)(Qp:RV→Store→Prop)(h:t_w j σ Qp) :DCalls prog e_j [.one j] σ Qp:=
 a_a mixed (by kernel_rfl) Tryz.func48 r_2 (Eq.mp (by kernel_rfl) h)
def a_hx:Ann:= { draws:= [(5,{ ord:= [0,1,2,3,4,5,6] }),(7,{ ord:= [0,1,2,3,4,5,6] })],loops:= [(2,{ mods:= [(13,s6)],keep:= [1,2,11,12] })] }
def a_m3 (joints:D)(section_ end_:Int)(σ:Store)(Qp:RV→Store→Prop) :Prop:=
 ∃len:Nat,(Len joints len)∧∃I:Int→Store→Prop,∃μ:Int→Store→Nat,(I 0 σ)∧∀n:Int,∀Z,(I n Z)→a_b (decide (n < (len:Int))) (∃len1:Nat,(Idx prog Z joints 4 len1)∧((0:Int)≤n)∧(n < (len1:Int))∧∃row:List D,(Row Z joints (Int.toNat n) row)∧∃n1 n2 n3 n4:Int,((List.take 4 row) =([iD n1,iD n2,iD n3,iD n4]:List D))∧a_b (n1 == section_) (a_b (n2 == end_) (Qp (.tup [iA n3,iA n4,bA true]) Z) (a_b (n3 == section_) (a_b (n4 == end_) (Qp (.tup [iA n1,iA n2,bA true]) Z) ((I (w64 (n+1)) Z)∧((μ (w64 (n+1)) Z) < (μ n Z)))) ((I (w64 (n+1)) Z)∧((μ (w64 (n+1)) Z) < (μ n Z))))) (a_b (n3 == section_) (a_b (n4 == end_) (Qp (.tup [iA n1,iA n2,bA true]) Z) ((I (w64 (n+1)) Z)∧((μ (w64 (n+1)) Z) < (μ n Z)))) ((I (w64 (n+1)) Z)∧((μ (w64 (n+1)) Z) < (μ n Z))))) (Qp (.tup [iA 0,iA 0,bA false]) Z)
theorem a_k9 (joints:D)(section_ end_:Int)(σ:Store)(Qp:RV→Store→Prop)(h:a_m3 joints section_ end_ σ Qp) :DCalls prog e_2 [.one joints,iA section_,iA end_] σ Qp:=
 a_a mixed (by kernel_rfl) Tryz.func52 a_hx (Eq.mp (by kernel_rfl) h)
def a_md:Ann:= { loops:= [(2,{ mods:= [(13,s6)],keep:= [1,2,11,12] })] }
def a_pu (kind in_ out_:Int)(σ:Store)(Qp:RV→Store→Prop) :Prop:=
 DCalls prog j_0 [iA kind] σ (fun r Z=>∃d:D,(r=(.a (.one d) :RV))∧∃len:Nat,(Len d len)∧∃I:Int→Store→Prop,∃μ:Int→Store→Nat,(I 0 Z)∧∀n:Int,∀Z1,(I n Z1)→a_b (decide (n < (len:Int))) (∃len1:Nat,(Idx prog Z1 d 3 len1)∧((0:Int)≤n)∧(n < (len1:Int))∧∃row:List D,(Row Z1 d (Int.toNat n) row)∧∃n1 n2 n3:Int,((List.take 3 row) =([iD n1,iD n2,iD n3]:List D))∧a_b (n1 == in_) (a_b (n2 == out_) (Qp (.tup [iA n3,bA true]) Z1) (a_b (n2 == in_) (a_b (n1 == out_) (Qp (.tup [iA n3,bA true]) Z1) ((I (w64 (n+1)) Z1)∧((μ (w64 (n+1)) Z1) < (μ n Z1)))) ((I (w64 (n+1)) Z1)∧((μ (w64 (n+1)) Z1) < (μ n Z1))))) (a_b (n2 == in_) (a_b (n1 == out_) (Qp (.tup [iA n3,bA true]) Z1) ((I (w64 (n+1)) Z1)∧((μ (w64 (n+1)) Z1) < (μ n Z1)))) ((I (w64 (n+1)) Z1)∧((μ (w64 (n+1)) Z1) < (μ n Z1))))) (Qp (.tup [iA 0,bA false]) Z1))
theorem a_pn (kind in_ out_:Int)(σ:Store)(Qp:RV→Store→Prop)(h:a_pu kind in_ out_ σ Qp) :DCalls prog l_v [iA kind,iA in_,iA out_] σ Qp:=
 a_a mixed (by kernel_rfl) Tryz.func56 a_md (Eq.mp (by kernel_rfl) h)
def o_p:Ann:= { draws:= [(9,{ ord:= [0,1,2,3,4,5,6,7,8,9] })],loops:= [(8,{ mods:= [(8,s6)],keep:= [7] })],joins:= [(3,{ keep:= [0,1] }),(6,{ keep:= [0,6] })] }
def p_7 (x:D)(count:Int)(σ:Store)(Qp:RV→Store→Prop) :Prop:=
 ∀R:Store→Prop,(∀Z,(∃len:Nat,(Len x len)∧DCalls prog g_x [.one (.int .u64 (IntKind.wrap .u64 (len:Int))), .one (.int .u64 (IntKind.wrap .u64 count))] Z (fun r Z1=>∃n n1:Int,(r=(.tup [.one (.int .u64 n), .one (.int .u64 n1)]:RV))∧∀R1:Store→Prop,(∀Z2,(((0:Int)≤(w64 n1))∧((w64 n1)≤(w64 n1))∧(((16:Int) * (w64 n1))≤(2 ^ 48))∧Fw.newObj Z2 (.live b_d (List.replicate (Int.toNat (w64 n1)) [iD 0,iD 0])) (fun id Z3=>r_d prog Z3 b_d (.osl id 0 (Int.toNat (w64 n1))) x (fun n2 Z4=>∃I:Int→Store→Prop,∃μ:Int→Store→Nat,(I n2 Z4)∧∀n3:Int,∀Z5,(I n3 Z5)→∃len1:Nat,(Len (.osl id 0 (Int.toNat (w64 n1))) len1)∧a_b (decide (n3 < (len1:Int))) (∃len2:Nat,(IdxN prog Z5 (.osl id 0 (Int.toNat (w64 n1))) 2 len2)∧((0:Int)≤n3)∧(n3≤(len2:Int))∧∃len3:Nat,(IdxN prog Z5 (.osl id 0 (Int.toNat (w64 n1))) 2 len3)∧((0:Int)≤0)∧((0:Int)≤n3)∧(n3≤(len3:Int))∧r_d prog Z5 b_d (.osl id (0+ (Int.toNat n3)) (len2 - (Int.toNat n3))) (.osl id 0 ((Int.toNat n3) - 0)) (fun n4 Z6=>(I (w64 (n3+n4)) Z6)∧((μ (w64 (n3+n4)) Z6) < (μ n3 Z5)))) (Qp (.a (.one (.osl id 0 (Int.toNat (w64 n1))))) Z5))))→R1 Z2)→a_b (decide (n > 0)) False (a_b (decide (n1 > 9223372036854775807)) False (R1 Z1))))→R Z)→a_b (decide (count < 0)) False (R σ)
theorem q_e (x:D)(count:Int)(σ:Store)(Qp:RV→Store→Prop)(h:p_7 x count σ Qp) :DCalls prog f_f [.one x,iA count] σ Qp:=
 a_a mixed (by kernel_rfl) Tryz.func60 o_p (Eq.mp (by kernel_rfl) h)
def a_h4:Ann:= { esc:= [8,11,9,10],cbs:= [6,7] }
def a_l3 (c0 c1 c2 c3 c4:D)(c5 c6 c7 c8:Int)(k0 k1 k2 k3 k4 k5:D)(k6:Bool)(r to now:Int)(from_:D)(σ:Store)(Qp:RV→Store→Prop) :Prop:=
 Fw.newObj σ (.live a_i [[iD r]]) (fun id Z=>Fw.newObj Z (.live a_i [[iD to]]) (fun id1 Z1=>Fw.newObj Z1 (.live a_i [[iD now]]) (fun id2 Z2=>Fw.newObj Z2 (.live n_z [[from_]]) (fun id3 Z3=>∃row:List D,(Row Z3 (.osl id2 0 1) 0 row)∧∃n:Int,((List.take 1 row) =([iD n]:List D))∧DCalls prog e_l [.agg [c0,c1,c2,c3,c4,iD c5,iD c6,iD c7,iD c8], .agg [k0,k1,k2,k3,k4,k5, .bool k6],iA n, .one (.fn s_k [] [(false,[.el (.osl id 0 1) 0 0]),(false,[.el (.osl id3 0 1) 0 0]),(false,[.el (.osl id1 0 1) 0 0]),(false,[.el (.osl id2 0 1) 0 0])])] Z3 (fun r1 Z4=>∃d d1 d2 d3 d4 d5:D,∃b:Bool,∃n1:Int,(r1=(.tup [.agg [d,d1,d2,d3,d4,d5, .bool b],iA n1]:RV))∧Qp (.tup [.agg [d,d1,d2,d3,d4,d5, .bool b],iA n1]) Z4)))))
theorem a_nk (c0 c1 c2 c3 c4:D)(c5 c6 c7 c8:Int)(k0 k1 k2 k3 k4 k5:D)(k6:Bool)(r to now:Int)(from_:D)(σ:Store)(Qp:RV→Store→Prop)(h:a_l3 c0 c1 c2 c3 c4 c5 c6 c7 c8 k0 k1 k2 k3 k4 k5 k6 r to now from_ σ Qp) :DCalls prog h_1 [.agg [c0,c1,c2,c3,c4,iD c5,iD c6,iD c7,iD c8], .agg [k0,k1,k2,k3,k4,k5, .bool k6],iA r,iA to,iA now, .one from_] σ Qp:=
 a_a mixed (by kernel_rfl) Tryz.func64 a_h4 (Eq.mp (by kernel_rfl) h)
def a_af:Ann:= { }
def a_dr (m0 m1 now cmd:Int)(σ:Store)(Qp:RV→Store→Prop) :Prop:=
 a_b (m0 != cmd) (Qp (.a (.agg [iD cmd,iD now])) σ) (Qp (.a (.agg [iD m0,iD m1])) σ)
theorem a_cz (m0 m1 now cmd:Int)(σ:Store)(Qp:RV→Store→Prop)(h:a_dr m0 m1 now cmd σ Qp) :DCalls prog c_g [.agg [iD m0,iD m1],iA now,iA cmd] σ Qp:=
 a_a mixed (by kernel_rfl) Tryz.func68 a_af (Eq.mp (by kernel_rfl) h)
def z_i:Ann:= { draws:= [(6,{ ord:= [0,1,2,3,4,5,6,7,8] })],loops:= [(4,{ mods:= [(13,s6)],keep:= [0,1,12] })] }
def a_be (a b:D)(σ:Store)(Qp:RV→Store→Prop) :Prop:=
 ∃len:Nat,(Len a len)∧∃len1:Nat,(Len b len1)∧a_b ((len:Int) !=(len1:Int)) (Qp (.a (bA false)) σ) (∃len2:Nat,(Len a len2)∧∃I:Int→Store→Prop,∃μ:Int→Store→Nat,(I 0 σ)∧∀n:Int,∀Z,(I n Z)→a_b (decide (n < (len2:Int))) (∃len3:Nat,(Idx prog Z a 1 len3)∧((0:Int)≤n)∧(n < (len3:Int))∧∃row:List D,(Row Z a (Int.toNat n) row)∧∃n1:Int,((List.take 1 row) =([iD n1]:List D))∧∃len4:Nat,(Idx prog Z b 1 len4)∧((0:Int)≤n)∧(n < (len4:Int))∧∃row1:List D,(Row Z b (Int.toNat n) row1)∧∃n2:Int,((List.take 1 row1) =([iD n2]:List D))∧a_b (n1 != n2) (Qp (.a (bA false)) Z) ((I (w64 (n+1)) Z)∧((μ (w64 (n+1)) Z) < (μ n Z)))) (Qp (.a (bA true)) Z))
theorem a_a3 (a b:D)(σ:Store)(Qp:RV→Store→Prop)(h:a_be a b σ Qp) :DCalls prog f_4 [.one a, .one b] σ Qp:=
 a_a mixed (by kernel_rfl) Tryz.func72 z_i (Eq.mp (by kernel_rfl) h)
def l_r:Ann:= { draws:= [(6,{ ord:= [0,1,2,3,4,5,6,7,8,9,10,11,12,13,14,15,16,17,18,19,20,21],sp:= [19] })],loops:= [(1,{ mods:= [(11,s6)],keep:= [0,9,10] })] }
def m_z (x:D)(σ:Store)(Qp:RV→Store→Prop) :Prop:=
 (a_f x)∧∃s:D,∃i off:Nat,(x=(.el s i off:D))∧∃row:List D,(Row σ s i row)∧∃d:D,((List.take 1 (List.drop ((off+4) +3) row)) =([d]:List D))∧∃len:Nat,(Len d len)∧∃I:Int→Store→Prop,∃μ:Int→Store→Nat,(I 0 σ)∧∀n:Int,∀Z,(I n Z)→a_b (decide (n < (len:Int))) (∃len1:Nat,(Idx prog Z d 1 len1)∧((0:Int)≤n)∧(n < (len1:Int))∧∃row1:List D,(Row Z d (Int.toNat n) row1)∧∃n1:Int,((List.take 1 row1) =([iD n1]:List D))∧(a_f x)∧∃s1:D,∃i1 off1:Nat,(x=(.el s1 i1 off1:D))∧∃row2:List D,(Row Z s1 i1 row2)∧∃d1:D,((List.take 1 (List.drop ((off1+13) +0) row2)) =([d1]:List D))∧∃len2:Nat,(Idx prog Z d1 1 len2)∧((0:Int)≤n1)∧(n1 < (len2:Int))∧∃row3:List D,(Row Z d1 (Int.toNat n1) row3)∧∃n2:Int,((List.take 1 row3) =([iD n2]:List D))∧a_b (n2 == 0) (∃pre:List A→Store→Prop,∃post:List A→Store→RV→Store→Prop,(h_k prog c_g pre post)∧(a_f x)∧∃s2:D,∃i2 off2:Nat,(x=(.el s2 i2 off2:D))∧∃row4:List D,(Row Z s2 i2 row4)∧∃d2:D,((List.take 1 (List.drop ((off2+13) +3) row4)) =([d2]:List D))∧(a_f x)∧∃s3:D,∃i3 off3:Nat,(x=(.el s3 i3 off3:D))∧∃row5:List D,(Row Z s3 i3 row5)∧∃d3:D,((List.take 1 (List.drop ((off3+13) +3) row5)) =([d3]:List D))∧∃len3:Nat,(Idx prog Z d3 2 len3)∧((0:Int)≤n)∧(n < (len3:Int))∧∃row6:List D,(Row Z d3 (Int.toNat n) row6)∧∃n3 n4:Int,((List.take 2 row6) =([iD n3,iD n4]:List D))∧(a_f x)∧∃s4:D,∃i4 off4:Nat,(x=(.el s4 i4 off4:D))∧∃row7:List D,(Row Z s4 i4 row7)∧∃n5:Int,((List.take 1 (List.drop (off4+20) row7)) =([iD n5]:List D))∧(pre [.agg [iD n3,iD n4],iA n5,iA 2] Z)∧∀r:RV,∀s5:Store,(post [.agg [iD n3,iD n4],iA n5,iA 2] Z r s5)→∃n6 n7:Int,(r=(.a (.agg [iD n6,iD n7]) :RV))∧∃len4:Nat,(Idx prog s5 d2 2 len4)∧((0:Int)≤n)∧(n < (len4:Int))∧a_j [iD n6,iD n7] s5 d2 (Int.toNat n) 0 (fun Z1=>(I (w64 (n+1)) Z1)∧((μ (w64 (n+1)) Z1) < (μ n Z)))) (∃pre:List A→Store→Prop,∃post:List A→Store→RV→Store→Prop,(h_k prog c_g pre post)∧(a_f x)∧∃s2:D,∃i2 off2:Nat,(x=(.el s2 i2 off2:D))∧∃row4:List D,(Row Z s2 i2 row4)∧∃d2:D,((List.take 1 (List.drop ((off2+13) +3) row4)) =([d2]:List D))∧(a_f x)∧∃s3:D,∃i3 off3:Nat,(x=(.el s3 i3 off3:D))∧∃row5:List D,(Row Z s3 i3 row5)∧∃d3:D,((List.take 1 (List.drop ((off3+13) +3) row5)) =([d3]:List D))∧∃len3:Nat,(Idx prog Z d3 2 len3)∧((0:Int)≤n)∧(n < (len3:Int))∧∃row6:List D,(Row Z d3 (Int.toNat n) row6)∧∃n3 n4:Int,((List.take 2 row6) =([iD n3,iD n4]:List D))∧(a_f x)∧∃s4:D,∃i4 off4:Nat,(x=(.el s4 i4 off4:D))∧∃row7:List D,(Row Z s4 i4 row7)∧∃n5:Int,((List.take 1 (List.drop (off4+20) row7)) =([iD n5]:List D))∧(pre [.agg [iD n3,iD n4],iA n5,iA 1] Z)∧∀r:RV,∀s5:Store,(post [.agg [iD n3,iD n4],iA n5,iA 1] Z r s5)→∃n6 n7:Int,(r=(.a (.agg [iD n6,iD n7]) :RV))∧∃len4:Nat,(Idx prog s5 d2 2 len4)∧((0:Int)≤n)∧(n < (len4:Int))∧a_j [iD n6,iD n7] s5 d2 (Int.toNat n) 0 (fun Z1=>(I (w64 (n+1)) Z1)∧((μ (w64 (n+1)) Z1) < (μ n Z))))) (Qp (.tup []) Z)
theorem m_t (x:D)(σ:Store)(Qp:RV→Store→Prop)(h:m_z x σ Qp) :DCalls prog e_b [.one x] σ Qp:=
 a_a mixed (by kernel_rfl) Tryz.func76 l_r (Eq.mp (by kernel_rfl) h)
def t_g:Ann:= { }
def w_4 (w list:D)(σ:Store)(Qp:RV→Store→Prop) :Prop:=
 DCalls prog d_f [.one w,iA 16, .one list] σ (fun r Z=>(r=(.tup []:RV))∧Qp (.tup []) Z)
theorem w_w (w list:D)(σ:Store)(Qp:RV→Store→Prop)(h:w_4 w list σ Qp) :DCalls prog h_a [.one w, .one list] σ Qp:=
 a_a mixed (by kernel_rfl) Tryz.func80 t_g (Eq.mp (by kernel_rfl) h)
def a_ne:Ann:= { esc:= [5] }
def a_oy (text:ByteArray)(σ:Store)(Qp:RV→Store→Prop) :Prop:=
 Fw.newObj σ (.live u_0 [[iD 0, .str text]]) (fun id Z=>Qp (.a (.one (.el (.osl id 0 1) 0 0))) Z)
theorem a_n6 (text:ByteArray)(σ:Store)(Qp:RV→Store→Prop)(h:a_oy text σ Qp) :DCalls prog q_v [.one (.str text)] σ Qp:=
 a_a mixed (by kernel_rfl) Tryz.func84 a_ne (Eq.mp (by kernel_rfl) h)
def v_2:Ann:= { }
def x_1 (r:D)(σ:Store)(Qp:RV→Store→Prop) :Prop:=
 (a_f r)∧∃s:D,∃i off:Nat,(r=(.el s i off:D))∧DCalls prog b_c [.one (.el s i (off+0))] σ (fun r1 Z=>∃b:Bool,(r1=(.a (bA b) :RV))∧a_b b ((a_f r)∧∃s1:D,∃i1 off1:Nat,(r=(.el s1 i1 off1:D))∧∃row:List D,(Row Z s1 i1 row)∧∃s2:ByteArray,((List.take 1 (List.drop (off1+1) row)) =([.str s2]:List D))∧a_b (!((ByteArray.toList s2) ==(ByteArray.toList (ByteArray.mk (List.toArray []))))) (Qp (.a (iA 3)) Z) ((a_f r)∧∃s3:D,∃i2 off2:Nat,(r=(.el s3 i2 off2:D))∧∃row1:List D,(Row Z s3 i2 row1)∧∃n:Int,((List.take 1 (List.drop ((off2+0) +0) row1)) =([iD n]:List D))∧Qp (.a (iA n)) Z)) ((a_f r)∧∃s1:D,∃i1 off1:Nat,(r=(.el s1 i1 off1:D))∧∃row:List D,(Row Z s1 i1 row)∧∃n:Int,((List.take 1 (List.drop ((off1+0) +0) row)) =([iD n]:List D))∧Qp (.a (iA n)) Z))
theorem y_6 (r:D)(σ:Store)(Qp:RV→Store→Prop)(h:x_1 r σ Qp) :DCalls prog h_4 [.one r] σ Qp:=
 a_a mixed (by kernel_rfl) Tryz.func88 v_2 (Eq.mp (by kernel_rfl) h)
def v_h:Ann:= { cbs:= [2],loops:= [(5,{ mods:= [(5,SlotSh.one (Sh.any)),(22,s6)],keep:= [1,2,20,21] }),(8,{ mods:= [(5,SlotSh.one (Sh.any)),(34,s6)],keep:= [1,2,6,7,20,21,22,32,33] })],joins:= [(3,{ keep:= [1,2] })] }
def z_s (c0 c1 c2 c3 c4:D)(c5 c6 c7 c8 r:Int)(σ:Store)(Qp:RV→Store→Prop) :Prop:=
 ∀R:Store→Prop,(∀Z,(∃len:Nat,(Len c3 len)∧∃I:D→Int→Store→Prop,∃μ:D→Int→Store→Nat,(I .nils 0 Z)∧∀d:D,∀n:Int,∀Z1,(I d n Z1)→a_b (decide (n < (len:Int))) (∃len1:Nat,(Idx prog Z1 c3 1 len1)∧((0:Int)≤n)∧(n < (len1:Int))∧∃row:List D,(Row Z1 c3 (Int.toNat n) row)∧∃n1:Int,((List.take 1 row) =([iD n1]:List D))∧∃len2:Nat,(Idx prog Z1 c4 6 len2)∧((0:Int)≤r)∧(r < (len2:Int))∧∃row1:List D,(Row Z1 c4 (Int.toNat r) row1)∧∃d1:D,((List.take 1 (List.drop 2 row1)) =([d1]:List D))∧∃len3:Nat,(Len d1 len3)∧∃I1:D→Int→Store→Prop,∃μ1:D→Int→Store→Nat,(I1 d 0 Z1)∧∀d2:D,∀n2:Int,∀Z2,(I1 d2 n2 Z2)→a_b (decide (n2 < (len3:Int))) (∃len4:Nat,(Idx prog Z2 d1 3 len4)∧((0:Int)≤n2)∧(n2 < (len4:Int))∧∃row2:List D,(Row Z2 d1 (Int.toNat n2) row2)∧∃n3 n4 n5:Int,((List.take 3 row2) =([iD n3,iD n4,iD n5]:List D))∧a_b (n3 == n1) (Fw.newObj Z2 (.live a_i [[iD n]]) (fun id Z3=>a_v prog Z3 a_i 8 d2 (.osl id 0 1) (fun d3 Z4=>(I d3 (w64 (n+1)) Z4)∧((μ d3 (w64 (n+1)) Z4) < (μ d n Z1))))) ((I1 d2 (w64 (n2+1)) Z2)∧((μ1 d2 (w64 (n2+1)) Z2) < (μ1 d2 n2 Z2)))) ((I d2 (w64 (n+1)) Z2)∧((μ d2 (w64 (n+1)) Z2) < (μ d n Z1)))) (Qp (.a (.one d)) Z1))→R Z)→a_b (decide (r < 0)) (Qp (.a (.one .nils)) σ) (∃len:Nat,(Len c4 len)∧a_b (decide (r≥(len:Int))) (Qp (.a (.one .nils)) σ) (R σ))
theorem z_p (c0 c1 c2 c3 c4:D)(c5 c6 c7 c8 r:Int)(σ:Store)(Qp:RV→Store→Prop)(h:z_s c0 c1 c2 c3 c4 c5 c6 c7 c8 r σ Qp) :DCalls prog h_8 [.agg [c0,c1,c2,c3,c4,iD c5,iD c6,iD c7,iD c8],iA r] σ Qp:=
 a_a mixed (by kernel_rfl) Tryz.func92 v_h (Eq.mp (by kernel_rfl) h)
def z_h:Ann:= { }
def a_a5 (j:D)(r:Int)(states:D)(σ:Store)(Qp:RV→Store→Prop) :Prop:=
 (a_f j)∧∃s:D,∃i off:Nat,(j=(.el s i off:D))∧∃row:List D,(Row σ s i row)∧∃d:D,((List.take 1 (List.drop ((off+0) +1) row)) =([d]:List D))∧∃len:Nat,(Idx prog σ d 4 len)∧((0:Int)≤r)∧(r < (len:Int))∧∃row1:List D,(Row σ d (Int.toNat r) row1)∧∃n:Int,((List.take 1 row1) =([iD n]:List D))∧DCalls prog c_b [.one states,iA n] σ (fun r1 Z=>∃b:Bool,(r1=(.a (bA b) :RV))∧Qp (.a (bA b)) Z)
theorem a_bf (j:D)(r:Int)(states:D)(σ:Store)(Qp:RV→Store→Prop)(h:a_a5 j r states σ Qp) :DCalls prog d_p [.one j,iA r, .one states] σ Qp:=
 a_a mixed (by kernel_rfl) Tryz.func96 z_h (Eq.mp (by kernel_rfl) h)
def p_i:Ann:= { cbs:= [2] }
def q_l (x0 x1 x2:Int)(a1:D)(σ:Store)(Qp:RV→Store→Prop) :Prop:=
 ∃s:D,∃i off:Nat,(a1=(.el s i off:D))∧∃row:List D,(Row σ s i row)∧∃n:Int,((List.take 1 (List.drop off row)) =([iD n]:List D))∧Qp (.a (bA (x2 == n))) σ
theorem p_9 (x0 x1 x2:Int)(a1:D)(σ:Store)(Qp:RV→Store→Prop)(h:q_l x0 x1 x2 a1 σ Qp) :DCalls prog i_c [.agg [iD x0,iD x1,iD x2], .one a1] σ Qp:=
 a_a mixed (by kernel_rfl) Tryz.func100 p_i (Eq.mp (by kernel_rfl) h)
def u_d:Ann:= { }
def w_1 (d:D)(r:Int)(σ:Store)(Qp:RV→Store→Prop) :Prop:=
 (a_f d)∧∃s:D,∃i off:Nat,(d=(.el s i off:D))∧∃row:List D,(Row σ s i row)∧∃d1:D,((List.take 1 (List.drop ((off+9) +1) row)) =([d1]:List D))∧∃len:Nat,(Len d1 len)∧DCalls prog b_k [iA r,iA 0, .one (iD (w64 ((len:Int) - 1)))] σ (fun r1 Z=>∃b:Bool,(r1=(.a (bA b) :RV))∧a_b (!b) (Qp (.tup [.one .nilp,iA 20]) Z) ((a_f d)∧∃s1:D,∃i1 off1:Nat,(d=(.el s1 i1 off1:D))∧∃row1:List D,(Row Z s1 i1 row1)∧∃d2:D,((List.take 1 (List.drop ((off1+9) +1) row1)) =([d2]:List D))∧∃len1:Nat,(Idx prog Z d2 4 len1)∧((0:Int)≤r)∧(r < (len1:Int))∧Qp (.tup [.one (.el d2 (Int.toNat r) 0),iA 0]) Z))
theorem w_8 (d:D)(r:Int)(σ:Store)(Qp:RV→Store→Prop)(h:w_1 d r σ Qp) :DCalls prog e_3 [.one d,iA r] σ Qp:=
 a_a mixed (by kernel_rfl) Tryz.func105 u_d (Eq.mp (by kernel_rfl) h)
def a_dj:Ann:= { draws:= [(4,{ ord:= [0,1,2,3,4,5,6,7] })] }
def a_fz (d a1 a2 a3 a4:D)(σ:Store)(Qp:RV→Store→Prop) :Prop:=
 ∃s:D,∃i off:Nat,(a1=(.el s i off:D))∧∃row:List D,(Row σ s i row)∧∃n:Int,((List.take 1 (List.drop off row)) =([iD n]:List D))∧DCalls prog e_3 [.one d,iA n] σ (fun r Z=>∃d1:D,∃n1:Int,(r=(.tup [.one d1,iA n1]:RV))∧a_b (n1 != 0) (Qp (.a (iA n1)) Z) (∃s1:D,∃i1 off1:Nat,(a2=(.el s1 i1 off1:D))∧∃row1:List D,(Row Z s1 i1 row1)∧∃d2:D,((List.take 1 (List.drop off1 row1)) =([d2]:List D))∧(a_f d1)∧∃s2:D,∃i2 off2:Nat,(d1=(.el s2 i2 off2:D))∧∃row2:List D,(Row Z s2 i2 row2)∧∃n2:Int,((List.take 1 (List.drop (off2+0) row2)) =([iD n2]:List D))∧DCalls prog c_b [.one d2,iA n2] Z (fun r1 Z1=>∃b:Bool,(r1=(.a (bA b) :RV))∧a_b (!b) (Qp (.a (iA 28)) Z1) (∃s3:D,∃i3 off3:Nat,(a3=(.el s3 i3 off3:D))∧∃row3:List D,(Row Z1 s3 i3 row3)∧∃n3:Int,((List.take 1 (List.drop off3 row3)) =([iD n3]:List D))∧(a_f d1)∧∃s4:D,∃i4 off4:Nat,(d1=(.el s4 i4 off4:D))∧a_j [iD n3] Z1 s4 i4 (off4+0) (fun Z2=>∃s5:D,∃i5 off5:Nat,(a3=(.el s5 i5 off5:D))∧∃row4:List D,(Row Z2 s5 i5 row4)∧∃n4:Int,((List.take 1 (List.drop off5 row4)) =([iD n4]:List D))∧a_b (n4 == 4) (∃s6:D,∃i6 off6:Nat,(a4=(.el s6 i6 off6:D))∧∃row5:List D,(Row Z2 s6 i6 row5)∧∃n5:Int,((List.take 1 (List.drop off6 row5)) =([iD n5]:List D))∧(a_f d1)∧∃s7:D,∃i7 off7:Nat,(d1=(.el s7 i7 off7:D))∧a_j [iD n5] Z2 s7 i7 (off7+1) (fun Z3=>(a_f d1)∧∃s8:D,∃i8 off8:Nat,(d1=(.el s8 i8 off8:D))∧a_j [iD 0] Z3 s8 i8 (off8+3) (fun Z4=>(a_f d)∧∃s9:D,∃i9 off9:Nat,(d=(.el s9 i9 off9:D))∧a_j [.bool true] Z4 s9 i9 ((off9+9) +6) (fun Z5=>Qp (.a (iA 0)) Z5)))) (Qp (.a (iA 0)) Z2))))))
theorem a_e1 (d a1 a2 a3 a4:D)(σ:Store)(Qp:RV→Store→Prop)(h:a_fz d a1 a2 a3 a4 σ Qp) :DCalls prog s_k [.one d, .one a1, .one a2, .one a3, .one a4] σ Qp:=
 a_a mixed (by kernel_rfl) Tryz.func109 a_dj (Eq.mp (by kernel_rfl) h)
def l_n:Ann:= { }
def l_q (s:D)(σ:Store)(Qp:RV→Store→Prop) :Prop:=
 ∃b:Bool,(i_d .sl s b)∧a_b (b != false) (Qp (.a (.one .nils)) σ) (Fw.newObj σ (.live c_q []) (fun id Z=>a_v prog Z c_q 32 (.osl id 0 0) s (fun d Z1=>Qp (.a (.one d)) Z1)))
theorem l_p (s:D)(σ:Store)(Qp:RV→Store→Prop)(h:l_q s σ Qp) :DCalls prog b_1 [.one s] σ Qp:=
 a_a mixed (by kernel_rfl) Tryz.func113 l_n (Eq.mp (by kernel_rfl) h)
def y_v:Ann:= { draws:= [(7,{ ord:= [0,1,2,3,4,5,6,7,8,9,10,11,12,13,14,15,16,17,18,19,20,21,22,23,24,25,26,27] })],loops:= [(2,{ mods:= [(15,s6)],keep:= [0,1,2,13,14] })] }
def z_4 (d l:D)(s:Int)(σ:Store)(Qp:RV→Store→Prop) :Prop:=
 (a_f d)∧∃s1:D,∃i off:Nat,(d=(.el s1 i off:D))∧∃row:List D,(Row σ s1 i row)∧∃d1:D,((List.take 1 (List.drop ((off+0) +1) row)) =([d1]:List D))∧∃len:Nat,(Len d1 len)∧∃I:Int→Store→Prop,∃μ:Int→Store→Nat,(I 0 σ)∧∀n:Int,∀Z,(I n Z)→a_b (decide (n < (len:Int))) (∃len1:Nat,(Idx prog Z d1 4 len1)∧((0:Int)≤n)∧(n < (len1:Int))∧∃row1:List D,(Row Z d1 (Int.toNat n) row1)∧∃n1 n2 n3 n4:Int,((List.take 4 row1) =([iD n1,iD n2,iD n3,iD n4]:List D))∧a_b (n1 != 0) ((a_f d)∧∃s2:D,∃i1 off1:Nat,(d=(.el s2 i1 off1:D))∧∃row2:List D,(Row Z s2 i1 row2)∧∃d2 d3 d4 d5 d6:D,∃n5 n6 n7 n8:Int,((List.take 9 (List.drop (off1+7) row2)) =([d2,d3,d4,d5,d6,iD n5,iD n6,iD n7,iD n8]:List D))∧DCalls prog g_z [.agg [d2,d3,d4,d5,d6,iD n5,iD n6,iD n7,iD n8],iA n] Z (fun r Z1=>∃n9:Int,(r=(.a (iA n9) :RV))∧a_b (n9 == s) (Qp (.a (bA false)) Z1) ((I (w64 (n+1)) Z1)∧((μ (w64 (n+1)) Z1) < (μ n Z))))) ((I (w64 (n+1)) Z)∧((μ (w64 (n+1)) Z) < (μ n Z)))) ((a_f l)∧∃s2:D,∃i1 off1:Nat,(l=(.el s2 i1 off1:D))∧∃row1:List D,(Row Z s2 i1 row1)∧∃n1:Int,((List.take 1 (List.drop ((off1+4) +0) row1)) =([iD n1]:List D))∧(a_f l)∧∃s3:D,∃i2 off2:Nat,(l=(.el s3 i2 off2:D))∧∃row2:List D,(Row Z s3 i2 row2)∧∃n2:Int,((List.take 1 (List.drop (off2+2) row2)) =([iD n2]:List D))∧(a_f l)∧∃s4:D,∃i3 off3:Nat,(l=(.el s4 i3 off3:D))∧∃row3:List D,(Row Z s4 i3 row3)∧∃n3:Int,((List.take 1 (List.drop ((off3+4) +1) row3)) =([iD n3]:List D))∧a_b (decide (n1 > (ite (n3 > n2) n3 n2))) ((a_f l)∧∃s5:D,∃i4 off4:Nat,(l=(.el s5 i4 off4:D))∧∃row4:List D,(Row Z s5 i4 row4)∧∃n4:Int,((List.take 1 (List.drop (off4+0) row4)) =([iD n4]:List D))∧(a_f l)∧∃s6:D,∃i5 off5:Nat,(l=(.el s6 i5 off5:D))∧∃row5:List D,(Row Z s6 i5 row5)∧∃n5:Int,((List.take 1 (List.drop (off5+1) row5)) =([iD n5]:List D))∧Qp (.a (bA (n4 == n5))) Z) (Qp (.a (bA false)) Z))
theorem a_ag (d l:D)(s:Int)(σ:Store)(Qp:RV→Store→Prop)(h:z_4 d l s σ Qp) :DCalls prog i_t [.one d, .one l,iA s] σ Qp:=
 a_a mixed (by kernel_rfl) Tryz.func117 y_v (Eq.mp (by kernel_rfl) h)
def o_s:Ann:= { draws:= [(1,{ ord:= [0,1,2,3,4,5,6,7,8,9,10,11] }),(8,{ ord:= [0,1,2,3,4,5,6,7,8,9,10,11] }),(12,{ ord:= [0,1,2,3,4,5,6,7,8,9,10,11,12] })],joins:= [(12,{ keep:= [0,1,4] })] }
def q_i (x:D)(r:Int)(σ:Store)(Qp:RV→Store→Prop) :Prop:=
 (a_f x)∧∃s:D,∃i off:Nat,(x=(.el s i off:D))∧∃row:List D,(Row σ s i row)∧∃d:D,((List.take 1 (List.drop ((off+13) +1) row)) =([d]:List D))∧∃len:Nat,(Idx prog σ d 4 len)∧((0:Int)≤r)∧(r < (len:Int))∧∃row1:List D,(Row σ d (Int.toNat r) row1)∧∃n:Int,((List.take 1 (List.drop 1 row1)) =([iD n]:List D))∧(a_f x)∧∃s1:D,∃i1 off1:Nat,(x=(.el s1 i1 off1:D))∧∃row2:List D,(Row σ s1 i1 row2)∧∃n1:Int,((List.take 1 (List.drop (((off1+4) +5) +2) row2)) =([iD n1]:List D))∧(a_f x)∧∃s2:D,∃i2 off2:Nat,(x=(.el s2 i2 off2:D))∧∃row3:List D,(Row σ s2 i2 row3)∧∃n2:Int,((List.take 1 (List.drop (off2+20) row3)) =([iD n2]:List D))∧a_b (decide (n2 < (w64 (n+n1)))) (Qp (.tup []) σ) (∀R:Store→Prop,(∀Z,(∃row4:List D,(Row Z d (Int.toNat r) row4)∧∃n3:Int,((List.take 1 (List.drop 2 row4)) =([iD n3]:List D))∧(a_f x)∧∃s3:D,∃i3 off3:Nat,(x=(.el s3 i3 off3:D))∧∃row5:List D,(Row Z s3 i3 row5)∧∃d1:D,((List.take 1 (List.drop (off3+22) row5)) =([d1]:List D))∧∃len1:Nat,(Idx prog Z d1 1 len1)∧((0:Int)≤r)∧(r < (len1:Int))∧∃row6:List D,(Row Z d1 (Int.toNat r) row6)∧∃d2:D,((List.take 1 row6) =([d2]:List D))∧∃len2:Nat,(Len d2 len2)∧a_b (n3 ==(len2:Int)) (DCalls prog h_c [.one x,iA r] Z (fun r1 Z1=>(r1=(.tup []:RV))∧Qp (.tup []) Z1)) (Qp (.tup []) Z))→R Z)→(a_f x)∧∃s3:D,∃i3 off3:Nat,(x=(.el s3 i3 off3:D))∧∃row4:List D,(Row σ s3 i3 row4)∧∃d1:D,((List.take 1 (List.drop (off3+22) row4)) =([d1]:List D))∧∃len1:Nat,(Idx prog σ d1 1 len1)∧((0:Int)≤r)∧(r < (len1:Int))∧∃row5:List D,(Row σ d1 (Int.toNat r) row5)∧∃d2:D,((List.take 1 row5) =([d2]:List D))∧∃row6:List D,(Row σ d (Int.toNat r) row6)∧∃n3:Int,((List.take 1 (List.drop 2 row6)) =([iD n3]:List D))∧∃len2:Nat,(Len d2 len2)∧a_b (decide (n3 < (len2:Int))) (∃row7:List D,(Row σ d (Int.toNat r) row7)∧∃n4:Int,((List.take 1 (List.drop 2 row7)) =([iD n4]:List D))∧∃len3:Nat,(Idx prog σ d2 1 len3)∧((0:Int)≤n4)∧(n4 < (len3:Int))∧∃row8:List D,(Row σ d2 (Int.toNat n4) row8)∧∃n5:Int,((List.take 1 row8) =([iD n5]:List D))∧(a_f x)∧∃s4:D,∃i4 off4:Nat,(x=(.el s4 i4 off4:D))∧∃row9:List D,(Row σ s4 i4 row9)∧∃d3:D,((List.take 1 (List.drop ((off4+13) +0) row9)) =([d3]:List D))∧∃len4:Nat,(Idx prog σ d3 1 len4)∧((0:Int)≤n5)∧(n5 < (len4:Int))∧∃row10:List D,(Row σ d3 (Int.toNat n5) row10)∧∃n6:Int,((List.take 1 row10) =([iD n6]:List D))∧a_b (n6 !=(w64 (r+1))) (∃row11:List D,(Row σ d (Int.toNat r) row11)∧∃n7:Int,((List.take 1 (List.drop 2 row11)) =([iD n7]:List D))∧a_j [iD (w64 (n7+1))] σ d (Int.toNat r) 2 (fun Z=>R Z)) ((a_f x)∧∃s5:D,∃i5 off5:Nat,(x=(.el s5 i5 off5:D))∧∃row11:List D,(Row σ d (Int.toNat r) row11)∧∃n7:Int,((List.take 1 (List.drop 3 row11)) =([iD n7]:List D))∧Fw.newObj σ (.live a_i [[iD (w64 (n+n1))],[iD n7]]) (fun id Z=>DCalls prog g_k [.one (.el s5 i5 (off5+0)),iA n5, .one (.osl id 0 2)] Z (fun r1 Z1=>∃b:Bool,(r1=(.a (bA b) :RV))∧a_b b (DCalls prog d_d [.one x,iA n5] Z1 (fun r2 Z2=>(r2=(.tup []:RV))∧∃row12:List D,(Row Z2 d (Int.toNat r) row12)∧∃n8:Int,((List.take 1 (List.drop 2 row12)) =([iD n8]:List D))∧a_j [iD (w64 (n8+1))] Z2 d (Int.toNat r) 2 (fun Z3=>(a_f x)∧∃s6:D,∃i6 off6:Nat,(x=(.el s6 i6 off6:D))∧∃row13:List D,(Row Z3 s6 i6 row13)∧∃n9:Int,((List.take 1 (List.drop (off6+20) row13)) =([iD n9]:List D))∧a_j [iD n9] Z3 d (Int.toNat r) 3 (fun Z4=>R Z4)))) (R Z1))))) (R σ))
theorem p_3 (x:D)(r:Int)(σ:Store)(Qp:RV→Store→Prop)(h:q_i x r σ Qp) :DCalls prog c_a [.one x,iA r] σ Qp:=
 a_a mixed (by kernel_rfl) Tryz.func121 o_s (Eq.mp (by kernel_rfl) h)
def q_6:Ann:= { loops:= [(3,{ mods:= [(5,s6),(13,s6)],keep:= [11,12] })] }
def t_f (r:D)(n:Int)(σ:Store)(Qp:RV→Store→Prop) :Prop:=
 DCalls prog h_b [.one r,iA 0,iA n] σ (fun r1 Z=>∃s:ByteArray,(r1=(.a (.one (.str s)) :RV))∧∃len:Nat,(Len (.sl 1 (d_j s)) len)∧∃I:Int→Int→Store→Prop,∃μ:Int→Int→Store→Nat,(I 0 0 Z)∧∀n1 n2:Int,∀Z1,(I n1 n2 Z1)→a_b (decide (n2 < (len:Int))) (∃len1:Nat,(Idx prog Z1 (.sl 1 (d_j s)) 1 len1)∧((0:Int)≤n2)∧(n2 < (len1:Int))∧∃row:List D,(Row Z1 (.sl 1 (d_j s)) (Int.toNat n2) row)∧∃n3:Int,((List.take 1 row) =([.int .u8 n3]:List D))∧(I (w64 (BitVec.toNat ((BitVec.ofInt 64 (w64 (n1 * (2 ^ 8)))) ||| (BitVec.ofInt 64 (w64 n3))) :Int)) (w64 (n2+1)) Z1)∧((μ (w64 (BitVec.toNat ((BitVec.ofInt (IntKind.bits .i64) (w64 (n1 * (2 ^ (Min.min (Int.toNat 8) (IntKind.bits .i64)))))) ||| (BitVec.ofInt (IntKind.bits .i64) (w64 n3))) :Int)) (w64 (n2+1)) Z1) < (μ n1 n2 Z1))) (Qp (.a (iA n1)) Z1))
theorem u_p (r:D)(n:Int)(σ:Store)(Qp:RV→Store→Prop)(h:t_f r n σ Qp) :DCalls prog d_g [.one r,iA n] σ Qp:=
 a_a mixed (by kernel_rfl) Tryz.func125 q_6 (Eq.mp (by kernel_rfl) h)
def v_4:Ann:= { cbs:= [2,3],draws:= [(3,{ ord:= [0,1,2,3,4,6,7,5,8,9,10,11],nb:= [1,2,7] }),(5,{ ord:= [0,1,2,3,4,5,6,7],nb:= [1] })] }
def y_o (p0 p1 p2 p3 p4:D)(p5 p6 p7 p8 r0 r1:Int)(r2 r3 r4:D)(r5:Bool)(σ:Store)(Qp:RV→Store→Prop) :Prop:=
 DCalls prog i_p [.agg [p0,p1,p2,p3,p4,iD p5,iD p6,iD p7,iD p8], .agg [iD r0,iD r1,r2,r3,r4, .bool r5]] σ (fun r Z=>∃b:Bool,(r=(.a (bA b) :RV))∧a_b (!b) (Qp (.a (iA 9)) Z) (DCalls prog c_1 [.agg [p0,p1,p2,p3,p4,iD p5,iD p6,iD p7,iD p8], .agg [iD r0,iD r1,r2,r3,r4, .bool r5]] Z (fun r6 Z1=>∃n:Int,(r6=(.a (iA n) :RV))∧DCalls prog h_l [.agg [p0,p1,p2,p3,p4,iD p5,iD p6,iD p7,iD p8],iA n, .one r2] Z1 (fun r7 Z2=>∃d:D,(r7=(.a (.one d) :RV))∧DCalls prog g_d [.one r3, .one d] Z2 (fun r8 Z3=>∃b1:Bool,(r8=(.a (bA b1) :RV))∧a_b (!b1) (Qp (.a (iA 10)) Z3) (DCalls prog g_h [.agg [p0,p1,p2,p3,p4,iD p5,iD p6,iD p7,iD p8], .agg [iD r0,iD r1,r2,r3,r4, .bool r5]] Z3 (fun r9 Z4=>∃d1:D,(r9=(.a (.one d1) :RV))∧DCalls prog g_6 [.one r4, .one d1] Z4 (fun r10 Z5=>∃b2:Bool,(r10=(.a (bA b2) :RV))∧a_b (!b2) (Qp (.a (iA 11)) Z5) (Qp (.a (iA 0)) Z5)))))))))
theorem x_o (p0 p1 p2 p3 p4:D)(p5 p6 p7 p8 r0 r1:Int)(r2 r3 r4:D)(r5:Bool)(σ:Store)(Qp:RV→Store→Prop)(h:y_o p0 p1 p2 p3 p4 p5 p6 p7 p8 r0 r1 r2 r3 r4 r5 σ Qp) :DCalls prog h_2 [.agg [p0,p1,p2,p3,p4,iD p5,iD p6,iD p7,iD p8], .agg [iD r0,iD r1,r2,r3,r4, .bool r5]] σ Qp:=
 a_a mixed (by kernel_rfl) Tryz.func129 v_4 (Eq.mp (by kernel_rfl) h)
def a_pb:Ann:= { loops:= [(2,{ mods:= [(15,s6)],keep:= [1,2,13,14] })] }
def a_ry (kind in_ out_:Int)(σ:Store)(Qp:RV→Store→Prop) :Prop:=
 DCalls prog l_y [iA kind] σ (fun r Z=>∃d:D,(r=(.a (.one d) :RV))∧∃len:Nat,(Len d len)∧∃I:Int→Store→Prop,∃μ:Int→Store→Nat,(I 0 Z)∧∀n:Int,∀Z1,(I n Z1)→a_b (decide (n < (len:Int))) (∃len1:Nat,(Idx prog Z1 d 3 len1)∧((0:Int)≤n)∧(n < (len1:Int))∧∃row:List D,(Row Z1 d (Int.toNat n) row)∧∃n1 n2 n3:Int,((List.take 3 row) =([iD n1,iD n2,iD n3]:List D))∧DCalls prog i_s [.agg [iD n1,iD n2,iD n3],iA in_] Z1 (fun r1 Z2=>∃n4:Int,∃b:Bool,(r1=(.tup [iA n4,bA b]:RV))∧a_b b (a_b (n4 == out_) (Qp (.tup [iA n3,bA true]) Z2) ((I (w64 (n+1)) Z2)∧((μ (w64 (n+1)) Z2) < (μ n Z1)))) ((I (w64 (n+1)) Z2)∧((μ (w64 (n+1)) Z2) < (μ n Z1))))) (Qp (.tup [iA 0,bA false]) Z1))
theorem a_rb (kind in_ out_:Int)(σ:Store)(Qp:RV→Store→Prop)(h:a_ry kind in_ out_ σ Qp) :DCalls prog o_j [iA kind,iA in_,iA out_] σ Qp:=
 a_a mixed (by kernel_rfl) Tryz.func133 a_pb (Eq.mp (by kernel_rfl) h)
def a_bd:Ann:= { cbs:= [2],draws:= [(3,{ ord:= [0,1,2,3,4,5,6,7,8] })] }
def a_cs (c0 c1 c2 c3 c4:D)(c5 c6 c7 c8 r:Int)(σ:Store)(Qp:RV→Store→Prop) :Prop:=
 a_b (decide (r < 0)) (Qp (.a (iA (-1))) σ) (∃len:Nat,(Len c4 len)∧a_b (decide (r≥(len:Int))) (Qp (.a (iA (-1))) σ) (∃len1:Nat,(Idx prog σ c4 6 len1)∧((0:Int)≤r)∧(r < (len1:Int))∧∃row:List D,(Row σ c4 (Int.toNat r) row)∧∃n n1:Int,∃d d1 d2:D,∃b:Bool,((List.take 6 row) =([iD n,iD n1,d,d1,d2, .bool b]:List D))∧DCalls prog c_1 [.agg [c0,c1,c2,c3,c4,iD c5,iD c6,iD c7,iD c8], .agg [iD n,iD n1,d,d1,d2, .bool b]] σ (fun r1 Z=>∃n2:Int,(r1=(.a (iA n2) :RV))∧Qp (.a (iA n2)) Z)))
theorem a_eb (c0 c1 c2 c3 c4:D)(c5 c6 c7 c8 r:Int)(σ:Store)(Qp:RV→Store→Prop)(h:a_cs c0 c1 c2 c3 c4 c5 c6 c7 c8 r σ Qp) :DCalls prog g_z [.agg [c0,c1,c2,c3,c4,iD c5,iD c6,iD c7,iD c8],iA r] σ Qp:=
 a_a mixed (by kernel_rfl) Tryz.func138 a_bd (Eq.mp (by kernel_rfl) h)
def n_8:Ann:= { draws:= [(1,{ ord:= [0,1,2,3,4,5,6,7,8,9,10,11] })] }
def o_u (s:Int)(a1 a2:D)(σ:Store)(Qp:RV→Store→Prop) :Prop:=
 ∃s1:D,∃i off:Nat,(a1=(.el s1 i off:D))∧∃row:List D,(Row σ s1 i row)∧∃d:D,((List.take 1 (List.drop off row)) =([d]:List D))∧(a_f d)∧∃s2:D,∃i1 off1:Nat,(d=(.el s2 i1 off1:D))∧∃row1:List D,(Row σ s2 i1 row1)∧∃d1:D,((List.take 1 (List.drop ((off1+13) +0) row1)) =([d1]:List D))∧∃len:Nat,(Idx prog σ d1 1 len)∧((0:Int)≤s)∧(s < (len:Int))∧∃row2:List D,(Row σ d1 (Int.toNat s) row2)∧∃n:Int,((List.take 1 row2) =([iD n]:List D))∧∃s3:D,∃i2 off2:Nat,(a2=(.el s3 i2 off2:D))∧∃row3:List D,(Row σ s3 i2 row3)∧∃n1:Int,((List.take 1 (List.drop off2 row3)) =([iD n1]:List D))∧Qp (.a (.one (.bool (n !=(w64 (n1+1)))))) σ
theorem p_j (s:Int)(a1 a2:D)(σ:Store)(Qp:RV→Store→Prop)(h:o_u s a1 a2 σ Qp) :DCalls prog e_y [iA s, .one a1, .one a2] σ Qp:=
 a_a mixed (by kernel_rfl) Tryz.func142 n_8 (Eq.mp (by kernel_rfl) h)
def u_b:Ann:= { loops:= [(1,{ mods:= [(13,s6)],keep:= [0,1,11,12] })] }
def w_k (x:D)(r:Int)(σ:Store)(Qp:RV→Store→Prop) :Prop:=
 (a_f x)∧∃s:D,∃i off:Nat,(x=(.el s i off:D))∧∃row:List D,(Row σ s i row)∧∃d:D,((List.take 1 (List.drop ((off+13) +0) row)) =([d]:List D))∧∃len:Nat,(Len d len)∧∃I:Int→Store→Prop,∃μ:Int→Store→Nat,(I 0 σ)∧∀n:Int,∀Z,(I n Z)→a_b (decide (n < (len:Int))) (∃len1:Nat,(Idx prog Z d 1 len1)∧((0:Int)≤n)∧(n < (len1:Int))∧∃row1:List D,(Row Z d (Int.toNat n) row1)∧∃n1:Int,((List.take 1 row1) =([iD n1]:List D))∧a_b (n1 ==(w64 (r+1))) (DCalls prog d_d [.one x,iA n] Z (fun r1 Z1=>(r1=(.tup []:RV))∧(I (w64 (n+1)) Z1)∧((μ (w64 (n+1)) Z1) < (μ n Z)))) ((I (w64 (n+1)) Z)∧((μ (w64 (n+1)) Z) < (μ n Z)))) (DCalls prog e_h [.one x,iA r] Z (fun r1 Z1=>∃d1:D,(r1=(.a (.one d1) :RV))∧∃b:Bool,(i_d .pt d1 b)∧a_b (b != true) ((a_f d1)∧∃s1:D,∃i1 off1:Nat,(d1=(.el s1 i1 off1:D))∧∃row1:List D,(Row Z1 s1 i1 row1)∧∃n1:Int,((List.take 1 (List.drop (off1+0) row1)) =([iD n1]:List D))∧(a_f d1)∧∃s2:D,∃i2 off2:Nat,(d1=(.el s2 i2 off2:D))∧a_j [iD n1] Z1 s2 i2 (off2+1) (fun Z2=>(a_f x)∧∃s3:D,∃i3 off3:Nat,(x=(.el s3 i3 off3:D))∧∃row2:List D,(Row Z2 s3 i3 row2)∧∃d2:D,((List.take 1 (List.drop ((off3+13) +1) row2)) =([d2]:List D))∧∃len1:Nat,(Idx prog Z2 d2 4 len1)∧((0:Int)≤r)∧(r < (len1:Int))∧a_j [iD 0,iD 0,iD 0,iD 0] Z2 d2 (Int.toNat r) 0 (fun Z3=>(a_f x)∧∃s4:D,∃i4 off4:Nat,(x=(.el s4 i4 off4:D))∧a_j [.bool true] Z3 s4 i4 ((off4+13) +6) (fun Z4=>Qp (.tup []) Z4)))) ((a_f x)∧∃s1:D,∃i1 off1:Nat,(x=(.el s1 i1 off1:D))∧∃row1:List D,(Row Z1 s1 i1 row1)∧∃d2:D,((List.take 1 (List.drop ((off1+13) +1) row1)) =([d2]:List D))∧∃len1:Nat,(Idx prog Z1 d2 4 len1)∧((0:Int)≤r)∧(r < (len1:Int))∧a_j [iD 0,iD 0,iD 0,iD 0] Z1 d2 (Int.toNat r) 0 (fun Z2=>(a_f x)∧∃s2:D,∃i2 off2:Nat,(x=(.el s2 i2 off2:D))∧a_j [.bool true] Z2 s2 i2 ((off2+13) +6) (fun Z3=>Qp (.tup []) Z3)))))
theorem v_8 (x:D)(r:Int)(σ:Store)(Qp:RV→Store→Prop)(h:w_k x r σ Qp) :DCalls prog h_c [.one x,iA r] σ Qp:=
 a_a mixed (by kernel_rfl) Tryz.func146 u_b (Eq.mp (by kernel_rfl) h)
def a_ds:Ann:= { }
def a_e3 (n lo hi:Int)(σ:Store)(Qp:RV→Store→Prop) :Prop:=
 a_b (decide (lo≤n)) (Qp (.a (.one (.bool (decide (n≤hi))))) σ) (Qp (.a (bA false)) σ)
theorem a_fl (n lo hi:Int)(σ:Store)(Qp:RV→Store→Prop)(h:a_e3 n lo hi σ Qp) :DCalls prog d_r [iA n,iA lo,iA hi] σ Qp:=
 a_a mixed (by kernel_rfl) Tryz.func150 a_ds (Eq.mp (by kernel_rfl) h)
def y_x:Ann:= { cbs:= [2,3],loops:= [(7,{ mods:= [(5,SlotSh.bx [Sh.int IntKind.i64,Sh.int IntKind.i64]),(63,s6)],keep:= [2,3,7,8,9,61,62] })],joins:= [(5,{ keep:= [2,3,5,7,8] }),(18,{ mods:= [(5,SlotSh.bx [Sh.int IntKind.i64,Sh.int IntKind.i64])],keep:= [2,3,7,8,9,61,62,63] }),(16,{ mods:= [(20,SlotSh.one (Sh.bool))],keep:= [2,3,5,7,8,9,11,12,13,14,15,18,19,61,62,63] })] }
def a_a2 (p0 p1 p2 p3 p4:D)(p5 p6 p7 p8 r0 r1:Int)(r2 r3 r4:D)(r5:Bool)(σ:Store)(Qp:RV→Store→Prop) :Prop:=
 DCalls prog c_y [.agg [p0,p1,p2,p3,p4,iD p5,iD p6,iD p7,iD p8],iA r0] σ (fun r Z=>∃n n1:Int,∃b:Bool,(r=(.tup [.agg [iD n,iD n1],bA b]:RV))∧DCalls prog c_y [.agg [p0,p1,p2,p3,p4,iD p5,iD p6,iD p7,iD p8],iA r1] Z (fun r6 Z1=>∃n2 n3:Int,∃b1:Bool,(r6=(.tup [.agg [iD n2,iD n3],bA b1]:RV))∧∀R:Store→Prop,(∀Z2,(Fw.newObj Z2 (.mp 0 []) (fun id Z3=>MPut prog a_i Z3 (.omap id) (iA n) (iA 1) (fun Z4=>∃len:Nat,(Len r2 len)∧∃I:Int→Int→Int→Store→Prop,∃μ:Int→Int→Int→Store→Nat,(I n n1 0 Z4)∧∀n4 n5 n6:Int,∀Z5,(I n4 n5 n6 Z5)→a_b (decide (n6 < (len:Int))) (∀R1:Int→Int→Store→Prop,(∀n7 n8:Int,∀Z6,((([[iD n2,iD n3]]:List (List D)) =([[iD n2,iD n3]]:List (List D)))∧(I n7 n8 (w64 (n6+1)) Z6)∧((μ n7 n8 (w64 (n6+1)) Z6) < (μ n4 n5 n6 Z5)))→R1 n7 n8 Z6)→∃len1:Nat,(Idx prog Z5 r2 3 len1)∧((0:Int)≤n6)∧(n6 < (len1:Int))∧∃row:List D,(Row Z5 r2 (Int.toNat n6) row)∧∃n7 n8 n9:Int,((List.take 3 row) =([iD n7,iD n8,iD n9]:List D))∧DCalls prog f_p [.one p1,iA n4,iA n5] Z5 (fun r7 Z6=>∃n10 n11:Int,∃b2:Bool,(r7=(.tup [iA n10,iA n11,bA b2]:RV))∧DCalls prog b_2 [.agg [p0,p1,p2,p3,p4,iD p5,iD p6,iD p7,iD p8],iA n10] Z6 (fun r8 Z7=>∃n12 n13 n14:Int,∃b3:Bool,(r8=(.tup [.agg [iD n12,iD n13,iD n14],bA b3]:RV))∧DCalls prog o_j [iA n12,iA n8,iA n9] Z7 (fun r9 Z8=>∃n15:Int,∃b4:Bool,(r9=(.tup [iA n15,bA b4]:RV))∧∃r10:Option A,(j_b prog a_i Z8 (.omap id) (iA n10) r10)∧∃n16:Int,((Option.getD r10 (iA 0)) =(iA n16:A))∧MPut prog a_i Z8 (.omap id) (iA n10) (.one (iD (w64 (n16+1)))) (fun Z9=>DCalls prog e_f [.one p2, .agg [iD n7,iD n9]] Z9 (fun r11 Z10=>∃b5:Bool,(r11=(.a (bA b5) :RV))∧∀R2:Bool→Store→Prop,(∀b6:Bool,∀Z11,(a_b (!b2) (Qp (.a (bA false)) Z11) (a_b (n10 != n7) (Qp (.a (bA false)) Z11) (a_b (n11 != n8) (Qp (.a (bA false)) Z11) (a_b (!b4) (Qp (.a (bA false)) Z11) (∃r12:Option A,(j_b prog a_i Z11 (.omap id) (iA n10) r12)∧∃n17:Int,((Option.getD r12 (iA 0)) =(iA n17:A))∧a_b (decide (n17 > 1)) (Qp (.a (bA false)) Z11) (a_b b5 (a_b (!b6) (Qp (.a (bA false)) Z11) (a_b r5 (a_b (n14 != 0) (Qp (.a (bA false)) Z11) ((([[iD n2,iD n3]]:List (List D)) =([[iD n2,iD n3]]:List (List D)))∧R1 n7 n9 Z11)) ((([[iD n2,iD n3]]:List (List D)) =([[iD n2,iD n3]]:List (List D)))∧R1 n7 n9 Z11))) (a_b r5 (a_b (n14 != 0) (Qp (.a (bA false)) Z11) ((([[iD n2,iD n3]]:List (List D)) =([[iD n2,iD n3]]:List (List D)))∧R1 n7 n9 Z11)) ((([[iD n2,iD n3]]:List (List D)) =([[iD n2,iD n3]]:List (List D)))∧R1 n7 n9 Z11))))))))→R2 b6 Z11)→∃len2:Nat,(Len r2 len2)∧a_b (n6 ==(w64 ((len2:Int) - 1))) (a_b b1 ((([[iD n7,iD n9],[iD n2,iD n3],[iD n7,iD n8,iD n9],[iD n12,iD n13,iD n14]]:List (List D)) =([[iD n7,iD n9],[iD n2,iD n3],[iD n7,iD n8,iD n9],[iD n12,iD n13,iD n14]]:List (List D)))∧R2 ((n7 == n2) && (n9 == n3)) Z10) ((([[iD n7,iD n9],[iD n2,iD n3],[iD n7,iD n8,iD n9],[iD n12,iD n13,iD n14]]:List (List D)) =([[iD n7,iD n9],[iD n2,iD n3],[iD n7,iD n8,iD n9],[iD n12,iD n13,iD n14]]:List (List D)))∧R2 false Z10)) ((([[iD n7,iD n9],[iD n2,iD n3],[iD n7,iD n8,iD n9],[iD n12,iD n13,iD n14]]:List (List D)) =([[iD n7,iD n9],[iD n2,iD n3],[iD n7,iD n8,iD n9],[iD n12,iD n13,iD n14]]:List (List D)))∧R2 false Z10))))))) (a_b b1 (Qp (.a (.one (.bool ((n4 == n2) && (n5 == n3))))) Z5) (DCalls prog f_p [.one p1,iA n4,iA n5] Z5 (fun r7 Z6=>∃n7 n8:Int,∃b2:Bool,(r7=(.tup [iA n7,iA n8,bA b2]:RV))∧Qp (.a (bA (!b2))) Z6))))))→R Z2)→a_b (!b) (Qp (.a (bA false)) Z1) (a_b (!b1) (a_b (r1 !=(-1)) (Qp (.a (bA false)) Z1) (∃len:Nat,(Len r2 len)∧DCalls prog c_4 [iA (len:Int),iA 1,iA 8] Z1 (fun r7 Z2=>∃b2:Bool,(r7=(.a (bA b2) :RV))∧a_b (!b2) (Qp (.a (bA false)) Z2) ((([[iD n,iD n1],[iD n2,iD n3]]:List (List D)) =([[iD n,iD n1],[iD n2,iD n3]]:List (List D)))∧R Z2)))) (∃len:Nat,(Len r2 len)∧DCalls prog c_4 [iA (len:Int),iA 1,iA 8] Z1 (fun r7 Z2=>∃b2:Bool,(r7=(.a (bA b2) :RV))∧a_b (!b2) (Qp (.a (bA false)) Z2) ((([[iD n,iD n1],[iD n2,iD n3]]:List (List D)) =([[iD n,iD n1],[iD n2,iD n3]]:List (List D)))∧R Z2))))))
theorem a_bn (p0 p1 p2 p3 p4:D)(p5 p6 p7 p8 r0 r1:Int)(r2 r3 r4:D)(r5:Bool)(σ:Store)(Qp:RV→Store→Prop)(h:a_a2 p0 p1 p2 p3 p4 p5 p6 p7 p8 r0 r1 r2 r3 r4 r5 σ Qp) :DCalls prog i_p [.agg [p0,p1,p2,p3,p4,iD p5,iD p6,iD p7,iD p8], .agg [iD r0,iD r1,r2,r3,r4, .bool r5]] σ Qp:=
 a_a mixed (by kernel_rfl) Tryz.func154 y_x (Eq.mp (by kernel_rfl) h)
def t_s:Ann:= { draws:= [(6,{ ord:= [0,1,2,3,4,5,6,7,8] })],loops:= [(4,{ mods:= [(13,s6)],keep:= [0,1,12] })] }
def x_c (s1 s2:D)(σ:Store)(Qp:RV→Store→Prop) :Prop:=
 ∃len:Nat,(Len s1 len)∧∃len1:Nat,(Len s2 len1)∧a_b ((len:Int) !=(len1:Int)) (Qp (.a (bA false)) σ) (∃len2:Nat,(Len s1 len2)∧∃I:Int→Store→Prop,∃μ:Int→Store→Nat,(I 0 σ)∧∀n:Int,∀Z,(I n Z)→a_b (decide (n < (len2:Int))) (∃len3:Nat,(Idx prog Z s1 1 len3)∧((0:Int)≤n)∧(n < (len3:Int))∧∃row:List D,(Row Z s1 (Int.toNat n) row)∧∃n1:Int,((List.take 1 row) =([iD n1]:List D))∧∃len4:Nat,(Idx prog Z s2 1 len4)∧((0:Int)≤n)∧(n < (len4:Int))∧∃row1:List D,(Row Z s2 (Int.toNat n) row1)∧∃n2:Int,((List.take 1 row1) =([iD n2]:List D))∧a_b (n1 != n2) (Qp (.a (bA false)) Z) ((I (w64 (n+1)) Z)∧((μ (w64 (n+1)) Z) < (μ n Z)))) (Qp (.a (bA true)) Z))
theorem v_z (s1 s2:D)(σ:Store)(Qp:RV→Store→Prop)(h:x_c s1 s2 σ Qp) :DCalls prog g_6 [.one s1, .one s2] σ Qp:=
 a_a mixed (by kernel_rfl) Tryz.func158 t_s (Eq.mp (by kernel_rfl) h)
def m_q:Ann:= { loops:= [(2,{ mods:= [(8,s6)],keep:= [0,1,7] })] }
def n_x (s f:D)(σ:Store)(Qp:RV→Store→Prop) :Prop:=
 ∃len:Nat,(Len s len)∧∃I:Int→Store→Prop,∃μ:Int→Store→Nat,(I 0 σ)∧∀n:Int,∀Z,(I n Z)→a_b (decide (n < (len:Int))) (∃len1:Nat,(Idx prog Z s 3 len1)∧((0:Int)≤n)∧(n < (len1:Int))∧∃row:List D,(Row Z s (Int.toNat n) row)∧∃n1 n2 n3:Int,((List.take 3 row) =([iD n1,iD n2,iD n3]:List D))∧∃f1:FuncId,∃a:List (Bool × (List D)),∃b:List (Bool × (List D)),∃as0':List A,∃bs:List A,(f=(.fn f1 a b:D))∧((f_v a) =(Option.some as0'))∧((f_v b) =(Option.some bs))∧DCalls prog f1 (HAppend.hAppend (HAppend.hAppend as0' [.agg [iD n1,iD n2,iD n3]]) bs) Z (fun r Z1=>∃b1:Bool,(r=(.a (bA b1) :RV))∧a_b b1 (Qp (.a (iA n)) Z1) ((I (w64 (n+1)) Z1)∧((μ (w64 (n+1)) Z1) < (μ n Z))))) (Qp (.a (iA (-1))) Z)
theorem n_h (s f:D)(σ:Store)(Qp:RV→Store→Prop)(h:n_x s f σ Qp) :DCalls prog e_m [.one s, .one f] σ Qp:=
 a_a mixed (by kernel_rfl) Tryz.func162 m_q (Eq.mp (by kernel_rfl) h)
def u_c:Ann:= { cbs:= [2] }
def v_9 (p0 p1 p2 p3 p4:D)(p5 p6 p7 p8 x:Int)(σ:Store)(Qp:RV→Store→Prop) :Prop:=
 a_b (decide (x < 0)) (Qp (.tup [.agg [iD 0,iD 0],bA false]) σ) (∃len:Nat,(Len p2 len)∧a_b (decide (x≥(len:Int))) (Qp (.tup [.agg [iD 0,iD 0],bA false]) σ) (∃len1:Nat,(Idx prog σ p2 2 len1)∧((0:Int)≤x)∧(x < (len1:Int))∧∃row:List D,(Row σ p2 (Int.toNat x) row)∧∃n n1:Int,((List.take 2 row) =([iD n,iD n1]:List D))∧Qp (.tup [.agg [iD n,iD n1],bA true]) σ))
theorem w_r (p0 p1 p2 p3 p4:D)(p5 p6 p7 p8 x:Int)(σ:Store)(Qp:RV→Store→Prop)(h:v_9 p0 p1 p2 p3 p4 p5 p6 p7 p8 x σ Qp) :DCalls prog c_y [.agg [p0,p1,p2,p3,p4,iD p5,iD p6,iD p7,iD p8],iA x] σ Qp:=
 a_a mixed (by kernel_rfl) Tryz.func168 u_c (Eq.mp (by kernel_rfl) h)
def r_i:Ann:= { cbs:= [2] }
def t_4 (n0 n1:Int)(a1:D)(σ:Store)(Qp:RV→Store→Prop) :Prop:=
 ∃s:D,∃i off:Nat,(a1=(.el s i off:D))∧∃row:List D,(Row σ s i row)∧∃n:Int,((List.take 1 (List.drop off row)) =([iD n]:List D))∧Qp (.a (bA (n0 == n))) σ
theorem t_7 (n0 n1:Int)(a1:D)(σ:Store)(Qp:RV→Store→Prop)(h:t_4 n0 n1 a1 σ Qp) :DCalls prog g_a [.agg [iD n0,iD n1], .one a1] σ Qp:=
 a_a mixed (by kernel_rfl) Tryz.func172 r_i (Eq.mp (by kernel_rfl) h)
end Go.Proofs.YtdmfnhbmhkgemaaGreat
end
