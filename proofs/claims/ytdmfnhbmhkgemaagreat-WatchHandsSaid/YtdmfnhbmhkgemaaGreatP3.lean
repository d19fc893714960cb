/-
  Proofs that the statement of this claim leans on: part 3.
-/
import Derived.Test.YtdmfnhbmhkgemaaGreatP2
set_option linter.unusedVariables false
set_option linter.unusedSimpArgs false
namespace Go.Fw
open Go.ChangeShapes Go.WideShapes Go.RowKit
section
def tyF (P:Program)(ty:TypeId→List D→Prop) :List Field→List D→Prop
 | [],ds=>ds=[]
 | f::fs,ds=>∃a b,ds=a ++ b∧a.length=P.cellsOf f.type∧ty f.type a∧tyF P ty fs b
def tyR (P:Program)(ty:TypeId→List D→Prop)(e:TypeId) :Nat→List D→Prop
 | 0,ds=>ds=[]
 | n+1,ds=>∃a b,ds=a ++ b∧a.length=P.cellsOf e∧ty e a∧tyR P ty e n b
def tyD (P:Program) :Nat→TypeId→List D→Prop
 | 0,_,_=>False
 | n+1,t,ds=>match P.underlying t with
   | some .bool=>∃b,ds=[.bool b]
   | some (.int k)=>∃m,ds=[.int k m]∧(Lit.int k m).wf=true
   | some .string=>∃s,ds=[.str s]∧s.size≤140737488351232
   | some (.slice e)=>ds=[.nils]∨∃rows,ds=[.sl (P.cellsOf e) rows]∧rows.length * P.bytesOf e≤140737488351232∧∀row ∈ rows,tyD P n e row
   | some (.struct fs)=>tyF P (tyD P n) fs.toList ds
   | some (.array m e)=>tyR P (tyD P n) e m ds
   | _=>False
def z_0 (P:Program) :Nat→List Field→Nat→Bool
 | o,[],n=>Nat.beq o n
 | o,f::fs,n=>Nat.beq f.offset o && z_0 P (o+P.cellsOf f.type) fs n
def f_7 (P:Program) :Nat→TypeId→Bool
 | 0,_=>false
 | n+1,t=>match P.underlying t with
   | some .bool=>true
   | some (.int _)=>true
   | some .string=>true
   | some (.slice e)=>f_7 P n e && decide (0 < P.cellsOf e)
   | some (.struct fs)=>z_0 P 0 fs.toList (P.cellsOf t) && fs.toList.all fun f=>f_7 P n f.type
   | some (.array m e)=>f_7 P n e && Nat.beq (m * P.cellsOf e) (P.cellsOf t)
   | _=>false
def TyA (P:Program)(t:TypeId) :A→Prop
 | .one d=>b_u P t=some false∧tyD P 30 t [d]
 | .agg cs=>b_u P t=some true∧tyD P 30 t cs
def TyAs (P:Program) :List TypeId→List A→Prop
 | [],as0=>as0=[]
 | t::ts,as0=>∃a r,as0=a::r∧TyA P t a∧TyAs P ts r
section
variable {H:Type} {enc:TypeId × Value→H} {P:Program} {w:World}
abbrev t_a (w:World) :Nat→Prop:=fun b=>b < w.heap.size
abbrev noB:Bk:=fun _=>none
abbrev noS:Store:=fun _=> .free
theorem a_xi:SRel P (t_a w) noB w noS where
 fin:=⟨0,fun _ _=>rfl⟩
 dom i:=by simp
 klt b hb:=hb
 blt i bi h:=by cases h
 inj i j bi bj h:=by cases h
 notk i bi h:=by cases h
 obj i bi t rows h:=by cases h
 omap i bi c es h:=by cases h
theorem i_8 {base:Nat}{a:Addr}{n:Nat}{cs:List Value}(h:w.cells? base a n=some cs) :cs.length=n∧∀(j:Nat) v,cs[j]? =some v→w.cell? (a.add j) =some v:=by
 unfold World.cells? at h
 split at h
 · have hl:=mapM_some_length h
   refine ⟨by simpa using hl,fun j v hv=>?_⟩
   have hlt:=(List.getElem?_eq_some_iff.1 hv).1
   have hn:cs.length=n:=by simpa using hl
   have:=mapM_some_get h j j (by simp[show j < n by omega])
   rw[this,hv]
 · cases h
theorem a_wm {a:Addr}{v:Value}(h:w.cell? a=some v) :a.block < w.heap.size∧a.spot=none:=by
 unfold World.cell? at h
 split at h
 · rename_i c t fr hb
   refine ⟨(Array.getElem?_eq_some_iff.1 hb).1,?_⟩
   split at h
   · cases h
   · rename_i hs;simpa using hs
 · cases h
theorem a_jj {β : Bk} (n : Nat) (ih : ∀ (t : TypeId) (cs : List Value), f_7 P n t = true → ∀ (fuel : Nat) (x : DataW H × List MemPlace), DataW.trod enc P w 0 (fun _ => true) true fuel t cs = some x →
     (∀m ∈ x.1.weights P t,m≤140737488351232)→∃ds,VL (t_a w) β w cs ds∧tyD P n t ds) (cs:List Value) (m:Nat) :
   ∀(fs:List Field) (o:Nat) (xs:List (DataW H × List MemPlace)),z_0 P o fs cs.length=true→(∀f ∈ fs,f_7 P n f.type=true)→xs.length=fs.length→
     (∀(i:Nat) (f:Field),fs[i]? =some f→DataW.trod enc P w 0 (fun _=>true) true m f.type ((cs.drop f.offset).take (P.cellsOf f.type)) =xs[i]?)→
     (∀q ∈ DataW.weightsEach P (fs.map (·.type)) (xs.map (·.1)),q≤140737488351232)→o≤cs.length→∃ds,VL (t_a w) β w (cs.drop o) ds∧tyF P (tyD P n) fs ds
 | [],o,xs,ht,_,_,_,_,ho=>by
   have:o=cs.length:=Nat.eq_of_beq_eq_true ht
   subst this
   exact ⟨[],by simp[VL],rfl⟩
 | f::fs,o,xs,ht,hp,hl,he,hw,ho=>by
   simp only[z_0,Bool.and_eq_true] at ht
   have hfo:=Nat.eq_of_beq_eq_true ht.1
   cases xs with
   | nil=>simp at hl
   | cons x xs=>
     have h0:=he 0 f rfl
     rw[hfo] at h0
     simp only[List.map_cons,DataW.weightsEach,List.mem_append] at hw
     have tl:∀(fs:List Field) (o:Nat),z_0 P o fs cs.length=true→o≤cs.length:=by
       intro fs
       induction fs with
       | nil=>intro o h;exact Nat.le_of_eq (Nat.eq_of_beq_eq_true h)
       | cons g gs ihg=>intro o h;simp only[z_0,Bool.and_eq_true] at h;have:=ihg _ h.2;omega
     have hle:=tl _ _ ht.2
     obtain ⟨a,hva,hta⟩:=ih f.type _ (hp f (by simp)) m x (by simpa using h0) (fun q hq=>hw q (.inl hq))
     obtain ⟨b,hvb,htb⟩:=a_jj n ih cs m fs (o+P.cellsOf f.type) xs ht.2 (fun g hg=>hp g (by simp[hg])) (by simpa using hl) (fun i g hg=>by have:=he (i+1) g (by simpa using hg);simpa using this)
       (fun q hq=>hw q (.inr hq)) hle
     refine ⟨a ++ b,?_,a,b,rfl,?_,hta,htb⟩
     · have:=hva.append hvb
       have e1:List.take (P.cellsOf f.type) (cs.drop o) ++ cs.drop (o+P.cellsOf f.type) =cs.drop o:=by
         rw[←List.drop_drop];exact List.take_append_drop _ _
       rw[e1] at this;exact this
     · rw[←hva.1,List.length_take,List.length_drop];omega
theorem q_2 {e:TypeId} :∀{ds:List (DataW H)} {d:DataW H} {m:Nat},d ∈ ds→m ∈ d.weights P e→m ∈ DataW.weightsAll P e ds
 | x::r,d,m,hd,hm=>by
   simp only[DataW.weightsAll,List.mem_append]
   rcases List.mem_cons.1 hd with rfl | hd
   · exact .inl hm
   · exact .inr (q_2 hd hm)
theorem a_vy {β : Bk} (n : Nat) (ih : ∀ (t : TypeId) (cs : List Value), f_7 P n t = true → ∀ (fuel : Nat) (x : DataW H × List MemPlace), DataW.trod enc P w 0 (fun _ => true) true fuel t cs = some x →
     (∀m ∈ x.1.weights P t,m≤140737488351232)→∃ds,VL (t_a w) β w cs ds∧tyD P n t ds) (e:TypeId) (hp:f_7 P n e=true) (fuel:Nat) :
   ∀(m:Nat) (cs:List Value) (xs:List (DataW H × List MemPlace)),cs.length=m * P.cellsOf e→xs.length=m→
     (∀i,i < m→DataW.trod enc P w 0 (fun _=>true) true fuel e ((cs.drop (i * P.cellsOf e)).take (P.cellsOf e)) =xs[i]?)→(∀q ∈ DataW.weightsAll P e (xs.map (·.1)),q≤140737488351232)→
     ∃ds,VL (t_a w) β w cs ds∧tyR P (tyD P n) e m ds
 | 0,cs,xs,hl,hx,_,_=>by
   have:cs=[]:=List.eq_nil_of_length_eq_zero (by simpa using hl)
   subst this
   exact ⟨[],by simp[VL],rfl⟩
 | m+1,cs,xs,hl,hx,he,hw=>by
   cases xs with
   | nil=>simp at hx
   | cons x xs=>
     have h0:=he 0 (by omega)
     simp only[List.map_cons,DataW.weightsAll,List.mem_append] at hw
     rw[Nat.add_mul] at hl
     obtain ⟨a,hva,hta⟩:=ih e _ hp fuel x (by simpa using h0) (fun q hq=>hw q (.inl hq))
     obtain ⟨b,hvb,htb⟩:=a_vy n ih e hp fuel m (cs.drop (P.cellsOf e)) xs (by rw[List.length_drop];omega) (by simpa using hx) (fun i hi=>by
       have:=he (i+1) (by omega)
       rw[List.drop_drop,show P.cellsOf e+i * P.cellsOf e=(i+1) * P.cellsOf e by rw[Nat.add_mul];omega,this];rfl) (fun q hq=>hw q (.inr hq))
     refine ⟨a ++ b,?_,a,b,rfl,?_,hta,htb⟩
     · have:=hva.append hvb
       rw[List.take_append_drop] at this;exact this
     · rw[←hva.1,List.length_take];omega
theorem a_d0 {β : Bk} : ∀ (n : Nat) (t : TypeId) (cs : List Value), f_7 P n t = true → ∀ (fuel : Nat) (x : DataW H × List MemPlace), DataW.trod enc P w 0 (fun _ => true) true fuel t cs = some x →
     (∀m ∈ x.1.weights P t,m≤140737488351232)→∃ds,VL (t_a w) β w cs ds∧tyD P n t ds
 | 0,t,cs,hp=>by simp[f_7] at hp
 | n+1,t,cs,hp=>by
   intro fuel x h hw
   have one:∀{v:Value} {d:D},V (t_a w) β w v d→VL (t_a w) β w [v] [d]:=fun hv=>⟨rfl,fun i u y h1 h2=>by
     cases i with
     | zero=>simp at h1 h2;subst h1 h2;exact hv
     | succ i=>simp at h1⟩
   unfold f_7 at hp
   unfold tyD
   split at hp
   · rename_i hu
     obtain ⟨b,rfl,rfl⟩:=DataW.trod_bool hu h
     exact ⟨[.bool b],one (.bool b),b,rfl⟩
   · rename_i q hu
     obtain ⟨m,rfl,rfl,hm⟩:=DataW.trod_int hu h
     exact ⟨[.int q m],one (.int q m),m,rfl,hm⟩
   · rename_i hu
     obtain ⟨s,rfl,rfl,hm⟩:=DataW.trod_string hu h
     exact ⟨[.str s],one (.str s),s,rfl,by have:=hw s.data.toList.length (by simp[DataW.weights]);simpa using this⟩
   · rename_i e hu
     simp only[Bool.and_eq_true,decide_eq_true_eq] at hp
     obtain ⟨hpe,hpos⟩:=hp
     rcases DataW.trod_slice hu h with ⟨rfl,rfl⟩ | ⟨a,len,cap,elems,rest,m,_,rfl,rfl,_,hlc,hcm,hel,hr,_,_⟩
     · exact ⟨[.nils],one .nils, .inl rfl⟩
     · simp only[DataW.weights,hu,List.mem_cons,List.mem_append] at hw
       have each:∀i,i < len→∃cs row,w.cells? 0 (a.add (i * P.cellsOf e)) (P.cellsOf e) =some cs∧VL (t_a w) β w cs row∧tyD P n e row:=by
         intro i hi
         have h1:=hr i hi
         have h2:=List.getElem?_eq_getElem (l:=elems) (i:=i) (by omega)
         rw[h2] at h1
         cases hc:w.cells? 0 (a.add (i * P.cellsOf e)) (P.cellsOf e) with
         | none=>rw[hc] at h1;cases h1
         | some cs=>
           rw[hc] at h1
           obtain ⟨row,r1,r2⟩:=a_d0 n e cs hpe m _ h1 (fun q hq=>hw q (.inr (.inl (q_2 (List.mem_map.2 ⟨_,List.getElem_mem (h:=by omega),rfl⟩) hq))))
           exact ⟨cs,row,rfl,r1,r2⟩
       have each':∀i,∃row,i < len→∃cs,w.cells? 0 (a.add (i * P.cellsOf e)) (P.cellsOf e) =some cs∧VL (t_a w) β w cs row∧tyD P n e row:=fun i=>by
         by_cases hi:i < len
         · obtain ⟨cs,row,h⟩:=each i hi
           exact ⟨row,fun _=>⟨cs,h⟩⟩
         · exact ⟨[],fun h=>absurd h hi⟩
       obtain ⟨F,hF⟩:=Classical.axiomOfChoice each'
       have hget:∀(i:Nat) row,((List.range len).map F)[i]? =some row→i < len∧row=F i:=fun i row hi=>by
         have hlt:=(List.getElem?_eq_some_iff.1 hi).1
         simp at hlt
         simp[List.getElem?_map,List.getElem?_range hlt] at hi
         exact ⟨hlt,hi.symm⟩
       have hsp:0 < len→a.block < w.heap.size∧a.spot=none:=fun h0=>by
         obtain ⟨cs,c1,_,_⟩:=hF 0 h0
         obtain ⟨c2,c3⟩:=i_8 c1
         have:=c3 0 cs[0] (List.getElem?_eq_getElem (by omega))
         simp[Addr.add] at this
         exact a_wm this
       have hcell:∀i j,i < len→j < P.cellsOf e→∃v,w.cell? ⟨a.block,a.off+i * P.cellsOf e+j,none⟩ =some v∧∀d,(F i)[j]? =some d→V (t_a w) β w v d:=by
         intro i j hi hj
         obtain ⟨cs,c1,c2,_⟩:=hF i hi
         obtain ⟨c3,c4⟩:=i_8 c1
         have hg:=List.getElem?_eq_getElem (l:=cs) (i:=j) (by omega)
         have:=c4 j _ hg
         have hsp:=(hsp (by omega)).2
         have e1:(a.add (i * P.cellsOf e)).add j=⟨a.block,a.off+i * P.cellsOf e+j,none⟩:=by
           obtain ⟨b,o',sp⟩:=a
           simp at hsp;subst hsp
           rw[m_h,m_h]
         rw[e1] at this
         exact ⟨_,this,fun d hd=>c2.2 j _ d hg hd⟩
       refine ⟨[.sl (P.cellsOf e) ((List.range len).map F)],one (.sl a len cap (P.cellsOf e) _ (fun i j=>(w.cell? ⟨a.block,a.off+i * P.cellsOf e+j,none⟩).getD undef) (fun hne=>hsp (by
         cases len with
         | zero=>simp at hne
         | succ=>omega)) (by simp) hlc (fun i row hi=>?_) (fun i row j d hi hj=>?_) (fun i row j d hi hj=>?_)), .inr ⟨_,rfl,?_,fun row hrow=>?_⟩⟩
       · obtain ⟨hi',rfl⟩:=hget i row hi
         obtain ⟨cs,c1,c2,_⟩:=hF i hi'
         rw[←c2.1,(i_8 c1).1]
       · obtain ⟨hi',rfl⟩:=hget i row hi
         obtain ⟨cs,c1,c2,_⟩:=hF i hi'
         have hlt:=(List.getElem?_eq_some_iff.1 hj).1
         rw[←c2.1,(i_8 c1).1] at hlt
         obtain ⟨v,v1,_⟩:=hcell i j hi' hlt
         rw[v1];rfl
       · obtain ⟨hi',rfl⟩:=hget i row hi
         obtain ⟨cs,c1,c2,_⟩:=hF i hi'
         have hlt:=(List.getElem?_eq_some_iff.1 hj).1
         rw[←c2.1,(i_8 c1).1] at hlt
         obtain ⟨v,v1,v2⟩:=hcell i j hi' hlt
         rw[v1];exact v2 d hj
       · have:=hw _ (.inl rfl)
         simp only[List.length_map,List.length_range] at this ⊢
         have h2:len * P.bytesOf e≤(elems.length+rest.length) * P.bytesOf e:=Nat.mul_le_mul_right _ (by omega)
         omega
       · obtain ⟨i,hi,rfl⟩:=List.mem_map.1 hrow
         obtain ⟨cs,_,_,c3⟩:=hF i (by simpa using hi)
         exact c3
   · rename_i fs hu
     simp only[Bool.and_eq_true,List.all_eq_true] at hp
     obtain ⟨xs,m,_,rfl,hl,hlen,hf⟩:=DataW.trod_struct hu h
     simp only[DataW.weights,hu] at hw
     have:=a_jj (β:=β) n (fun t cs hp fuel x=>a_d0 n t cs hp fuel x) cs m fs.toList 0 xs (by rw[hl];exact hp.1) (fun f hf=>hp.2 f hf) (by simpa using hlen) (fun i f hi=>hf i f (by simpa using hi)) hw (by omega)
     simpa using this
   · rename_i m e hu
     simp only[Bool.and_eq_true] at hp
     cases fuel with
     | zero=>simp[DataW.trod] at h
     | succ fuel=>
       unfold DataW.trod at h
       rw[hu] at h
       have h:(if cs.length=P.cellsOf t then ((List.range m).mapM fun i=>DataW.trod enc P w 0 (fun _=>true) true fuel e ((cs.drop (i * P.cellsOf e)).take (P.cellsOf e))).map fun xs=>((.agg (xs.map (·.1)) :DataW H),xs.flatMap (·.2)) else none) =some x:=by
         cases cs <;> simpa using h
       split at h
       · rename_i hl
         rw[Option.map_eq_some_iff] at h
         obtain ⟨xs,hx,rfl⟩:=h
         simp only[DataW.weights,hu] at hw
         have hxl:=mapM_some_length hx
         exact a_vy n (fun t cs hp fuel x=>a_d0 n t cs hp fuel x) e hp.1 fuel m cs xs (by rw[hl];exact (Nat.eq_of_beq_eq_true hp.2).symm) (by simpa using hxl) (fun i hi=>mapM_some_get hx i i (by simp[hi])) hw
       · cases h
   · cases hp
theorem a_x7 {n:Nat}{t:TypeId}{v:Value}{W:World}{base:Nat}(hp:f_7 P (n+1) t=true)(hok:Value.okWide P W .any base t v) :
   (b_u P t=some false∧v.cells= #[v])∨(b_u P t=some true∧∃cs,v= .agg cs):=by
 unfold f_7 at hp
 unfold b_u
 split at hp
 · rename_i hu;obtain ⟨b,rfl⟩:=okWide_bool hu hok;rw[hu];exact .inl ⟨rfl,rfl⟩
 · rename_i hu;obtain ⟨b,rfl⟩:=okWide_int hu hok;rw[hu];exact .inl ⟨rfl,rfl⟩
 · rename_i hu
   rw[hu]
   simp only[Value.okWide,hu,Cell.okWide] at hok
   cases v <;> simp[Cell.ok,hu] at hok <;> exact .inl ⟨rfl,rfl⟩
 · rename_i e hu
   rw[hu]
   simp only[Value.okWide,hu,Cell.okWide] at hok
   cases v <;> simp[Cell.ok,hu] at hok <;> exact .inl ⟨rfl,rfl⟩
 · rename_i fs hu;obtain ⟨cs,rfl,_⟩:=okWide_struct hu hok;rw[hu];exact .inr ⟨rfl,cs,rfl⟩
 · rename_i m e hu
   rw[hu]
   simp only[Value.okWide,hu] at hok
   obtain ⟨cs,rfl,_⟩:=hok
   exact .inr ⟨rfl,cs,rfl⟩
 · cases hp
theorem a_xt {t:TypeId}{v:Value}{d:DataW H}{ps:List MemPlace}{base:Nat}(hp:f_7 P 30 t=true)(hok:Value.okWide P w .any base t v)(h:DataW.Trod enc P w 0 (fun _=>true) true t v d ps)
   (hw:∀m ∈ d.weights P t,m≤140737488351232) :∃x,TyA P t x∧VA (t_a w) noB w v x:=by
 obtain ⟨fuel,h⟩:=h
 obtain ⟨ds,h1,h2⟩:=a_d0 (β:=noB) 30 t _ hp fuel _ h hw
 rcases a_x7 hp hok with ⟨q1,q2⟩ | ⟨q1,cs,rfl⟩
 · rw[q2] at h1
   have hl:=h1.1
   match ds,hl with
   | [d'],_=>exact ⟨.one d',⟨q1,h2⟩,h1.2 0 v d' rfl rfl⟩
 · exact ⟨.agg ds,⟨q1,h2⟩,cs,rfl,h1⟩
theorem a_sb {base:Nat} :∀{ts:List TypeId} {vs:List Value} {ds:List (DataW H)} {ps:List MemPlace},(∀t ∈ ts,f_7 P 30 t=true)→(∀(j:Nat) t v,ts[j]? =some t→vs[j]? =some v→Value.okWide P w .any base t v)→
   DataW.TrodAll enc P w 0 (fun _=>true) true ts vs ds ps→(∀m ∈ DataW.weightsEach P ts ds,m≤140737488351232)→
   ∃as0,TyAs P ts as0∧vs.length=as0.length∧∀(i:Nat) v x,vs[i]? =some v→as0[i]? =some x→VA (t_a w) noB w v x
 | [],vs,ds,ps,_,_,h,_=>by
   obtain ⟨rfl,rfl,rfl⟩:=trodAll_nil h
   exact ⟨[],rfl,rfl,fun i v x hv=>by simp at hv⟩
 | t::ts,vs,ds,ps,hp,hok,h,hw=>by
   obtain ⟨v,vs1,d,ds1,a,b,rfl,rfl,rfl,h1,h2⟩:=trodAll_cons h
   simp only[DataW.weightsEach,List.mem_append] at hw
   obtain ⟨x,x1,x2⟩:=a_xt (hp t (by simp)) (hok 0 t v rfl rfl) h1 (fun m hm=>hw m (.inl hm))
   obtain ⟨as0,a1,a2,a3⟩:=a_sb (fun t ht=>hp t (by simp[ht])) (fun j t v h1 h2=>hok (j+1) t v (by simpa using h1) (by simpa using h2)) h2 (fun m hm=>hw m (.inr hm))
   refine ⟨x::as0,⟨x,as0,rfl,x1,a1⟩,by simp[a2],fun i u y hu hy=>?_⟩
   cases i with
   | zero=>simp at hu hy;subst hu hy;exact x2
   | succ i=>exact a3 i u y (by simpa using hu) (by simpa using hy)
theorem u_c (hl:laidOutB P=true){W W':World}(hb:Below W.heap.size W W')(sp:Nat→Bool) :∀{ts:List TypeId} {vs:List Value} {ds:List (DataW H)} {ps:List MemPlace},
   (∀t ∈ ts,P.readableRec t=true∧t < P.types.size)→DataW.TrodAll enc P W 0 (fun _=>true) true ts vs ds ps→(∀p ∈ ps,p.block < W.heap.size)→(∀p ∈ ps,sp p.block=true)→DataW.TrodAll enc P W' 0 sp true ts vs ds ps
 | [],vs,ds,ps,_,h,_,_=>by
   obtain ⟨rfl,rfl,rfl⟩:=trodAll_nil h
   rfl
 | t::ts,vs,ds,ps,hr,h,hlt,hs=>by
   obtain ⟨v,vs1,d,ds1,a,b,rfl,rfl,rfl,h1,h2⟩:=trodAll_cons h
   exact ⟨a,b,WideElems.Trod_stays hl (hr t (by simp)).1 (hr t (by simp)).2 h1 (fun x hx=>hb.same (hlt x (by simp[hx]))) (fun x hx=>hs x (by simp[hx])),
     u_c hl hb sp (fun t ht=>hr t (by simp[ht])) h2 (fun x hx=>hlt x (by simp[hx])) (fun x hx=>hs x (by simp[hx])),rfl⟩
theorem a_vp {f:Func}{s:ChangeSpec}{W W':World}{args:Array Value}{ds gs:List (DataW H)}{before:List MemPlace}{tb:TypeId}(hl:laidOutB P=true)
   (hr:∀t ∈ f.params.toList,P.readableRec t=true∧t < P.types.size) (hvars:s.vars=[]) (hres:f.resultTypes= #[tb]) (htb:P.underlying tb=some .bool)
   (hfn:(s.fn H ds) = { results:= [.lit (.bool true)],args:=ds }) (hW:DataW.Whole enc P f.params.toList s.vars false W args.toList ds gs before) (hb:Below W.heap.size W W') :
   s.post enc P f false true false false W args (.bool true) W':=by
 have hlt:∀p ∈ before,p.block < W.heap.size:=fun p hp=>hW.lt p hp
 have hW':=hW
 obtain ⟨p,q,hA,hV,rfl,hz,_⟩:=hW'
 rw[hvars] at hV
 obtain ⟨rfl,rfl⟩:=trodVars_none hV
 have hres':(s.fn H (ds ++ [])).results=[.lit (.bool true)]:=by rw[List.append_nil,hfn]
 have hargs':(s.fn H (ds ++ [])).args=ds:=by rw[List.append_nil,hfn]
 have hvars':(s.fn H (ds ++ [])).vars=[]:=by rw[List.append_nil,hfn]
 have hst:∀sp:Nat→Bool,(∀x ∈ p,sp x.block=true)→DataW.TrodAll enc P W' 0 sp true f.params.toList args.toList ds p:=fun sp hs=>
   u_c hl hb sp hr hA (fun x hx=>hlt x (by simp[hx])) hs
 refine ⟨ds,[],p ++ [],[],p,[],hW,?_,?_,?_,?_,fun h=>by cases h⟩
 · rw[hres',hres]
   exact trodAll_mk1 (shut_bool htb true)
 · rw[hargs'];exact hst _ (fun x hx=>by simpa using hlt x (by simp[hx]))
 · rw[hvars',hvars];rfl
 · refine World.keptBut_mono (fun x hx=>⟨hx, .inr (.inl (by simpa using hx))⟩) (hb.frame (· ∈ p ++ []))
theorem a_t0 {f:FuncId}{fn:Func}{s:ChangeSpec}{W:World}{base:Nat}{args:Array Value}{ds gs:List (DataW H)}{before:List MemPlace}{tb:TypeId}(hl:laidOutB P=true)
   (hp:(fn.params.toList.all fun t=>f_7 P 30 t && P.readableRec t && decide (t < P.types.size)) =true) (hvars:s.vars=[]) (hres:fn.resultTypes= #[tb]) (htb:P.underlying tb=some .bool)
   (hfn:ds.length=fn.params.size→(s.fn H ds) = { results:= [.lit (.bool true)],args:=ds })
   (law:∀as0,TyAs P fn.params.toList as0→DCalls P f as0 noS fun r _=>r= .a (.one (.bool true)))
   (hval:∀(j:Nat) t v,fn.params[j]? =some t→args[j]? =some v→Value.okWide P W .any base t v)
   (hW:DataW.Whole enc P fn.params.toList s.vars false W args.toList ds gs before)
   (hw:((DataW.weightsEach P (fn.params.toList ++ s.plain.varTypes P) (ds ++ gs)).all (·≤reachBytes)) =true) :
   Calls P f args W fun e W'=>∃v,e= .returned v∧s.post enc P fn false true false false W args v W':=by
 simp only[List.all_eq_true,Bool.and_eq_true,decide_eq_true_eq] at hp
 have hW':=hW
 obtain ⟨p,q,hA,hV,rfl,hz,_⟩:=hW'
 have hg:gs=[]:=by rw[hvars] at hV;exact (trodVars_none hV).1
 subst hg
 have hvt:s.plain.varTypes P=[]:=by
   have:s.plain.vars=[]:=hvars
   simp[DataSpec.varTypes,this]
 rw[hvt,List.append_nil,List.append_nil] at hw
 obtain ⟨as0,a1,a2,a3⟩:=a_sb (base:=base) (fun t ht=>(hp t ht).1.1) (fun j t v h1 h2=>hval j t v (by simpa using h1) (by simpa using h2)) hA (fun m hm=>by
   have:=of_decide_eq_true (List.all_eq_true.1 hw m hm)
   simpa[reachBytes] using this)
 have hlen:ds.length=fn.params.size:=by
   have key:∀{ts:List TypeId} {vs:List Value} {ds:List (DataW H)} {ps:List MemPlace},DataW.TrodAll enc P W 0 (fun _=>true) true ts vs ds ps→ds.length=ts.length:=by
     intro ts
     induction ts with
     | nil=>intro vs ds ps h;obtain ⟨_,rfl,_⟩:=trodAll_nil h;rfl
     | cons t ts ih=>intro vs ds ps h;obtain ⟨v,vs1,d,ds1,a,b,_,rfl,_,_,h2⟩:=trodAll_cons h;simp[ih h2]
   simpa using key hA
 have hd:=(law as0 a1).2 (t_a W) noB W args a_xi (by simpa using a2) (fun i v x h1 h2=>a3 i v x (by simpa using h1) h2)
 refine hd.mono fun e W' ⟨v,r,σ',k',β',q1,q2,q3,q4,q5,q6⟩=>⟨v,q1,?_⟩
 subst q2
 have hv:v= .bool true:=V.inv_bool q3
 subst hv
 exact a_vp hl (fun t ht=>⟨(hp t ht).1.2,(hp t ht).2⟩) hvars hres htb (hfn hlen) hW ⟨q6.os,q6.tape,q6.output,q6.size,fun b hb=>q6.block b hb (fun i bi hi=>by cases hi)⟩
theorem law_lifted {C:Checked}{os:Os}{f:FuncId}{fn:Func}{s:ChangeSpec}{tb:TypeId}(own:ownKnob C.prog.godebug=none)(started:os.Started)(noInit:C.prog.inits.idxOf? f=none)(hf:C.prog.funcs[f]? =some fn)
   (witness:∃(w:World) (tape:Tape) (i:Input),w.os=os∧(w.forCall tape i).Shaped C.prog∧i.vars=[]∧Input.okWide C.prog (w.forCall tape i) .any w.heap.size f i∧
     s.pre6 enc C.prog fn [] false (w.forCall tape i).memory i.args∧({} :Assume).holds C.prog (lone (Frame.enter C.prog f i.args .normal) [] (w.forCall tape i)))
   (hl:laidOutB C.prog=true) (hp:(fn.params.toList.all fun t=>f_7 C.prog 30 t && C.prog.readableRec t && decide (t < C.prog.types.size)) =true) (hvars:s.vars=[]) (hres:fn.resultTypes= #[tb])
   (htb:C.prog.underlying tb=some .bool) (hfn:∀ds:List (DataW H),ds.length=fn.params.size→(s.fn H ds) = { results:= [.lit (.bool true)],args:=ds })
   (law:∀as0,TyAs C.prog fn.params.toList as0→DCalls C.prog f as0 noS fun r _=>r= .a (.one (.bool true))) :
   ReturnsInHanded {} C os f .any (s.pre6 enc C.prog fn [] false) (s.post enc C.prog fn false true false false):=by
 have e:(fun w args=>(s.pre enc C.prog fn [] false w args∧True)∧sizedMet enc C.prog fn (OpenSpec.ofChange s) false w args) =s.pre6 enc C.prog fn [] false:=by
   funext w args;simp[ChangeSpec.pre6]
 rw[←e]
 refine returnsInHanded_of_change_and (X:=fun _ _=>True) (fun _ _ _ _ _=>trivial) own started noInit hf ?_ ?_
 · obtain ⟨w,tape,i,h1,h2,h3,h4,h5,h6⟩:=witness
   exact ⟨w,tape,i,h1,h2,h3,h4,⟨⟨h5.1,trivial⟩,h5.2⟩,h6⟩
 · intro W base args ds gs before hval hW _ hw _ _
   exact a_t0 hl hp hvars hres htb (hfn ds) law hval hW hw
end
end
section
theorem joined_of {P:Program}{f:FuncId}{fn:Func}{s:ChangeSpec}{c:OpenClaim}(a0:laidOutB P=true)
   (a1:(c.wf (OpenSpec.ofChange s) && mapsRowed P && fn.params.all (P.readableRec ·) && namedTie P c.named s.vars && (c.stops == []) && (P.stops == []) && (c.knobs == []) && (P.stopKnobs == []) && (c.inPlace == P.inPlace f)) =true)
   (a2:(c.unfollowed == P.unfollowed f) =true) (a3:(c.recurses == P.recurses f) =true) (a4:(c.named == P.varsNamed f) =true)
   (a5:((c.maps ==(fn.params.toList ++ s.plain.varTypes P).any (P.mapsRec ·)) && (c.ifaces ==(fn.params.toList ++ s.plain.varTypes P).any (P.ifacesRec ·)) && (c.mapsOut == P.mapsAmong fn.resultTypes.toList) && (c.loops ==(fn.params.toList ++ s.plain.varTypes P).any (P.loopsFrom ·)) && (c.wideKeys ==(fn.params.toList ++ s.plain.varTypes P ++ fn.resultTypes.toList).any (P.wideKeysFrom ·))) =true)
   (a6:(s.vars.all (P.varReadable ·) && fn.resultTypes.all (fun t=>P.readableRec t && decide (t < P.types.size)) && (c.ifacesOut == fn.resultTypes.toList.any (P.ifacesRec ·)) && (c.loopsOut == fn.resultTypes.toList.any (P.loopsFrom ·))) =true)
   (a7:((c.plainKeys == P.plainKeys) && c.shortTexts.isNone && P.stopsHeard && P.mayEnter && (c.lifted == P.liftsFinal) && (P.make == some c.make) && (c.kinds ==(if c.domain.isEmpty then [] else fn.params.toList.map fun t=>match P.underlying t with | some (.int k)=>some k | _=>none)) && (c.pinned == c.pinnedBy)) =true)
   (a8:((c.veiled ==(fn.params.toList ++ s.plain.varTypes P ++ fn.resultTypes.toList).any (P.veiledRec ·)) && c.veiledFits P fn.params.toList (fn.params.toList ++ s.plain.varTypes P ++ fn.resultTypes.toList)) =true) :
   joinedFacts P f fn s c=true:=by
 rw[Bool.and_eq_true] at a8
 repeat rw[Bool.and_eq_true] at a7
 repeat rw[Bool.and_eq_true] at a6
 repeat rw[Bool.and_eq_true] at a5
 repeat rw[Bool.and_eq_true] at a1
 obtain ⟨⟨⟨⟨⟨⟨⟨⟨b1,b2⟩,b3⟩,b4⟩,b5⟩,b6⟩,b7⟩,b8⟩,b9⟩:=a1
 obtain ⟨⟨⟨⟨c1,c2⟩,c3⟩,c4⟩,c5⟩:=a5
 obtain ⟨⟨⟨d1,d2⟩,d3⟩,d4⟩:=a6
 obtain ⟨⟨⟨⟨⟨⟨⟨e1,e2⟩,e3⟩,e4⟩,e5⟩,e6⟩,e7⟩,e8⟩:=a7
 obtain ⟨f1,f2⟩:=a8
 unfold joinedFacts
 rw[b1,a0,b2,b3,b4,b5,b6,b7,b8,b9,a2,a3,a4,c1,c2,c3,c4,c5,d1,d2,d3,d4,e1,e2,e3,e4,e5,e6]
 exact Bool.and_eq_true_iff.2 ⟨Bool.and_eq_true_iff.2 ⟨Bool.and_eq_true_iff.2 ⟨Bool.and_eq_true_iff.2 ⟨rfl,e7⟩,e8⟩,f1⟩,f2⟩
end
end Go.Fw
namespace Go.Fw
section
variable {P:Program} {σ σ':Store} {el:TypeId} {d:D} {rs:List (List D)}
theorem a_u {n:Int}(h1: -9223372036854775808≤n)(h2:n≤9223372036854775807) :w64 n=n:=by
 simp only[w64,IntKind.wrap,IntKind.signed,IntKind.bits];simp;omega
theorem a_o {j:Nat}(h:j < 2 ^ 62) :w64 ((j:Int) +1) =((j+1:Nat) :Int):=by
 rw[a_u (by omega) (by omega)];omega
structure At (P:Program) (σ:Store) (el:TypeId) (d:D) (rs:List (List D)) :Prop where
 rows:Rows P σ el d rs
 size:rs.length < 2 ^ 60
 es:∀es rows,d= .sl es rows→es=P.cellsOf el
theorem At.lenI (h:At P σ el d rs) :Len d rs.length:=by
 have hr:=h.rows
 cases d <;> simp only[Rows] at hr <;> try exact hr.elim
 · subst hr;rfl
 · subst hr;rfl
 · rw[hr.1];rfl
 · obtain ⟨t,rows,h1,h2,h3,rfl⟩:=hr
   show _=_
   simp;omega
theorem At.lenK {K:Nat→Prop}(h:At P σ el d rs)(hk:K rs.length) :∃len:Nat,Len d len∧K len:=⟨_,h.lenI,hk⟩
theorem At.row {i:Nat}{row:List D}(h:At P σ el d rs)(hi:rs[i]? =some row) :Row σ d i row:=by
 have hr:=h.rows
 have hlt:=(List.getElem?_eq_some_iff.1 hi).1
 cases d <;> simp only[Rows] at hr <;> try exact hr.elim
 · subst hr;simp at hi
 · subst hr;simp at hi
 · rw[hr.1] at hi;exact hi
 · obtain ⟨t,rows,h1,h2,h3,rfl⟩:=hr
   refine ⟨?_,t,rows,h1,?_⟩
   · simp at hlt;omega
   · rw[List.getElem?_take] at hi
     split at hi
     · rw[List.getElem?_drop] at hi;exact hi
     · cases hi
theorem At.idx {es:Nat}(h:At P σ el d rs)(hes:P.cellsOf el=es)(hne:0 < rs.length) :Idx P σ d es rs.length:=by
 have hr:=h.rows
 subst hes
 cases d <;> simp only[Rows] at hr <;> try exact hr.elim
 · subst hr;simp at hne
 · subst hr;simp at hne
 · obtain ⟨rfl,h2⟩:=hr
   refine ⟨h2.resolve_left (fun e=>by subst e;simp at hne),rfl⟩
 · obtain ⟨t,rows,h1,h2,h3,rfl⟩:=hr
   exact ⟨by simp;omega,t,rows,h1,h2⟩
theorem At.idxN {es:Nat}(h:At P σ el d rs)(hes:P.cellsOf el=es) :IdxN P σ d es rs.length:=by
 by_cases hne:0 < rs.length
 · exact .inl (h.idx hes hne)
 · have hr:=h.rows
   have h0:rs=[]:=List.eq_nil_of_length_eq_zero (by omega)
   subst hes
   cases d <;> simp only[Rows] at hr <;> try exact hr.elim
   · exact .inr ⟨by omega, .inl rfl⟩
   · exact .inr ⟨by omega, .inr rfl⟩
   · exact .inl ⟨h.es _ _ rfl,by rw[hr.1]⟩
   · obtain ⟨t,rows,h1,h2,h3,rfl⟩:=hr
     exact .inl ⟨by simp;omega,t,rows,h1,h2⟩
theorem At.idxK {es:Nat}{n:Int}{j:Nat}{K:Prop}(h:At P σ el d rs)(hes:P.cellsOf el=es)(hn:n=j)(hj:j < rs.length)(hk:K) :
   ∃len:Nat,Idx P σ d es len∧0≤n∧n < (len:Int)∧K:=⟨_,h.idx hes (by omega),by omega,by omega,hk⟩
theorem At.rowK {i:Nat}{j:Nat}{row:List D}{K:List D→Prop}(h:At P σ el d rs)(hi:rs[j]? =some row)(hij:i=j)(hk:K row) :∃row,Row σ d i row∧K row:=⟨row,h.row (hij ▸ hi),hk⟩
theorem At.load {es:Nat}{n:Int}{j:Nat}{row:List D}{K:List D→Prop}(h:At P σ el d rs)(hi:rs[j]? =some row)(hes:P.cellsOf el=es)(hn:n=j)(hk:K row) :
   ∃len:Nat,Idx P σ d es len∧0≤n∧n < (len:Int)∧∃row,Row σ d n.toNat row∧K row:=
 h.idxK hes hn (List.getElem?_eq_some_iff.1 hi).1 (h.rowK hi (by omega) hk)
theorem At.sub {lo hi:Nat}(h:At P σ el d rs)(h1:lo≤hi)(h2:hi≤rs.length) :At P σ el (g_f d lo hi) ((rs.drop lo).take (hi - lo)):=by
 have hr:=h.rows
 have hs:=h.size
 have hl:((rs.drop lo).take (hi - lo)).length < 2 ^ 60:=by simp;omega
 cases d <;> simp only[Rows] at hr <;> try exact hr.elim
 · subst hr;exact ⟨by simp[g_f,Rows],hl,fun es rows e=>by cases e⟩
 · subst hr;exact ⟨by simp[g_f,Rows],hl,fun es rows e=>by cases e⟩
 · rename_i es rows
   obtain ⟨rfl,h3⟩:=hr
   refine ⟨⟨rfl, .inr (h.es _ _ rfl)⟩,hl,fun es' rows' e=>?_⟩
   have e:D.sl es _=D.sl es' rows':=e
   injection e with e1 e2
   rw[←e1];exact h.es _ _ rfl
 · obtain ⟨t,rows,q1,q2,q3,rfl⟩:=hr
   refine ⟨⟨t,rows,q1,q2,?_,?_⟩,hl,fun es rows e=>by cases e⟩
   · simp at h2;omega
   · rw[List.drop_take,List.take_take,List.drop_drop]
     simp at h2
     congr 1;omega
theorem At.sliceK {es lo hi:Nat}{l m:Int}{K:Prop}(h:At P σ el d rs)(hes:P.cellsOf el=es)(hl:l=lo)(hm:m=hi)(h1:lo≤hi)(h2:hi≤rs.length)(hk:K) :
   ∃len:Nat,IdxN P σ d es len∧0≤l∧l≤m∧m≤(len:Int)∧K:=⟨_,h.idxN hes,by omega,by omega,by omega,hk⟩
theorem At.sliceFromK {es lo:Nat}{l:Int}{K:Nat→Prop}(h:At P σ el d rs)(hes:P.cellsOf el=es)(hl:l=lo)(h1:lo≤rs.length)(hk:K rs.length) :
   ∃len:Nat,IdxN P σ d es len∧0≤l∧l≤(len:Int)∧K len:=⟨_,h.idxN hes,by omega,by omega,hk⟩
def Ext (σ σ':Store) :Prop:=∀i,σ i≠ .free→σ' i=σ i
theorem Ext.refl (σ:Store) :Ext σ σ:=fun _ _=>rfl
theorem Ext.trans {σ1 σ2 σ3:Store}(h:Ext σ1 σ2)(h':Ext σ2 σ3) :Ext σ1 σ3:=fun i hi=>by
 have:=h i hi
 rw[h' i (by rw[this];exact hi),this]
theorem Ext.new {id:Nat}(h:σ id= .free)(so:SO) :Ext σ (σ.set id so):=fun i hi=>Store.set_ne _ _ (fun e=>hi (e ▸ h))
theorem Ext.set {σ0:Store}{id:Nat}(h:Ext σ0 σ)(hid:σ0 id= .free)(so:SO) :Ext σ0 (σ.set id so):=fun i hi=>by
 have hne:i≠id:=fun e=>hi (by rw[e];exact hid)
 rw[Store.set_ne _ _ hne];exact h i hi
theorem Rows.same (h:Rows P σ el d rs)(hs:∀id i len,d= .osl id i len→σ' id=σ id) :Rows P σ' el d rs:=by
 cases d <;> first | exact h | skip
 obtain ⟨t,rows,h1,h2⟩:=h
 exact ⟨t,rows,by rw[hs _ _ _ rfl];exact h1,h2⟩
theorem At.same (h:At P σ el d rs)(hs:∀id i len,d= .osl id i len→σ' id=σ id) :At P σ' el d rs:=⟨h.rows.same hs,h.size,h.es⟩
theorem At.ext (h:At P σ el d rs)(he:Ext σ σ') :At P σ' el d rs:=h.same fun id i len e=>he id (by
 have:=h.rows;subst e
 obtain ⟨t,rows,h1,_⟩:=this
 rw[h1];intro e;cases e)
theorem At.nil:At P σ el .nils []:=⟨rfl,by simp,fun es rows e=>by cases e⟩
theorem At.new {t:TypeId}{id:Nat}(rs:List (List D))(h:σ id= .live t rs)(hes:P.cellsOf t=P.cellsOf el)(hsz:rs.length < 2 ^ 60){n:Nat}(hn:n=rs.length) :At P σ el (.osl id 0 n) rs:=
 ⟨⟨t,rs,h,hes,by omega,by subst hn;simp⟩,hsz,fun es rows e=>by cases e⟩
theorem At.fresh {id:Nat}{rs:List (List D)}(h:σ id= .live el rs)(hsz:rs.length < 2 ^ 60){n:Nat}(hn:n=rs.length) :At P σ el (.osl id 0 n) rs:= .new rs h rfl hsz hn
theorem a_e {so:SO}{K:Nat→Store→Prop}(h:∀id σ',σ id= .free→σ'=σ.set id so→Ext σ σ'→σ' id=so→K id σ') :Fw.newObj σ so K:=
 fun id hid=>h id _ hid rfl (Ext.new hid so) (Store.set_same _ _ _)
/-! ### cases -/
theorem bc {b:Bool}{x y:Prop}(h1:b=true→x)(h2:b=false→y) :a_b b x y:=by cases b;exact h2 rfl;exact h1 rfl
theorem bcd {p:Prop}[Decidable p]{x y:Prop}(h1:p→x)(h2:¬p→y) :a_b (decide p) x y:=bc (fun h=>h1 (of_decide_eq_true h)) (fun h=>h2 (of_decide_eq_false h))
theorem bce {a b:Int}{x y:Prop}(h1:a=b→x)(h2:a≠b→y) :a_b (a == b) x y:=bc (fun h=>h1 (by simpa using h)) (fun h=>h2 (by simpa using h))
theorem bcn {a b:Int}{x y:Prop}(h1:a≠b→x)(h2:a=b→y) :a_b (a != b) x y:=bc (fun h=>h1 (by simpa using h)) (fun h=>h2 (by simpa using h))
theorem a_q {b:Bool}{x y:Prop}(h1:b=false→x)(h2:b=true→y) :a_b (!b) x y:=by cases b;exact h1 rfl;exact h2 rfl
/-! ### calls -/
def Pure (P:Program)(f:FuncId)(as0:List A)(σ:Store)(r:RV) :Prop:=DCalls P f as0 σ fun r' σ'=>r'=r∧σ'=σ
theorem Pure.use {f:FuncId}{as0:List A}{r:RV}{Q:RV→Store→Prop}(h:Pure P f as0 σ r)(hq:Q r σ) :DCalls P f as0 σ Q:=h.mono fun r' s ⟨h1,h2⟩=>by subst h1 h2;exact hq
/-! ### what a call hands back -/
theorem Fz.refl {S:Nat→Prop}{es:Nat}{rows:List (List D)}(h:∀row ∈ rows,∀d ∈ row,Fz P σ S d d) :Fz P σ S (.sl es rows) (.sl es rows):=
 .sl es rows rows rfl (fun i row row' h1 h2=>by rw[h1] at h2;injection h2 with h2;rw[h2]) (fun i row row' j d d' h1 h2 h3 h4=>by
   rw[h1] at h2;injection h2 with h2;subst h2
   rw[h3] at h4;injection h4 with h4;subst h4
   exact h row (List.mem_of_getElem? h1) d (List.mem_of_getElem? h3))
inductive Flat:D→Prop
 | int (q n) :Flat (.int q n)
 | bool (b) :Flat (.bool b)
 | str (s) :Flat (.str s)
theorem Flat.fz {S:Nat→Prop}{d:D}(h:Flat d) :Fz P σ S d d:=by cases h <;> constructor
theorem Fz.osl_flat {S:Nat→Prop}{id i len:Nat}{rows':List (List D)}{t:TypeId}{rows:List (List D)}(hn:¬S id)(hs:σ id= .live t rows)(hi:i+len≤rows.length)(hr:rows'=(rows.drop i).take len)
   (hf:∀row ∈ rows',∀d ∈ row,Flat d) :Fz P σ S (.osl id i len) (.sl (P.cellsOf t) rows'):=by
 have hl:rows'.length=len:=by rw[hr];simp;omega
 have key:∀(j:Nat) row row',rows[i+j]? =some row→rows'[j]? =some row'→row'=row:=fun j row row' h1 h2=>by
   have hlt:=(List.getElem?_eq_some_iff.1 h2).1
   rw[hr,List.getElem?_take,if_pos (by omega),List.getElem?_drop,h1] at h2
   injection h2 with h2;exact h2.symm
 exact .osl id i len t rows rows' hn hs hi hl (fun j row row' h1 h2=>by rw[key j row row' h1 h2]) (fun j row row' m d d' h1 h2 h3 h4=>by
   have e:=key j row row' h1 h2
   subst e
   rw[h3] at h4;injection h4 with h4;subst h4
   exact (hf row' (List.mem_of_getElem? h2) d (List.mem_of_getElem? h3)).fz)
theorem Ret.pure {σ0:Store}{r r':RV}(he:Ext σ0 σ)(hr:FzR P σ (fun i=>σ0 i≠ .free) r r') :Ret P σ0 σ r σ0 r':=
 ⟨fun i=>σ0 i≠ .free,fun i h=>h,fun i h=>Classical.not_not.1 h,fun i h=> .inl ⟨(he i h).symm,he i h⟩,hr⟩
theorem FzL.cons {S:Nat→Prop}{d d':D}{ds ds':List D}(h:Fz P σ S d d')(ht:FzL P σ S ds ds') :FzL P σ S (d::ds) (d'::ds'):=
 ⟨by simp[ht.1],fun i x y h1 h2=>by
   cases i with
   | zero=>simp at h1 h2;subst h1 h2;exact h
   | succ i=>exact ht.2 i x y (by simpa using h1) (by simpa using h2)⟩
theorem FzL.nil {S:Nat→Prop} :FzL P σ S [] []:=⟨rfl,fun i x y h=>by simp at h⟩
theorem FzL.flat {S:Nat→Prop}{ds:List D}(h:∀d ∈ ds,Flat d) :FzL P σ S ds ds:=
 ⟨rfl,fun i x y h1 h2=>by rw[h1] at h2;injection h2 with h2;subst h2;exact (h x (List.mem_of_getElem? h1)).fz⟩
theorem s_c {σ0:Store}{rs:List (List D)}(h:At P σ el d rs)(he:Ext σ0 σ)(hid:∀id i len,d= .osl id i len→σ0 id= .free)(hf:∀row ∈ rs,∀x ∈ row,Flat x) :
   ∃d',Fz P σ (fun i=>σ0 i≠ .free) d d'∧(∀σ'',At P σ'' el d' rs):=by
 have hr:=h.rows
 cases d <;> simp only[Rows] at hr <;> try exact hr.elim
 · subst hr;exact ⟨.nils, .nils,fun _=> .nil⟩
 · subst hr;exact ⟨.zsl, .zsl,fun _=>⟨rfl,by simp,fun es rows e=>by cases e⟩⟩
 · rename_i es rows
   obtain ⟨rfl,h3⟩:=hr
   exact ⟨_, .refl fun row hrow x hx=>(hf row hrow x hx).fz,fun σ''=>⟨⟨rfl,h3⟩,h.size,h.es⟩⟩
 · obtain ⟨t,rows,q1,q2,q3,rfl⟩:=hr
   rename_i id i len
   refine ⟨.sl (P.cellsOf t) ((rows.drop i).take len), .osl_flat (fun hn=>hn (hid _ _ _ rfl)) q1 q3 rfl hf,fun σ''=>⟨⟨rfl, .inr q2⟩,h.size,fun es rows e=>?_⟩⟩
   injection e with e1 e2
   rw[←e1];exact q2
/-! ### slices that grow -/
structure Own (P:Program) (σ0 σ:Store) (el:TypeId) (d:D) (rs:List (List D)) :Prop where
 at_:At P σ el d rs
 ext:Ext σ0 σ
 new:∀id i len,d= .osl id i len→σ0 id= .free
 nsl:¬isSl d
 nz:d≠ .zsl
theorem Own.nil (σ0:Store)(h:Ext σ0 σ) :Own P σ0 σ el .nils []:=⟨.nil,h,fun id i len e=>(by cases e),fun h=>h,by intro e;cases e⟩
theorem Own.ext' {σ0:Store}(h:Own P σ0 σ el d rs)(he:Ext σ σ') :Own P σ0 σ' el d rs:=⟨h.at_.ext he,h.ext.trans he,h.new,h.nsl,h.nz⟩
theorem Own.append {σ0:Store}{x:D}{ns:List (List D)}{bytes:Nat}{K:D→Store→Prop}(h:Own P σ0 σ el d rs)(hx:At P σ el x ns)(hb:bytes * (rs.length+ns.length)≤140737488355328)
   (hsz:rs.length+ns.length < 2 ^ 60) (hk:∀d' σ',Own P σ0 σ' el d' (rs ++ ns)→(∀i,σ i≠ .free→(∀a b,d≠ .osl i a b)→σ' i=σ i)→(∀i a b,d'= .osl i a b→σ i= .free∨∃a b,d= .osl i a b)→K d' σ') :a_z P σ el bytes d x K:=by
 refine ⟨rs,ns,h.at_.rows,hx.rows,hb,fun hs=>absurd hs h.nsl,fun d' σ' ha=>?_⟩
 have hl:(rs ++ ns).length < 2 ^ 60:=by simp;omega
 rcases ha with ⟨rfl,rfl,rfl⟩ | ⟨hne,id,hid,rfl,rfl⟩ | ⟨hne,id,i0,len,t,rows,rfl,hlive,rfl,rfl⟩
 · refine hk _ _ ?_ (fun i _ _=>rfl) (fun i a b e=> .inr ⟨a,b,e⟩)
   rw[List.append_nil];exact h
 · refine hk _ _ ⟨.new (t:=el) _ (Store.set_same _ _ _) rfl hl (by simp),fun i hi=>?_,fun id' i len e=>?_,fun h=>h,by intro e;cases e⟩ (fun i hi _=>?_) (fun i a b e=> .inl ?_)
   · rw[Store.set_ne _ _ (fun e=>?_)]
     · exact h.ext i hi
     · subst e
       have:=h.ext i hi
       rw[hid] at this;exact hi this.symm
   · injection e with e1;subst e1
     by_cases hf:σ0 id= .free
     · exact hf
     · have:=h.ext id hf
       rw[hid] at this;exact this.symm
   · exact Store.set_ne _ _ (fun e=>hi (e ▸ hid))
   · injection e with e1;subst e1;exact hid
 · have hrow:=h.at_.rows
   obtain ⟨t',rows',q1,q2,q3,hrs⟩:=hrow
   rw[hlive] at q1;injection q1 with q1 q1';subst q1 q1'
   have hnew:=h.new id i0 len rfl
   have hlen:rs.length=len:=by rw[hrs];simp;omega
   refine hk _ _ ⟨⟨⟨t,_,Store.set_same _ _ _,q2,?_,?_⟩,hl,fun es rows e=>by cases e⟩,h.ext.set hnew _,fun id' i l e=>?_,fun h=>h,by intro e;cases e⟩ (fun i hi hd=>Store.set_ne _ _ (fun e=>hd i0 len (by rw[e]))) (fun i a b e=> .inr ?_)
   · simp;omega
   · have e1 : rows.take (i0 + len) = rows.take i0 ++ rs := by
       rw[List.take_add,hrs]
     rw[e1,List.append_assoc,List.append_assoc,List.drop_append_of_le_length (by simp;omega)]
     have e2:(rows.take i0).drop i0=[]:=by rw[List.drop_eq_nil_iff];simp;omega
     rw[e2,List.nil_append,←List.append_assoc,List.take_append_of_le_length (by simp;omega),List.take_of_length_le (by simp;omega)]
   · injection e with e1;subst e1;exact hnew
   · injection e with e1;subst e1;exact ⟨_,_,rfl⟩
/-! ### ranges -/
theorem a_go {α:Type}{l:List α}{j:Nat}{x:α}(h:l[j]? =some x) :l.drop j=x::l.drop (j+1):=by
 obtain ⟨h1,h2⟩:=List.getElem?_eq_some_iff.1 h
 rw[List.drop_eq_getElem_cons h1,h2]
theorem e_4 {α:Type}{l:List α}{j:Nat}(h:l.length≤j) :l.drop j=[]:=List.drop_eq_nil_iff.2 h
theorem a_i {α:Type}{l:List α}{j:Nat}(h:j < l.length) :∃x,l[j]? =some x:=⟨l[j],List.getElem?_eq_getElem h⟩
theorem a_c {α β:Type}{f:α→β}{l:List α}{j:Nat}{x:α}(h:l[j]? =some x) :(l.map f)[j]? =some (f x):=by simp[h]
def Rng {α:Type}(l:List α)(F:List α→Prop)(n:Int) :Prop:=∃j:Nat,n=j∧j≤l.length∧F (l.drop j)
theorem Rng.start {α:Type}{l:List α}{F:List α→Prop}(h:F l) :Rng l F 0:=⟨0,rfl,by omega,h⟩
theorem Rng.step {α:Type}{l:List α}{F:List α→Prop}{n:Int}{m:Nat}(h:Rng l F n)(hm:m=l.length)(hl:l.length < 2 ^ 60)(hlt:n < (m:Int)) :
   ∃(j:Nat) (x:α),n=j∧l[j]? =some x∧j < l.length∧F (x::l.drop (j+1))∧
     ∀F':List α→Prop,F' (l.drop (j+1))→Rng l F' (w64 (n+1))∧l.length - (w64 (n+1)).toNat < l.length - n.toNat:=by
 obtain ⟨j,rfl,hj,hF⟩:=h
 have hj':j < l.length:=by omega
 obtain ⟨x,hx⟩:=a_i hj'
 refine ⟨j,x,rfl,hx,hj',by rw[←a_go hx];exact hF,fun F' h'=>?_⟩
 rw[a_o (by omega)]
 exact ⟨⟨j+1,rfl,by omega,h'⟩,by omega⟩
theorem Rng.done {α:Type}{l:List α}{F:List α→Prop}{n:Int}{m:Nat}(h:Rng l F n)(hm:m=l.length)(hge:¬n < (m:Int)) :F []:=by
 obtain ⟨j,rfl,hj,hF⟩:=h
 rw[e_4 (by omega)] at hF;exact hF
theorem c_0 {p a b:Prop}(hp:p)(h:a∧b) :(p∧a)∧b:=⟨⟨hp,h.1⟩,h.2⟩
/-! ### maps -/
def MapAt {κ:Type}(P:Program)(kt:TypeId)(enc:κ→A)(σ:Store)(id:Nat)(f:κ→Option A) :Prop:=
 ∃clock es,σ id= .mp clock es∧k_j P kt es∧∀x,c_b (enc x) es=f x
def Keys {κ:Type}(P:Program)(kt:TypeId)(enc:κ→A) :Prop:=(∀x,g_g P kt (enc x) =true)∧∀x y,eqA (enc x) (enc y) =true↔x=y
variable {κ:Type} {kt:TypeId} {enc:κ→A} {id:Nat} {f:κ→Option A}
theorem MapAt.new (h:σ id= .mp 0 []) :MapAt P kt enc σ id fun _=>none:=⟨0,[],h,fun e he=>(by cases he),fun x=>rfl⟩
theorem MapAt.same (h:MapAt P kt enc σ id f)(hs:σ' id=σ id) :MapAt P kt enc σ' id f:=by
 obtain ⟨c,es,h1,h2⟩:=h
 exact ⟨c,es,hs.trans h1,h2⟩
theorem MapAt.look (hk:Keys P kt enc)(h:MapAt P kt enc σ id f)(x:κ) :i_3 P kt σ (.omap id) (enc x) (f x):=by
 obtain ⟨c,es,h1,h2,h3⟩:=h
 exact ⟨hk.1 x, .inr ⟨id,c,es,rfl,h1,h2,(h3 x).symm⟩⟩
theorem MapAt.lookI (hk:Keys P kt enc)(h:MapAt P kt enc σ id f)(x:κ){n:Int}{K:Int→Prop}(hn:(f x).getD (iA 0) =iA n)(hK:K n) :
   ∃r:Option A,i_3 P kt σ (.omap id) (enc x) r∧∃n:Int,Option.getD r (iA 0) =iA n∧K n:=⟨_,h.look hk x,n,hn,hK⟩
theorem h_t (x y:A) :eqA x y=eqA y x:=by
 unfold eqA
 generalize b_l x=as0
 generalize b_l y=bs
 induction as0 generalizing bs with
 | nil=>cases bs <;> rfl
 | cons a as0 ih=>
   cases bs with
   | nil=>rfl
   | cons b bs=>
     simp only[b_y,ih]
     congr 1
     cases a <;> cases b <;> simp[e_2]
     · exact Bool.eq_iff_iff.2 (by simp;exact eq_comm)
     · exact Bool.eq_iff_iff.2 (by simp;exact eq_comm)
     · exact Bool.eq_iff_iff.2 (by rw[MapKept.bytes_beq,MapKept.bytes_beq];exact eq_comm)
theorem x_9 {x:A}{es:List Ent}{e:Ent} :c_b x (es ++ [e]) =(c_b x es).or (if eqA x e.2.1=true then some e.2.2 else none):=by
 unfold c_b
 rw[List.find?_append]
 cases es.find? (fun e=>eqA x e.2.1) with
 | some w=>simp
 | none=>
   simp only[Option.none_or,Option.map_none,List.find?_cons,List.find?_nil]
   cases eqA x e.2.1 <;> simp
theorem a_jp {x y:A}{es:List Ent}{j:Nat}{e:Ent}{v:A}(hf:FirstAt y es j e) :c_b x (es.set j (e.1,y,v)) =if eqA x y=true then some v else c_b x es:=by
 unfold c_b
 induction es generalizing j with
 | nil=>simp[FirstAt] at hf
 | cons e0 es ih=>
   cases j with
   | zero=>
     obtain ⟨h1,h2,_⟩:=hf
     simp at h1;subst h1
     simp only[List.set_cons_zero,List.find?_cons]
     have:=m_3 h2 x
     cases hxy:eqA x y with
     | true=>simp
     | false=>rw[hxy] at this;simp[←this]
   | succ j=>
     obtain ⟨h1,h2⟩:=hf.tail
     have ih:=ih h2
     simp only[List.set_cons_succ,List.find?_cons]
     cases h0:eqA x e0.2.1 with
     | true=>
       have hxy:eqA x y=false:=by
         cases hxy:eqA x y with
         | false=>rfl
         | true=>
           rw[h_t] at hxy
           have:=m_3 hxy e0.2.1
           rw[h_t e0.2.1 y,h1,h_t e0.2.1 x,h0] at this
           cases this
       simp[hxy]
     | false=>simp only[ih]
theorem a_fd {x:A}{es:List Ent}(h:∀e ∈ es,eqA x e.2.1=false) :c_b x es=none:=by simp[c_b,n_d h]
theorem a_t1 {clock:Nat}{es:List Ent}{y v:A}(hy:g_g P kt y=true)(hk:k_j P kt es) :∃c es',mput clock es y v= .mp c es'∧k_j P kt es'∧∀x,c_b x es'=if eqA x y=true then some v else c_b x es:=by
 rcases n_x clock es y v with ⟨hn,e1,_,_⟩ | ⟨j,e,hf,e1,_,_⟩
 · refine ⟨_,_,e1,fun w hw=>?_,fun x=>?_⟩
   · rcases List.mem_append.1 hw with hw | hw
     · exact hk w hw
     · simp at hw;subst hw;exact hy
   · rw[x_9]
     by_cases hxy:eqA x y=true
     · have hnx : c_b x es = none := a_fd fun e he => by
         have h1:=hn e he
         have:=m_3 (by rw[h_t];exact hxy:eqA y x=true) e.2.1
         rw[h_t e.2.1 y,h1,h_t e.2.1 x] at this
         exact this.symm
       simp[hxy,hnx]
     · simp[hxy]
 · refine ⟨_,_,e1,fun w hw=>?_,fun x=>a_jp hf⟩
   rcases List.mem_or_eq_of_mem_set hw with hw | hw
   · exact hk w hw
   · subst hw;exact hy
theorem MapAt.put (hk:Keys P kt enc)(h:MapAt P kt enc σ id f)(x:κ){v:A}{K:Store→Prop}
   (hK:∀σ' f',MapAt P kt enc σ' id f'→(∀z,z≠x→f' z=f z)→f' x=some v→(∀i,i≠id→σ' i=σ i)→σ' id≠ .free→K σ') :MPut P kt σ (.omap id) (enc x) v K:=by
 obtain ⟨c,es,h1,h2,h3⟩:=h
 obtain ⟨c',es',e1,e2,e3⟩:=a_t1 (clock:=c) (v:=v) (hk.1 x) h2
 refine ⟨id,c,es,⟨hk.1 x,rfl,h1,h2⟩,?_⟩
 rw[e1]
 exact hK _ (fun z=>c_b (enc z) es') ⟨c',es',Store.set_same _ _ _,e2,fun z=>rfl⟩ (fun z hz=>by rw[e3,if_neg (fun h=>hz ((hk.2 z x).1 h)),h3]) (by rw[e3,if_pos ((hk.2 x x).2 rfl)])
   (fun i hi=>Store.set_ne _ _ hi) (by rw[Store.set_same];intro e;cases e)
theorem MapAt.bump (hk:Keys P kt enc)(h:MapAt P kt enc σ id f)(x:κ){z v:A}{K:Store→Prop}
   (hK:∀σ' f',MapAt P kt enc σ' id f'→(∀z,z≠x→f' z=f z)→f' x=some v→(∀i,i≠id→σ' i=σ i)→σ' id≠ .free→K σ') :
   a_lf P kt σ (.omap id) (enc x) z fun _ n σ'=>a_f4 σ' (.omap id) n v K:=by
 obtain ⟨c,es,h1,h2,h3⟩:=h
 refine ⟨id,c,es,⟨hk.1 x,rfl,h1,h2⟩,fun hb=>?_⟩
 have fin : ∀ (c' : Nat) (es1 : List Ent), k_j P kt es1 → (∀ y, c_b y (r_i (j_l c es (enc x)) v es1) = if eqA y (enc x) = true then some v else c_b y es) → k_j P kt (r_i (j_l c es (enc x)) v es1) →
     mput c es (enc x) ((c_b (enc x) es).getD z) = .mp c' es1→(∃e ∈ es1,(e.1:Int) =(j_l c es (enc x) :Nat))→
     a_f4 (σ.set id (mput c es (enc x) ((c_b (enc x) es).getD z))) (.omap id) (j_l c es (enc x) :Nat) v K:=by
   intro c' es1 hk1 hf hk2 he hm
   refine ⟨id,c',es1,rfl,by rw[Store.set_same,he],hm,?_⟩
   exact hK _ (fun y=>c_b (enc y) (r_i (j_l c es (enc x)) v es1)) ⟨c',_,Store.set_same _ _ _,hk2,fun y=>rfl⟩ (fun y hy=>by rw[hf,if_neg (fun h=>hy ((hk.2 y x).1 h)),h3]) (by rw[hf,if_pos ((hk.2 x x).2 rfl)])
     (fun i hi=>by rw[Store.set_ne _ _ hi,Store.set_ne _ _ hi]) (by rw[Store.set_same];intro e;cases e)
 rcases n_x c es (enc x) ((c_b (enc x) es).getD z) with ⟨hn,e1,e2,e3⟩ | ⟨j,e,hf,e1,e2,e3⟩
 · rw[e2,Option.getD_none] at e1
   have hst:r_i (j_l c es (enc x)) v (es ++ [(c,enc x,z)]) =es ++ [(c,enc x,v)]:=by
     have hj:(es ++ [(c,enc x,z)])[es.length]? =some (c,enc x,z):=by simp
     rw[a_ac (hb.push (enc x) z).2 hj (by rw[e3])]
     simp
   refine fin (c+1) (es ++ [(c,enc x,z)]) (fun w hw=>?_) (fun y=>?_) ?_ (by rw[e2,Option.getD_none];exact e1) ⟨(c,enc x,z),List.mem_append_right _ (List.mem_singleton.2 rfl),by rw[e3]⟩
   · rcases List.mem_append.1 hw with hw | hw
     · exact h2 w hw
     · simp at hw;subst hw;exact hk.1 x
   · rw[hst,x_9]
     by_cases hxy:eqA y (enc x) =true
     · have hnx : c_b y es = none := a_fd fun e he => by
         have h1:=hn e he
         have:=m_3 (by rw[h_t];exact hxy:eqA (enc x) y=true) e.2.1
         rw[h_t e.2.1 (enc x),h1,h_t e.2.1 y] at this
         exact this.symm
       simp[hxy,hnx]
     · simp[hxy]
   · rw[hst]
     intro w hw
     rcases List.mem_append.1 hw with hw | hw
     · exact h2 w hw
     · simp at hw;subst hw;exact hk.1 x
 · rw[e2,Option.getD_some] at e1
   have hlt:=(List.getElem?_eq_some_iff.1 hf.1).1
   have hj:(es.set j (e.1,enc x,e.2.2))[j]? =some (e.1,enc x,e.2.2):=by simp[hlt]
   have hst:r_i (j_l c es (enc x)) v (es.set j (e.1,enc x,e.2.2)) =es.set j (e.1,enc x,v):=by
     rw[a_ac (hb.set hf.1 (enc x) e.2.2).2 hj (by rw[e3]),List.set_set]
   refine fin c (es.set j (e.1,enc x,e.2.2)) (fun w hw=>?_) (fun y=>by rw[hst];exact a_jp hf) ?_ (by rw[e2,Option.getD_some];exact e1) ⟨_,List.mem_of_getElem? hj,by rw[e3]⟩
   · rcases List.mem_or_eq_of_mem_set hw with hw | hw
     · exact h2 w hw
     · subst hw;exact hk.1 x
   · rw[hst]
     intro w hw
     rcases List.mem_or_eq_of_mem_set hw with hw | hw
     · exact h2 w hw
     · subst hw;exact hk.1 x
theorem z_j {σ0:Store}{id i0 n:Nat}(h:σ0 id= .free) :∀id' i len,D.osl id i0 n= .osl id' i len→σ0 id'= .free:=fun id' i len e=>by
 have:=(D.osl.inj e).1
 rw[←this];exact h
inductive FlatR:RV→Prop
 | one (x:D) (h:Flat x) :FlatR (.a (.one x))
 | agg (ds:List D) (h:∀d ∈ ds,Flat d) :FlatR (.a (.agg ds))
 | tup (ds:List D) (h:∀d ∈ ds,Flat d) :FlatR (.tup (ds.map .one))
theorem FlatR.fz {S:Nat→Prop}{r:RV}(h:FlatR r) :FzR P σ S r r:=by
 cases h with
 | one d h=>exact h.fz
 | agg ds h=>exact FzL.flat h
 | tup ds h=>
   refine ⟨rfl,fun i x y h1 h2=>?_⟩
   rw[h1] at h2;injection h2 with h2;subst h2
   simp only[List.getElem?_map,Option.map_eq_some_iff] at h1
   obtain ⟨d,h1,rfl⟩:=h1
   exact (h d (List.mem_of_getElem? h1)).fz
theorem Pure.of {f:FuncId}{as0:List A}{r:RV}(h:DCalls P f as0 σ fun r' s=>r'=r∧Ext σ s)(hf:FlatR r) :Pure P f as0 σ r:=
 h.ret fun r' s ⟨h1,h2⟩=>by subst h1;exact ⟨r',σ, .pure h2 hf.fz,rfl,rfl⟩
theorem a_vd (n:Int) :FlatR (.a (iA n)):= .one _ (.int _ _)
theorem k_o (b:Bool) :FlatR (.a (bA b)):= .one _ (.bool _)
theorem a_s3 (h:∀a b:Int,g_g P kt (.agg [iD a,iD b]) =true) :Keys P kt fun p:Int × Int=> .agg [iD p.1,iD p.2]:=
 ⟨fun x=>h _ _,fun x y=>by simp[eqA,b_y,b_l,e_2,Prod.ext_iff]⟩
end
section
structure Sec where
 Kind:Int
 OC:Int
 Line:Int
structure Jt where
 A:Int
 AEnd:Int
 B:Int
 BEnd:Int
structure Sg where
 Sec:Int
 End_:Int
 deriving DecidableEq
structure St where
 Sec:Int
 In:Int
 Out:Int
structure Nd where
 Sec:Int
 Pos:Int
 deriving DecidableEq
def Sec.enc (s:Sec) :List D:= [iD s.Kind,iD s.OC,iD s.Line]
def Jt.enc (s:Jt) :List D:= [iD s.A,iD s.AEnd,iD s.B,iD s.BEnd]
def Sg.enc (s:Sg) :List D:= [iD s.Sec,iD s.End_]
def St.enc (s:St) :List D:= [iD s.Sec,iD s.In,iD s.Out]
def Nd.enc (s:Nd) :List D:= [iD s.Sec,iD s.Pos]
def encI (n:Int) :List D:= [iD n]
def f_l (k:Int) :List (Int × Int × Int):=
 if k=0 then [(0,1,0)] else if k=1 then [(0,1,1),(0,2,2)] else if k=2 then [(0,1,0),(2,3,0)] else []
def encW (w:Int × Int × Int) :List D:= [iD w.1,iD w.2.1,iD w.2.2]
def b_d (k:Int) :Int:=if k=0 then 2 else if k=1 then 3 else if k=2 then 4 else 0
def l_z (n:Int)(w:Int × Int × Int) :Int:=
 ite (w64 (w.2.1+1) > ite (w64 (w.1+1) > n) (w64 (w.1+1)) n) (w64 (w.2.1+1)) (ite (w64 (w.1+1) > n) (w64 (w.1+1)) n)
theorem a_r3 (k:Int) :(f_l k).foldl l_z 0=b_d k:=by
 unfold f_l b_d
 split
 · decide
 · split
   · decide
   · split
     · decide
     · rfl
def i_t:List (Int × Int × Int)→Int→Int→Option Int
 | [],_,_=>none
 | w::r,i,o=>if (w.1=i∧w.2.1=o)∨(w.2.1=i∧w.1=o) then some w.2.2 else i_t r i o
def nxt:List Jt→Int→Int→Option (Int × Int)
 | [],_,_=>none
 | j::r,s,e=>if j.A=s∧j.AEnd=e then some (j.B,j.BEnd) else if j.B=s∧j.BEnd=e then some (j.A,j.AEnd) else nxt r s e
def opt2:Option (Int × Int)→RV
 | none=> .tup [iA 0,iA 0,bA false]
 | some p=> .tup [iA p.1,iA p.2,bA true]
def opt1:Option Int→RV
 | none=> .tup [iA 0,bA false]
 | some p=> .tup [iA p,bA true]
def cnt:List Jt→Int→Int→Int
 | [],_,_=>0
 | j::r,s,e=>(if j.A=s∧j.AEnd=e then 1 else 0) + (if j.B=s∧j.BEnd=e then 1 else 0) +cnt r s e
def k_5:List Int→Int→Nat→Int
 | [],_,_=> -1
 | x::r,v,j=>if v=x then j else k_5 r v (j+1)
/-! ### is the plan right? -/
def j_f (secs:List Sec)(i:Int) :Int:=(secs[i.toNat]?.map Sec.Kind).getD (-1)
def k_2 (secs:List Sec)(p:Int × Int) :Bool:=decide (0≤p.1∧p.1≤(secs.length:Int) - 1) && decide (0≤p.2∧p.2≤b_d (j_f secs p.1) - 1)
def w_p (secs:List Sec) :List (Int × Int)→List (Int × Int)→Option (List (Int × Int))
 | [],tk=>some tk
 | p::r,tk=>if k_2 secs p=true∧p ∉ tk then w_p secs r (p::tk) else none
def Jt.spots (j:Jt) :List (Int × Int):= [(j.A,j.AEnd),(j.B,j.BEnd)]
def w_t (secs:List Sec) :List Jt→List (Int × Int)→Option (List (Int × Int))
 | [],tk=>some tk
 | j::r,tk=>match w_p secs j.spots tk with
   | none=>none
   | some tk'=>if j.A=j.B then none else w_t secs r tk'
def v_t (tk:List (Int × Int)) :List Sec→Int→List Int→Bool
 | [],_,_=>true
 | s::r,i,ls=>if b_d s.Kind=0∨¬(0≤s.OC∧s.OC≤3)∨¬(0≤s.Line∧s.Line≤3)∨s.Line≠0∧(s.Kind≠0∨(i,1) ∈ tk∨s.Line ∈ ls) then false else v_t tk r (i+1) (s.Line::ls)
def b_m (secs:List Sec)(js:List Jt) :Bool:=
 decide (1≤secs.length∧secs.length≤16∧js.length≤24) && match w_t secs js [] with
   | none=>false
   | some tk=>v_t tk secs 0 []
theorem y_3 (k:Int) :0≤b_d k∧b_d k≤4:=by unfold b_d;split <;> (try split) <;> (try split) <;> omega
end
end Go.Fw
namespace Go.Proofs.YtdmfnhbmhkgemaaGreat
open Go.Fw
section
theorem mixed:Go.Proofs.Tryz.prog.follows .mixedOrders=true:=Go.Proofs.Tryz.checked.mixed
abbrev k_n:FuncId:=4
abbrev m_y:FuncId:=5
abbrev i_u:FuncId:=6
abbrev h_d:FuncId:=7
abbrev v_c:FuncId:=8
abbrev g_m:FuncId:=10
abbrev m_2:FuncId:=11
abbrev i_e:FuncId:=12
abbrev o_w:FuncId:=13
abbrev m_q:FuncId:=14
abbrev j_i:FuncId:=15
abbrev h_l:FuncId:=16
abbrev p_d:FuncId:=17
abbrev h_r:FuncId:=18
abbrev m_f:FuncId:=19
abbrev i_i:FuncId:=20
abbrev i_m:FuncId:=21
abbrev j_d:FuncId:=22
abbrev g_b:FuncId:=23
abbrev k_y:FuncId:=24
abbrev j_h:FuncId:=25
abbrev l_i:FuncId:=26
abbrev j_j:FuncId:=27
abbrev j_m:FuncId:=28
abbrev m_0:FuncId:=29
abbrev m_r:FuncId:=30
abbrev o_8:FuncId:=31
abbrev o_7:FuncId:=32
abbrev j_6:FuncId:=33
abbrev g_r:FuncId:=34
abbrev o_k:FuncId:=35
abbrev o_1:FuncId:=36
abbrev b_r:FuncId:=37
abbrev j_y:FuncId:=38
abbrev d_3:FuncId:=43
abbrev a_s:FuncId:=44
abbrev d_2:FuncId:=45
abbrev d_z:FuncId:=46
abbrev e_e:FuncId:=47
abbrev e_d:FuncId:=48
abbrev v_v:FuncId:=49
abbrev f_0:FuncId:=50
abbrev g_l:FuncId:=51
abbrev e_u:FuncId:=52
abbrev p_c:FuncId:=53
abbrev f_y:FuncId:=54
abbrev d_o:FuncId:=55
abbrev q_n:FuncId:=56
abbrev d_j:FuncId:=57
abbrev g_u:FuncId:=58
abbrev m_p:FuncId:=59
abbrev f_a:FuncId:=60
abbrev e_l:FuncId:=61
abbrev l_2:FuncId:=62
abbrev f_s:FuncId:=63
abbrev h_j:FuncId:=64
abbrev p_j:FuncId:=65
abbrev b_f:FuncId:=66
abbrev p_h:FuncId:=67
abbrev b_5:FuncId:=68
abbrev b_o:FuncId:=69
abbrev g_v:FuncId:=70
abbrev h_1:FuncId:=71
abbrev f_z:FuncId:=72
abbrev k_3:FuncId:=73
abbrev c_2:FuncId:=74
abbrev f_r:FuncId:=75
abbrev d_9:FuncId:=76
abbrev f_d:FuncId:=77
abbrev d_c:FuncId:=78
abbrev w_6:FuncId:=79
abbrev g_9:FuncId:=80
abbrev g_8:FuncId:=81
abbrev g_2:FuncId:=82
abbrev g_0:FuncId:=83
abbrev q_8:FuncId:=84
abbrev g_z:FuncId:=85
abbrev e_1:FuncId:=86
abbrev d_r:FuncId:=87
abbrev h_i:FuncId:=88
abbrev d_h:FuncId:=89
abbrev p_b:FuncId:=93
abbrev f_e:FuncId:=94
abbrev d_t:FuncId:=95
abbrev d_i:FuncId:=96
abbrev g_o:FuncId:=97
abbrev d_0:FuncId:=98
abbrev c_f:FuncId:=99
abbrev h_7:FuncId:=100
abbrev j_8:FuncId:=101
abbrev h_3:FuncId:=103
abbrev j_2:FuncId:=104
abbrev e_z:FuncId:=105
abbrev p_e:FuncId:=106
abbrev i_p:FuncId:=107
abbrev h_x:FuncId:=108
abbrev s_a:FuncId:=109
abbrev b_1:FuncId:=110
abbrev a_4:FuncId:=111
abbrev b_2:FuncId:=112
abbrev b_s:FuncId:=113
abbrev b_b:FuncId:=114
abbrev l_8:FuncId:=115
abbrev h_2:FuncId:=116
abbrev h_9:FuncId:=117
abbrev f_4:FuncId:=118
abbrev b_8:FuncId:=119
abbrev d_5:FuncId:=120
abbrev b_0:FuncId:=121
abbrev c_7:FuncId:=122
abbrev c_8:FuncId:=123
abbrev a_6:FuncId:=124
abbrev c_6:FuncId:=125
abbrev o_2:FuncId:=126
abbrev g_a:FuncId:=127
abbrev f_f:FuncId:=128
abbrev h_q:FuncId:=129
abbrev c_u:FuncId:=130
abbrev f_9:FuncId:=131
abbrev i_x:FuncId:=132
abbrev o_5:FuncId:=133
abbrev c_d:FuncId:=134
abbrev j_o:FuncId:=135
abbrev l_3:FuncId:=136
abbrev j_b:FuncId:=137
abbrev g_s:FuncId:=138
abbrev f_b:FuncId:=139
abbrev e_0:FuncId:=140
abbrev e_k:FuncId:=141
abbrev e_v:FuncId:=142
abbrev h_4:FuncId:=143
abbrev e_c:FuncId:=144
abbrev f_6:FuncId:=145
abbrev g_4:FuncId:=146
abbrev b_t:FuncId:=147
abbrev h_5:FuncId:=148
abbrev g_6:FuncId:=149
abbrev d_p:FuncId:=150
abbrev i_2:FuncId:=151
abbrev f_m:FuncId:=152
abbrev b_v:FuncId:=153
abbrev i_d:FuncId:=154
abbrev g_d:FuncId:=155
abbrev h_y:FuncId:=156
abbrev c_x:FuncId:=157
abbrev h_c:FuncId:=158
abbrev g_e:FuncId:=159
abbrev l_r:FuncId:=160
abbrev i_b:FuncId:=161
abbrev e_i:FuncId:=162
abbrev e_x:FuncId:=165
abbrev g_n:FuncId:=166
abbrev f_x:FuncId:=167
abbrev c_p:FuncId:=168
abbrev d_7:FuncId:=169
abbrev o_o:FuncId:=170
abbrev c_e:FuncId:=171
abbrev f_8:FuncId:=172
abbrev f_c:FuncId:=184
abbrev x_p:FuncId:=185
abbrev e_g:FuncId:=186
abbrev t_x1:TypeId:=1
abbrev a_h:TypeId:=3
abbrev t_bool:TypeId:=4
abbrev f_v:TypeId:=5
abbrev m_7:TypeId:=25
abbrev t_Config:TypeId:=30
abbrev t_sl_law22_Step:TypeId:=31
abbrev o_x:TypeId:=36
abbrev o_u:TypeId:=47
abbrev i_a:TypeId:=56
abbrev j_4:TypeId:=58
abbrev e_6:TypeId:=60
abbrev d_v:TypeId:=62
abbrev l_v:TypeId:=66
abbrev i_6:TypeId:=69
abbrev c_h:TypeId:=97
abbrev d_g:TypeId:=99
abbrev m_i:TypeId:=102
abbrev b_a:TypeId:=114
abbrev a_7:TypeId:=120
abbrev d_d:TypeId:=130
abbrev j_u:TypeId:=133
abbrev a_bk:TypeId:=138
abbrev a_n:TypeId:=147
abbrev h_f:TypeId:=166
abbrev e_o:TypeId:=188
abbrev d_6:TypeId:=193
abbrev u_h:TypeId:=196
abbrev b_x:TypeId:=217
abbrev b_7:TypeId:=231
theorem c_int:Go.Proofs.Tryz.prog.cellsOf a_h=1:=by kernel_rfl
theorem c_uint8:Go.Proofs.Tryz.prog.cellsOf f_v=1:=by kernel_rfl
theorem q_0:Go.Proofs.Tryz.prog.cellsOf m_7=1:=by kernel_rfl
theorem a_fw:Go.Proofs.Tryz.prog.cellsOf o_x=1:=by kernel_rfl
theorem a_lo:Go.Proofs.Tryz.prog.cellsOf o_u=12:=by kernel_rfl
theorem b_z:Go.Proofs.Tryz.prog.cellsOf i_a=3:=by kernel_rfl
theorem s_q:Go.Proofs.Tryz.prog.cellsOf j_4=4:=by kernel_rfl
theorem f_t:Go.Proofs.Tryz.prog.cellsOf e_6=2:=by kernel_rfl
theorem i_l:Go.Proofs.Tryz.prog.cellsOf d_v=3:=by kernel_rfl
theorem c_l:Go.Proofs.Tryz.prog.cellsOf l_v=6:=by kernel_rfl
theorem a_fq:Go.Proofs.Tryz.prog.cellsOf i_6=3:=by kernel_rfl
theorem a_x:Go.Proofs.Tryz.prog.cellsOf c_h=4:=by kernel_rfl
theorem c_a:Go.Proofs.Tryz.prog.cellsOf d_g=8:=by kernel_rfl
theorem n_4:Go.Proofs.Tryz.prog.cellsOf b_a=2:=by kernel_rfl
theorem c_r:Go.Proofs.Tryz.prog.cellsOf a_7=2:=by kernel_rfl
theorem j_c:Go.Proofs.Tryz.prog.cellsOf h_f=3:=by kernel_rfl
theorem w_o:Go.Proofs.Tryz.prog.cellsOf e_o=3:=by kernel_rfl
theorem a_h7:Go.Proofs.Tryz.prog.cellsOf d_6=3:=by kernel_rfl
theorem a_px:Go.Proofs.Tryz.prog.cellsOf b_x=2:=by kernel_rfl
theorem k_4:Go.Proofs.Tryz.prog.cellsOf b_7=3:=by kernel_rfl
end
end Go.Proofs.YtdmfnhbmhkgemaaGreat
section
set_option maxRecDepth 100000
namespace Go.Proofs.YtdmfnhbmhkgemaaGreat
open Go.Fw Go.Proofs
def a_ks:Ann:= { cbs:= [2],draws:= [(1,{ ord:= [1,2,3,5,6,7,10,11,12,15,0,4,8,9,13,14,16],nb:= [2,6,11],av:= [],dir:= [],sp:= [4] })] }
def a_po (c0 c1 c2 c3 c4:D)(c5 c6 c7 c8 now:Int)(σ:Store)(Qp:RV→Store→Prop) :Prop:=
 ∃pre:List A→Store→Prop,∃post:List A→Store→RV→Store→Prop,(h_o Tryz.prog g_b pre post)∧∃len:Nat,(Len c0 len)∧∃len1:Nat,(Len c4 len1)∧∃len2:Nat,(Len c0 len2)∧Fw.newObj σ (.live a_h [[iD (-1)]]) (fun id Z=>(pre [.one (.osl id 0 1),iA (len:Int)] Z)∧∀r:RV,∀s:Store,(post [.one (.osl id 0 1),iA (len:Int)] Z r s)→∃d:D,(r=(.a (.one d) :RV))∧((0:Int)≤(len1:Int))∧((len1:Int)≤(len1:Int))∧(((32:Int) * (len1:Int))≤(2 ^ 48))∧Fw.newObj s (.live c_h (List.replicate (Int.toNat (len1:Int)) [iD 0,iD 0,iD 0,iD 0])) (fun id1 Z1=>((0:Int)≤4)∧((4:Int)≤4)∧(((64:Int) * 4)≤(2 ^ 48))∧Fw.newObj Z1 (.live d_g [[iD 0,iD 0,iD 0,iD 0,iD 0,iD 0,iD 0,iD 0],[iD 0,iD 0,iD 0,iD 0,iD 0,iD 0,iD 0,iD 0],[iD 0,iD 0,iD 0,iD 0,iD 0,iD 0,iD 0,iD 0],[iD 0,iD 0,iD 0,iD 0,iD 0,iD 0,iD 0,iD 0]]) (fun id2 Z2=>((0:Int)≤(len2:Int))∧((len2:Int)≤(len2:Int))∧(((8:Int) * (len2:Int))≤(2 ^ 48))∧Fw.newObj Z2 (.live a_h (List.replicate (Int.toNat (len2:Int)) [iD 0])) (fun id3 Z3=>DCalls Tryz.prog k_y [.agg [c0,c1,c2,c3,c4,iD c5,iD c6,iD c7,iD c8],iA now] Z3 (fun r1 Z4=>∃d1 d2:D,(r1=(.tup [.one d1, .one d2]:RV))∧Qp (.a (.agg [d, .osl id1 0 (Int.toNat (len1:Int)),d1,d2, .osl id2 0 4, .osl id3 0 (Int.toNat (len2:Int)), .bool true])) Z4)))))
theorem a_nu (c0 c1 c2 c3 c4:D)(c5 c6 c7 c8 now:Int)(σ:Store)(Qp:RV→Store→Prop)(h:a_po c0 c1 c2 c3 c4 c5 c6 c7 c8 now σ Qp) :DCalls Tryz.prog h_d [.agg [c0,c1,c2,c3,c4,iD c5,iD c6,iD c7,iD c8],iA now] σ Qp:=
 a_a mixed (by kernel_rfl) Tryz.func7 a_ks (Eq.mp (by kernel_rfl) h)
def a_gw:Ann:= { cbs:= [3,4,5],draws:= [(7,{ ord:= [0,1,2,3,4,5,6,7,8,9,10,11,12,13,14,15,16,17,18,19,20,21,22,23,24,25,26],nb:= [],av:= [],dir:= [] })],loops:= [(5,{ mods:= [(7,SlotSh.one (Sh.any)),(22,s6)],keep:= [4,5,21] })],joins:= [(4,{ mods:= [],keep:= [4,5,7] })] }
def a_ij (c0 c1 c2 c3 c4:D)(c5 c6 c7 c8:Int)(was0 was1 was2 was3 was4 was5:D)(was6:Bool)(is0 is1 is2 is3 is4 is5:D)(is6:Bool)(σ:Store)(Qp:RV→Store→Prop) :Prop:=
 ∀R:Store→Prop,(∀Z,(∃len:Nat,(Len was0 len)∧∃I:D→Int→Store→Prop,∃μ:D→Int→Store→Nat,(I .nils 0 Z)∧∀d:D,∀n:Int,∀Z1,(I d n Z1)→a_b (decide (n < (len:Int))) (∃len1:Nat,(Idx Tryz.prog Z1 was0 1 len1)∧((0:Int)≤n)∧(n < (len1:Int))∧∃row:List D,(Row Z1 was0 (Int.toNat n) row)∧∃n1:Int,((List.take 1 row) =([iD n1]:List D))∧∃len2:Nat,(Idx Tryz.prog Z1 is0 1 len2)∧((0:Int)≤n)∧(n < (len2:Int))∧∃row1:List D,(Row Z1 is0 (Int.toNat n) row1)∧∃n2:Int,((List.take 1 row1) =([iD n2]:List D))∧a_b (n1 != n2) (∃len3:Nat,(Idx Tryz.prog Z1 was0 1 len3)∧((0:Int)≤n)∧(n < (len3:Int))∧∃row2:List D,(Row Z1 was0 (Int.toNat n) row2)∧∃n3:Int,((List.take 1 row2) =([iD n3]:List D))∧a_b (n3 != 0) (∃len4:Nat,(Idx Tryz.prog Z1 is0 1 len4)∧((0:Int)≤n)∧(n < (len4:Int))∧∃row3:List D,(Row Z1 is0 (Int.toNat n) row3)∧∃n4:Int,((List.take 1 row3) =([iD n4]:List D))∧a_b (n4 != 0) (Fw.newObj Z1 (.live a_h [[iD n]]) (fun id Z2=>a_z Tryz.prog Z2 a_h 8 d (.osl id 0 1) (fun d1 Z3=>(I d1 (w64 (n+1)) Z3)∧((μ d1 (w64 (n+1)) Z3) < (μ d n Z1))))) ((I d (w64 (n+1)) Z1)∧((μ d (w64 (n+1)) Z1) < (μ d n Z1)))) ((I d (w64 (n+1)) Z1)∧((μ d (w64 (n+1)) Z1) < (μ d n Z1)))) ((I d (w64 (n+1)) Z1)∧((μ d (w64 (n+1)) Z1) < (μ d n Z1)))) (Qp (.a (.one d)) Z1))→R Z)→DCalls Tryz.prog j_y [.agg [c0,c1,c2,c3,c4,iD c5,iD c6,iD c7,iD c8], .agg [was0,was1,was2,was3,was4,was5, .bool was6]] σ (fun r Z=>∃b:Bool,(r=(.a (bA b) :RV))∧a_b (!b) (Qp (.a (.one .nils)) Z) (DCalls Tryz.prog j_y [.agg [c0,c1,c2,c3,c4,iD c5,iD c6,iD c7,iD c8], .agg [is0,is1,is2,is3,is4,is5, .bool is6]] Z (fun r1 Z1=>∃b1:Bool,(r1=(.a (bA b1) :RV))∧a_b (!b1) (Qp (.a (.one .nils)) Z1) (R Z1))))
theorem a_i4 (c0 c1 c2 c3 c4:D)(c5 c6 c7 c8:Int)(was0 was1 was2 was3 was4 was5:D)(was6:Bool)(is0 is1 is2 is3 is4 is5:D)(is6:Bool)(σ:Store)(Qp:RV→Store→Prop)(h:a_ij c0 c1 c2 c3 c4 c5 c6 c7 c8 was0 was1 was2 was3 was4 was5 was6 is0 is1 is2 is3 is4 is5 is6 σ Qp) :DCalls Tryz.prog m_2 [.agg [c0,c1,c2,c3,c4,iD c5,iD c6,iD c7,iD c8], .agg [was0,was1,was2,was3,was4,was5, .bool was6], .agg [is0,is1,is2,is3,is4,is5, .bool is6]] σ Qp:=
 a_a mixed (by kernel_rfl) Tryz.func11 a_gw (Eq.mp (by kernel_rfl) h)
def z_o:Ann:= { cbs:= [1],loops:= [(2,{ mods:= [(11,s6)],keep:= [1,9,10] })] }
def a_c8 (c0 c1 c2 c3 c4:D)(c5 c6 c7 c8:Int)(σ:Store)(Qp:RV→Store→Prop) :Prop:=
 ∃len:Nat,(Len c2 len)∧∃I:Int→Store→Prop,∃μ:Int→Store→Nat,(I 0 σ)∧∀n:Int,∀Z,(I n Z)→a_b (decide (n < (len:Int))) (∃len1:Nat,(Idx Tryz.prog Z c2 2 len1)∧((0:Int)≤n)∧(n < (len1:Int))∧∃row:List D,(Row Z c2 (Int.toNat n) row)∧∃n1 n2:Int,((List.take 2 row) =([iD n1,iD n2]:List D))∧DCalls Tryz.prog e_u [.one c1,iA n1,iA n2] Z (fun r Z1=>∃n3 n4:Int,∃b:Bool,(r=(.tup [iA n3,iA n4,bA b]:RV))∧a_b (!b) (Qp (.a (bA false)) Z1) (DCalls Tryz.prog p_c [.agg [c0,c1,c2,c3,c4,iD c5,iD c6,iD c7,iD c8],iA n1,iA n2,iA n] Z1 (fun r1 Z2=>∃b1:Bool,(r1=(.a (bA b1) :RV))∧a_b b1 (Qp (.a (bA false)) Z2) ((I (w64 (n+1)) Z2)∧((μ (w64 (n+1)) Z2) < (μ n Z))))))) (∃len1:Nat,(Len c2 len1)∧Qp (.a (.one (.bool (decide ((len1:Int)≤12))))) Z)
theorem a_di (c0 c1 c2 c3 c4:D)(c5 c6 c7 c8:Int)(σ:Store)(Qp:RV→Store→Prop)(h:a_c8 c0 c1 c2 c3 c4 c5 c6 c7 c8 σ Qp) :DCalls Tryz.prog j_i [.agg [c0,c1,c2,c3,c4,iD c5,iD c6,iD c7,iD c8]] σ Qp:=
 a_a mixed (by kernel_rfl) Tryz.func15 z_o (Eq.mp (by kernel_rfl) h)
def a_fm:Ann:= { cbs:= [3],loops:= [(4,{ mods:= [(7,SlotSh.one (Sh.any)),(8,SlotSh.one (Sh.any)),(18,s6)],keep:= [1,2,3,16,17] }),(8,{ mods:= [(7,SlotSh.one (Sh.any)),(8,SlotSh.one (Sh.any)),(12,s6)],keep:= [1,2,3,10,11,16,17,18] })],joins:= [(9,{ mods:= [(7,SlotSh.one (Sh.any)),(8,SlotSh.one (Sh.any))],keep:= [1,2,3,10,11,12,16,17,18] }),(11,{ mods:= [],keep:= [1,2,3,7,8,10,11,12,16,17,18] }),(13,{ mods:= [],keep:= [1,2,3,7,8,10,11,12,13,14,16,17,18] })] }
def a_hd (c0 c1 c2 c3 c4:D)(c5 c6 c7 c8 approach:Int)(path:D)(σ:Store)(Qp:RV→Store→Prop) :Prop:=
 ∃len:Nat,(Len path len)∧∃I:D→D→Int→Store→Prop,∃μ:D→D→Int→Store→Nat,(I .nils .nils 0 σ)∧∀d d1:D,∀n:Int,∀Z,(I d d1 n Z)→a_b (decide (n < (len:Int))) (∃len1:Nat,(Idx Tryz.prog Z path 3 len1)∧((0:Int)≤n)∧(n < (len1:Int))∧∃row:List D,(Row Z path (Int.toNat n) row)∧∃n1 n2 n3:Int,((List.take 3 row) =([iD n1,iD n2,iD n3]:List D))∧DCalls Tryz.prog f_y [.agg [c0,c1,c2,c3,c4,iD c5,iD c6,iD c7,iD c8],iA n1] Z (fun r Z1=>∃n4:Int,(r=(.a (iA n4) :RV))∧∃I1:D→D→Int→Store→Prop,∃μ1:D→D→Int→Store→Nat,(I1 d d1 0 Z1)∧∀d2 d3:D,∀n5:Int,∀Z2,(I1 d2 d3 n5 Z2)→DCalls Tryz.prog f_0 [iA n4] Z2 (fun r1 Z3=>∃n6:Int,(r1=(.a (iA n6) :RV))∧a_b (decide (n5 < n6)) (∀R:D→D→Store→Prop,(∀d4 d5:D,∀Z4,((([[iD n1,iD n2,iD n3]]:List (List D)) =([[iD n1,iD n2,iD n3]]:List (List D)))∧(I1 d4 d5 (w64 (n5+1)) Z4)∧((μ1 d4 d5 (w64 (n5+1)) Z4) < (μ1 d2 d3 n5 Z2)))→R d4 d5 Z4)→∀R1:Store→Prop,(∀Z4,(DCalls Tryz.prog e_u [.one c1,iA n1,iA n5] Z4 (fun r2 Z5=>∃n7 n8:Int,∃b:Bool,(r2=(.tup [iA n7,iA n8,bA b]:RV))∧∀R2:Store→Prop,(∀Z6,(Fw.newObj Z6 (.live a_h [[iD n7]]) (fun id Z7=>a_z Tryz.prog Z7 a_h 8 d3 (.osl id 0 1) (fun d4 Z8=>Fw.newObj Z8 (.live b_a [[iD n7,iD (w64 (3 - n8))]]) (fun id1 Z9=>a_z Tryz.prog Z9 b_a 16 d2 (.osl id1 0 1) (fun d5 Z10=>(([[iD n1,iD n2,iD n3]]:List (List D)) =([[iD n1,iD n2,iD n3]]:List (List D)))∧R d5 d4 Z10)))))→R2 Z6)→a_b (!b) ((([[iD n1,iD n2,iD n3]]:List (List D)) =([[iD n1,iD n2,iD n3]]:List (List D)))∧R d2 d3 Z5) (DCalls Tryz.prog f_y [.agg [c0,c1,c2,c3,c4,iD c5,iD c6,iD c7,iD c8],iA n7] Z5 (fun r3 Z6=>∃n9:Int,(r3=(.a (iA n9) :RV))∧a_b (n9 != 1) ((([[iD n1,iD n2,iD n3]]:List (List D)) =([[iD n1,iD n2,iD n3]]:List (List D)))∧R d2 d3 Z6) (a_b (n8 != 1) (a_b (n8 != 2) ((([[iD n1,iD n2,iD n3]]:List (List D)) =([[iD n1,iD n2,iD n3]]:List (List D)))∧R d2 d3 Z6) (DCalls Tryz.prog d_j [.one path] Z6 (fun r4 Z7=>∃d4:D,(r4=(.a (.one d4) :RV))∧DCalls Tryz.prog d_o [.one d4,iA n7] Z7 (fun r5 Z8=>∃b1:Bool,(r5=(.a (bA b1) :RV))∧a_b b1 ((([[iD n1,iD n2,iD n3]]:List (List D)) =([[iD n1,iD n2,iD n3]]:List (List D)))∧R d2 d3 Z8) (a_b (n7 == approach) ((([[iD n1,iD n2,iD n3]]:List (List D)) =([[iD n1,iD n2,iD n3]]:List (List D)))∧R d2 d3 Z8) (DCalls Tryz.prog d_o [.one d3,iA n7] Z8 (fun r6 Z9=>∃b2:Bool,(r6=(.a (bA b2) :RV))∧a_b b2 ((([[iD n1,iD n2,iD n3]]:List (List D)) =([[iD n1,iD n2,iD n3]]:List (List D)))∧R d2 d3 Z9) ((([[iD n1,iD n2,iD n3]]:List (List D)) =([[iD n1,iD n2,iD n3]]:List (List D)))∧R2 Z9)))))))) (DCalls Tryz.prog d_j [.one path] Z6 (fun r4 Z7=>∃d4:D,(r4=(.a (.one d4) :RV))∧DCalls Tryz.prog d_o [.one d4,iA n7] Z7 (fun r5 Z8=>∃b1:Bool,(r5=(.a (bA b1) :RV))∧a_b b1 ((([[iD n1,iD n2,iD n3]]:List (List D)) =([[iD n1,iD n2,iD n3]]:List (List D)))∧R d2 d3 Z8) (a_b (n7 == approach) ((([[iD n1,iD n2,iD n3]]:List (List D)) =([[iD n1,iD n2,iD n3]]:List (List D)))∧R d2 d3 Z8) (DCalls Tryz.prog d_o [.one d3,iA n7] Z8 (fun r6 Z9=>∃b2:Bool,(r6=(.a (bA b2) :RV))∧a_b b2 ((([[iD n1,iD n2,iD n3]]:List (List D)) =([[iD n1,iD n2,iD n3]]:List (List D)))∧R d2 d3 Z9) ((([[iD n1,iD n2,iD n3]]:List (List D)) =([[iD n1,iD n2,iD n3]]:List (List D)))∧R2 Z9))))))))))))→R1 Z4)→a_b (n5 == n2) ((([[iD n1,iD n2,iD n3]]:List (List D)) =([[iD n1,iD n2,iD n3]]:List (List D)))∧R d2 d3 Z3) (a_b (n5 == n3) ((([[iD n1,iD n2,iD n3]]:List (List D)) =([[iD n1,iD n2,iD n3]]:List (List D)))∧R d2 d3 Z3) ((([[iD n1,iD n2,iD n3]]:List (List D)) =([[iD n1,iD n2,iD n3]]:List (List D)))∧R1 Z3))) ((I d2 d3 (w64 (n+1)) Z3)∧((μ d2 d3 (w64 (n+1)) Z3) < (μ d d1 n Z)))))) (Qp (.a (.one d)) Z)
theorem a_g8 (c0 c1 c2 c3 c4:D)(c5 c6 c7 c8 approach:Int)(path:D)(σ:Store)(Qp:RV→Store→Prop)(h:a_hd c0 c1 c2 c3 c4 c5 c6 c7 c8 approach path σ Qp) :DCalls Tryz.prog m_f [.agg [c0,c1,c2,c3,c4,iD c5,iD c6,iD c7,iD c8],iA approach, .one path] σ Qp:=
 a_a mixed (by kernel_rfl) Tryz.func19 a_fm (Eq.mp (by kernel_rfl) h)
def q_j:Ann:= { draws:= [(9,{ ord:= [0,1,2,3,4,5,6,7,8,9],nb:= [],av:= [],dir:= [] })],loops:= [(8,{ mods:= [(8,s6)],keep:= [7] })],joins:= [(3,{ mods:= [],keep:= [0,1] }),(6,{ mods:= [],keep:= [0,6] })] }
def t_5 (x:D)(count:Int)(σ:Store)(Qp:RV→Store→Prop) :Prop:=
 ∀R:Store→Prop,(∀Z,(∃len:Nat,(Len x len)∧DCalls Tryz.prog g_u [.one (.int .u64 (IntKind.wrap .u64 (len:Int))), .one (.int .u64 (IntKind.wrap .u64 count))] Z (fun r Z1=>∃n n1:Int,(r=(.tup [.one (.int .u64 n), .one (.int .u64 n1)]:RV))∧∀R1:Store→Prop,(∀Z2,(((0:Int)≤(w64 n1))∧((w64 n1)≤(w64 n1))∧(((8:Int) * (w64 n1))≤(2 ^ 48))∧Fw.newObj Z2 (.live a_h (List.replicate (Int.toNat (w64 n1)) [iD 0])) (fun id Z3=>s_b Tryz.prog Z3 a_h (.osl id 0 (Int.toNat (w64 n1))) x (fun n2 Z4=>∃I:Int→Store→Prop,∃μ:Int→Store→Nat,(I n2 Z4)∧∀n3:Int,∀Z5,(I n3 Z5)→∃len1:Nat,(Len (.osl id 0 (Int.toNat (w64 n1))) len1)∧a_b (decide (n3 < (len1:Int))) (∃len2:Nat,(IdxN Tryz.prog Z5 (.osl id 0 (Int.toNat (w64 n1))) 1 len2)∧((0:Int)≤n3)∧(n3≤(len2:Int))∧∃len3:Nat,(IdxN Tryz.prog Z5 (.osl id 0 (Int.toNat (w64 n1))) 1 len3)∧((0:Int)≤0)∧((0:Int)≤n3)∧(n3≤(len3:Int))∧s_b Tryz.prog Z5 a_h (.osl id (0+ (Int.toNat n3)) (len2 - (Int.toNat n3))) (.osl id 0 ((Int.toNat n3) - 0)) (fun n4 Z6=>(I (w64 (n3+n4)) Z6)∧((μ (w64 (n3+n4)) Z6) < (μ n3 Z5)))) (Qp (.a (.one (.osl id 0 (Int.toNat (w64 n1))))) Z5))))→R1 Z2)→a_b (decide (n > 0)) False (a_b (decide (n1 > 9223372036854775807)) False (R1 Z1))))→R Z)→a_b (decide (count < 0)) False (R σ)
theorem t_j (x:D)(count:Int)(σ:Store)(Qp:RV→Store→Prop)(h:t_5 x count σ Qp) :DCalls Tryz.prog g_b [.one x,iA count] σ Qp:=
 a_a mixed (by kernel_rfl) Tryz.func23 q_j (Eq.mp (by kernel_rfl) h)
def a_ad:Ann:= { cbs:= [3,4] }
def a_ck (c0 c1 c2 c3 c4:D)(c5 c6 c7 c8:Int)(k0 k1 k2 k3 k4 k5:D)(k6:Bool)(r:Int)(σ:Store)(Qp:RV→Store→Prop) :Prop:=
 Fw.newObj σ (.live a_h [[iD 3]]) (fun id Z=>DCalls Tryz.prog h_j [.agg [c0,c1,c2,c3,c4,iD c5,iD c6,iD c7,iD c8], .agg [k0,k1,k2,k3,k4,k5, .bool k6],iA r,iA 1,iA 0, .one (.osl id 0 1)] Z (fun r1 Z1=>∃d d1 d2 d3 d4 d5:D,∃b:Bool,∃n:Int,(r1=(.tup [.agg [d,d1,d2,d3,d4,d5, .bool b],iA n]:RV))∧Qp (.tup [.agg [d,d1,d2,d3,d4,d5, .bool b],iA n]) Z1))
theorem a_df (c0 c1 c2 c3 c4:D)(c5 c6 c7 c8:Int)(k0 k1 k2 k3 k4 k5:D)(k6:Bool)(r:Int)(σ:Store)(Qp:RV→Store→Prop)(h:a_ck c0 c1 c2 c3 c4 c5 c6 c7 c8 k0 k1 k2 k3 k4 k5 k6 r σ Qp) :DCalls Tryz.prog j_j [.agg [c0,c1,c2,c3,c4,iD c5,iD c6,iD c7,iD c8], .agg [k0,k1,k2,k3,k4,k5, .bool k6],iA r] σ Qp:=
 a_a mixed (by kernel_rfl) Tryz.func27 a_ad (Eq.mp (by kernel_rfl) h)
def a_hl:Ann:= { cbs:= [4,5,7],draws:= [(8,{ ord:= [0,1,2,3,4,5,6,7,8,9],nb:= [],av:= [],dir:= [] })] }
def a_mm (c0 c1 c2 c3 c4:D)(c5 c6 c7 c8:Int)(k0 k1 k2 k3 k4 k5:D)(k6:Bool)(line b0 b1 b2:Int)(σ:Store)(Qp:RV→Store→Prop) :Prop:=
 DCalls Tryz.prog d_3 [.agg [c0,c1,c2,c3,c4,iD c5,iD c6,iD c7,iD c8], .agg [k0,k1,k2,k3,k4,k5, .bool k6]] σ (fun r Z=>∃b:Bool,(r=(.a (bA b) :RV))∧a_b (!b) (DCalls Tryz.prog b_o [.agg [c0,c1,c2,c3,c4,iD c5,iD c6,iD c7,iD c8], .agg [k0,k1,k2,k3,k4,k5, .bool k6], .agg [.nils, .nils, .nils, .nils],iA 0] Z (fun r1 Z1=>∃d:D,(r1=(.a (.one d) :RV))∧(a_f d)∧∃s:D,∃i off:Nat,(d=(.el s i off:D))∧∃row:List D,(Row Z1 s i row)∧∃d1 d2 d3 d4 d5 d6:D,∃b3:Bool,((List.take 7 (List.drop (off+0) row)) =([d1,d2,d3,d4,d5,d6, .bool b3]:List D))∧Qp (.tup [.agg [d1,d2,d3,d4,d5,d6, .bool b3],iA 21]) Z1)) (DCalls Tryz.prog g_v [.agg [c0,c1,c2,c3,c4,iD c5,iD c6,iD c7,iD c8],iA line] Z (fun r1 Z1=>∃n:Int,(r1=(.a (iA n) :RV))∧a_b (decide (n < 0)) (DCalls Tryz.prog b_o [.agg [c0,c1,c2,c3,c4,iD c5,iD c6,iD c7,iD c8], .agg [k0,k1,k2,k3,k4,k5, .bool k6], .agg [.nils, .nils, .nils, .nils],iA 0] Z1 (fun r2 Z2=>∃d:D,(r2=(.a (.one d) :RV))∧(a_f d)∧∃s:D,∃i off:Nat,(d=(.el s i off:D))∧∃row:List D,(Row Z2 s i row)∧∃d1 d2 d3 d4 d5 d6:D,∃b3:Bool,((List.take 7 (List.drop (off+0) row)) =([d1,d2,d3,d4,d5,d6, .bool b3]:List D))∧Qp (.tup [.agg [d1,d2,d3,d4,d5,d6, .bool b3],iA 20]) Z2)) (a_b (decide ((ite (b2 < (ite (b1 < b0) b1 b0)) b2 (ite (b1 < b0) b1 b0)) < 0)) (DCalls Tryz.prog b_o [.agg [c0,c1,c2,c3,c4,iD c5,iD c6,iD c7,iD c8], .agg [k0,k1,k2,k3,k4,k5, .bool k6], .agg [.nils, .nils, .nils, .nils],iA 0] Z1 (fun r2 Z2=>∃d:D,(r2=(.a (.one d) :RV))∧(a_f d)∧∃s:D,∃i off:Nat,(d=(.el s i off:D))∧∃row:List D,(Row Z2 s i row)∧∃d1 d2 d3 d4 d5 d6:D,∃b3:Bool,((List.take 7 (List.drop (off+0) row)) =([d1,d2,d3,d4,d5,d6, .bool b3]:List D))∧Qp (.tup [.agg [d1,d2,d3,d4,d5,d6, .bool b3],iA 32]) Z2)) (a_b (decide ((ite (b2 > (ite (b1 > b0) b1 b0)) b2 (ite (b1 > b0) b1 b0)) > 4294967295)) (DCalls Tryz.prog b_o [.agg [c0,c1,c2,c3,c4,iD c5,iD c6,iD c7,iD c8], .agg [k0,k1,k2,k3,k4,k5, .bool k6], .agg [.nils, .nils, .nils, .nils],iA 0] Z1 (fun r2 Z2=>∃d:D,(r2=(.a (.one d) :RV))∧(a_f d)∧∃s:D,∃i off:Nat,(d=(.el s i off:D))∧∃row:List D,(Row Z2 s i row)∧∃d1 d2 d3 d4 d5 d6:D,∃b3:Bool,((List.take 7 (List.drop (off+0) row)) =([d1,d2,d3,d4,d5,d6, .bool b3]:List D))∧Qp (.tup [.agg [d1,d2,d3,d4,d5,d6, .bool b3],iA 32]) Z2)) (DCalls Tryz.prog b_o [.agg [c0,c1,c2,c3,c4,iD c5,iD c6,iD c7,iD c8], .agg [k0,k1,k2,k3,k4,k5, .bool k6], .agg [.nils, .nils, .nils, .nils],iA 0] Z1 (fun r2 Z2=>∃d:D,(r2=(.a (.one d) :RV))∧(a_f d)∧∃s:D,∃i off:Nat,(d=(.el s i off:D))∧∃row:List D,(Row Z2 s i row)∧∃d1:D,((List.take 1 (List.drop ((off+0) +4) row)) =([d1]:List D))∧∃len:Nat,(Idx Tryz.prog Z2 d1 8 len)∧((0:Int)≤line)∧(line < (len:Int))∧a_j [iD b0,iD b1,iD b2] Z2 d1 (Int.toNat line) 4 (fun Z3=>(a_f d)∧∃s1:D,∃i1 off1:Nat,(d=(.el s1 i1 off1:D))∧∃row1:List D,(Row Z3 s1 i1 row1)∧∃d2 d3 d4 d5 d6 d7:D,∃b3:Bool,((List.take 7 (List.drop (off1+0) row1)) =([d2,d3,d4,d5,d6,d7, .bool b3]:List D))∧Qp (.tup [.agg [d2,d3,d4,d5,d6,d7, .bool b3],iA 0]) Z3))))))))
theorem a_mp (c0 c1 c2 c3 c4:D)(c5 c6 c7 c8:Int)(k0 k1 k2 k3 k4 k5:D)(k6:Bool)(line b0 b1 b2:Int)(σ:Store)(Qp:RV→Store→Prop)(h:a_mm c0 c1 c2 c3 c4 c5 c6 c7 c8 k0 k1 k2 k3 k4 k5 k6 line b0 b1 b2 σ Qp) :DCalls Tryz.prog o_8 [.agg [c0,c1,c2,c3,c4,iD c5,iD c6,iD c7,iD c8], .agg [k0,k1,k2,k3,k4,k5, .bool k6],iA line, .agg [iD b0,iD b1,iD b2]] σ Qp:=
 a_a mixed (by kernel_rfl) Tryz.func31 a_hl (Eq.mp (by kernel_rfl) h)
def a_hm:Ann:= { cbs:= [1],loops:= [(5,{ mods:= [(29,s6)],keep:= [1,4,27,28] }),(10,{ mods:= [(43,s6)],keep:= [1,4,41,42] }),(15,{ mods:= [(59,s6)],keep:= [4,57,58] })] }
def a_ky (k0 k1 k2 k3 k4 k5:D)(k6:Bool)(σ:Store)(Qp:RV→Store→Prop) :Prop:=
 ∃len:Nat,(Len k4 len)∧a_b (decide ((len:Int) < 4)) (Qp (.tup [.one (.str (ByteArray.mk (List.toArray []))),iA 32]) σ) (∃len1:Nat,(Len k0 len1)∧∃len2:Nat,(Len k1 len2)∧DCalls Tryz.prog w_6 [.one (iD (w64 ((w64 ((w64 (2 * (len1:Int))) + (w64 (2 * (len2:Int))))) +36)))] σ (fun r Z=>∃d:D,(r=(.a (.one d) :RV))∧∃len3:Nat,(Len k0 len3)∧∃I:Int→Store→Prop,∃μ:Int→Store→Nat,(I 0 Z)∧∀n:Int,∀Z1,(I n Z1)→a_b (decide (n < (len3:Int))) (∃len4:Nat,(Idx Tryz.prog Z1 k0 1 len4)∧((0:Int)≤n)∧(n < (len4:Int))∧∃row:List D,(Row Z1 k0 (Int.toNat n) row)∧∃n1:Int,((List.take 1 row) =([iD n1]:List D))∧Fw.newObj Z1 (.live a_h [[iD (w64 ((ite ((1048576:Int) < n1) 1048576 n1) +2))]]) (fun id Z2=>DCalls Tryz.prog g_9 [.one d, .one (.osl id 0 1)] Z2 (fun r1 Z3=>(r1=(.tup []:RV))∧(I (w64 (n+1)) Z3)∧((μ (w64 (n+1)) Z3) < (μ n Z1))))) (∃len4:Nat,(Len k1 len4)∧∃I1:Int→Store→Prop,∃μ1:Int→Store→Nat,(I1 0 Z1)∧∀n1:Int,∀Z2,(I1 n1 Z2)→a_b (decide (n1 < (len4:Int))) (∃len5:Nat,(Idx Tryz.prog Z2 k1 4 len5)∧((0:Int)≤n1)∧(n1 < (len5:Int))∧∃row:List D,(Row Z2 k1 (Int.toNat n1) row)∧∃n2 n3 n4 n5:Int,((List.take 4 row) =([iD n2,iD n3,iD n4,iD n5]:List D))∧Fw.newObj Z2 (.live a_h [[iD n2],[iD n4]]) (fun id Z3=>DCalls Tryz.prog g_8 [.one d, .one (.osl id 0 2)] Z3 (fun r1 Z4=>(r1=(.tup []:RV))∧(I1 (w64 (n1+1)) Z4)∧((μ1 (w64 (n1+1)) Z4) < (μ1 n1 Z2))))) (∃len5:Nat,(IdxN Tryz.prog Z2 k4 8 len5)∧((0:Int)≤1)∧((1:Int)≤4)∧((4:Int)≤(len5:Int))∧∃len6:Nat,(Len (g_f k4 1 4) len6)∧∃I2:Int→Store→Prop,∃μ2:Int→Store→Nat,(I2 0 Z2)∧∀n2:Int,∀Z3,(I2 n2 Z3)→a_b (decide (n2 < (len6:Int))) (∃len7:Nat,(Idx Tryz.prog Z3 (g_f k4 1 4) 8 len7)∧((0:Int)≤n2)∧(n2 < (len7:Int))∧∃row:List D,(Row Z3 (g_f k4 1 4) (Int.toNat n2) row)∧∃n3 n4 n5 n6 n7 n8 n9 n10:Int,((List.take 8 row) =([iD n3,iD n4,iD n5,iD n6,iD n7,iD n8,iD n9,iD n10]:List D))∧Fw.newObj Z3 (.live a_h [[iD n3],[iD n4],[iD n5]]) (fun id Z4=>DCalls Tryz.prog g_2 [.one d, .one (.osl id 0 3)] Z4 (fun r1 Z5=>(r1=(.tup []:RV))∧(I2 (w64 (n2+1)) Z5)∧((μ2 (w64 (n2+1)) Z5) < (μ2 n2 Z3))))) (DCalls Tryz.prog g_0 [.one d] Z3 (fun r1 Z4=>∃s:ByteArray,∃n3:Int,(r1=(.tup [.one (.str s),iA n3]:RV))∧Qp (.tup [.one (.str s),iA n3]) Z4))))))
theorem a_l7 (k0 k1 k2 k3 k4 k5:D)(k6:Bool)(σ:Store)(Qp:RV→Store→Prop)(h:a_ky k0 k1 k2 k3 k4 k5 k6 σ Qp) :DCalls Tryz.prog o_k [.agg [k0,k1,k2,k3,k4,k5, .bool k6]] σ Qp:=
 a_a mixed (by kernel_rfl) Tryz.func35 a_hm (Eq.mp (by kernel_rfl) h)
def a_ia:Ann:= { cbs:= [2,3],draws:= [(13,{ ord:= [0,1,2,3,4,5,6,7,8,9,10,11,12,13,14,15,16,17,18,19,20,21,22,23,24,25],nb:= [],av:= [],dir:= [] })],loops:= [(5,{ mods:= [(68,s6)],keep:= [2,3,66,67] }),(11,{ mods:= [(82,s6)],keep:= [2,3,80,81] }),(17,{ mods:= [(121,s6)],keep:= [3,119,120] }),(23,{ mods:= [(139,s6)],keep:= [3,137,138] })],joins:= [(4,{ mods:= [],keep:= [2,3] })] }
def a_k1 (c0 c1 c2 c3 c4:D)(c5 c6 c7 c8:Int)(k0 k1 k2 k3 k4 k5:D)(k6:Bool)(σ:Store)(Qp:RV→Store→Prop) :Prop:=
 ∃len:Nat,(Len c0 len)∧∀R:Store→Prop,(∀Z,(∃len1:Nat,(Len k0 len1)∧∃I:Int→Store→Prop,∃μ:Int→Store→Nat,(I 0 Z)∧∀n:Int,∀Z1,(I n Z1)→a_b (decide (n < (len1:Int))) (∃len2:Nat,(Idx Tryz.prog Z1 k0 1 len2)∧((0:Int)≤n)∧(n < (len2:Int))∧∃row:List D,(Row Z1 k0 (Int.toNat n) row)∧∃n1:Int,((List.take 1 row) =([iD n1]:List D))∧∃len3:Nat,(Len c4 len3)∧DCalls Tryz.prog b_f [iA n1,iA (-2),iA (len3:Int)] Z1 (fun r Z2=>∃b:Bool,(r=(.a (bA b) :RV))∧a_b (!b) (Qp (.a (bA false)) Z2) ((I (w64 (n+1)) Z2)∧((μ (w64 (n+1)) Z2) < (μ n Z1))))) (∃len2:Nat,(Len k1 len2)∧∃I1:Int→Store→Prop,∃μ1:Int→Store→Nat,(I1 0 Z1)∧∀n1:Int,∀Z2,(I1 n1 Z2)→a_b (decide (n1 < (len2:Int))) (∃len3:Nat,(Idx Tryz.prog Z2 k1 4 len3)∧((0:Int)≤n1)∧(n1 < (len3:Int))∧∃row:List D,(Row Z2 k1 (Int.toNat n1) row)∧∃n2 n3 n4 n5:Int,((List.take 4 row) =([iD n2,iD n3,iD n4,iD n5]:List D))∧DCalls Tryz.prog b_f [iA n2,iA 0,iA 5] Z2 (fun r Z3=>∃b:Bool,(r=(.a (bA b) :RV))∧a_b (!b) (Qp (.a (bA false)) Z3) (∃len4:Nat,(Idx Tryz.prog Z3 c4 6 len4)∧((0:Int)≤n1)∧(n1 < (len4:Int))∧∃row1:List D,(Row Z3 c4 (Int.toNat n1) row1)∧∃d:D,((List.take 1 (List.drop 2 row1)) =([d]:List D))∧∃len5:Nat,(Len d len5)∧DCalls Tryz.prog b_f [iA n4,iA 0,iA (len5:Int)] Z3 (fun r1 Z4=>∃b1:Bool,(r1=(.a (bA b1) :RV))∧a_b (!b1) (Qp (.a (bA false)) Z4) (Fw.newObj Z4 (.live a_h [[iD n3],[iD n5]]) (fun id Z5=>DCalls Tryz.prog d_h [iA 0, .one (.osl id 0 2)] Z5 (fun r2 Z6=>∃b2:Bool,(r2=(.a (bA b2) :RV))∧a_b (!b2) (Qp (.a (bA false)) Z6) ((I1 (w64 (n1+1)) Z6)∧((μ1 (w64 (n1+1)) Z6) < (μ1 n1 Z2)))))))))) (Fw.newObj Z2 (.live o_x [[k2],[k3]]) (fun id Z3=>DCalls Tryz.prog f_e [.one (.osl id 0 2)] Z3 (fun r Z4=>∃d:D,(r=(.a (.one d) :RV))∧∃len3:Nat,(Len d len3)∧∃I2:Int→Store→Prop,∃μ2:Int→Store→Nat,(I2 0 Z4)∧∀n2:Int,∀Z5,(I2 n2 Z5)→a_b (decide (n2 < (len3:Int))) (∃len4:Nat,(Idx Tryz.prog Z5 d 2 len4)∧((0:Int)≤n2)∧(n2 < (len4:Int))∧∃row:List D,(Row Z5 d (Int.toNat n2) row)∧∃n3 n4:Int,((List.take 2 row) =([iD n3,iD n4]:List D))∧DCalls Tryz.prog b_f [iA n3,iA 0,iA 2] Z5 (fun r1 Z6=>∃b:Bool,(r1=(.a (bA b) :RV))∧a_b (!b) (Qp (.a (bA false)) Z6) (DCalls Tryz.prog b_f [iA n4,iA (-1),iA 4294967295] Z6 (fun r2 Z7=>∃b1:Bool,(r2=(.a (bA b1) :RV))∧a_b (!b1) (Qp (.a (bA false)) Z7) ((I2 (w64 (n2+1)) Z7)∧((μ2 (w64 (n2+1)) Z7) < (μ2 n2 Z5))))))) (∃len4:Nat,(Len k4 len4)∧∃I3:Int→Store→Prop,∃μ3:Int→Store→Nat,(I3 0 Z5)∧∀n3:Int,∀Z6,(I3 n3 Z6)→a_b (decide (n3 < (len4:Int))) (∃len5:Nat,(Idx Tryz.prog Z6 k4 8 len5)∧((0:Int)≤n3)∧(n3 < (len5:Int))∧∃row:List D,(Row Z6 k4 (Int.toNat n3) row)∧∃n4 n5 n6 n7 n8 n9 n10 n11:Int,((List.take 8 row) =([iD n4,iD n5,iD n6,iD n7,iD n8,iD n9,iD n10,iD n11]:List D))∧Fw.newObj Z6 (.live a_h [[iD n4],[iD n5],[iD n6],[iD n7],[iD n8],[iD n9],[iD n10]]) (fun id1 Z7=>DCalls Tryz.prog d_h [iA 0, .one (.osl id1 0 7)] Z7 (fun r1 Z8=>∃b:Bool,(r1=(.a (bA b) :RV))∧a_b (!b) (Qp (.a (bA false)) Z8) (Fw.newObj Z8 (.live a_h [[iD n11]]) (fun id2 Z9=>DCalls Tryz.prog d_h [iA 1, .one (.osl id2 0 1)] Z9 (fun r2 Z10=>∃b1:Bool,(r2=(.a (bA b1) :RV))∧a_b (!b1) (Qp (.a (bA false)) Z10) ((I3 (w64 (n3+1)) Z10)∧((μ3 (w64 (n3+1)) Z10) < (μ3 n3 Z6))))))))) (DCalls Tryz.prog d_h [iA 1, .one k5] Z6 (fun r1 Z7=>∃b:Bool,(r1=(.a (bA b) :RV))∧Qp (.a (bA b)) Z7))))))))→R Z)→DCalls Tryz.prog p_b [.agg [c0,c1,c2,c3,c4,iD c5,iD c6,iD c7,iD c8]] σ (fun r Z=>∃n:Int,(r=(.a (iA n) :RV))∧a_b (n != 0) (Qp (.a (bA false)) Z) (∃len1:Nat,(Len k0 len1)∧a_b ((len1:Int) !=(len:Int)) (Qp (.a (bA false)) Z) (∃len2:Nat,(Len k2 len2)∧a_b ((len2:Int) !=(len:Int)) (Qp (.a (bA false)) Z) (∃len3:Nat,(Len k5 len3)∧a_b ((len3:Int) !=(len:Int)) (Qp (.a (bA false)) Z) (∃len4:Nat,(Len k1 len4)∧∃len5:Nat,(Len c4 len5)∧a_b ((len4:Int) !=(len5:Int)) (Qp (.a (bA false)) Z) (∃len6:Nat,(Len k3 len6)∧∃len7:Nat,(Len c3 len7)∧a_b ((len6:Int) !=(len7:Int)) (Qp (.a (bA false)) Z) (∃len8:Nat,(Len k4 len8)∧a_b ((len8:Int) != 4) (Qp (.a (bA false)) Z) (R Z))))))))
theorem a_k4 (c0 c1 c2 c3 c4:D)(c5 c6 c7 c8:Int)(k0 k1 k2 k3 k4 k5:D)(k6:Bool)(σ:Store)(Qp:RV→Store→Prop)(h:a_k1 c0 c1 c2 c3 c4 c5 c6 c7 c8 k0 k1 k2 k3 k4 k5 k6 σ Qp) :DCalls Tryz.prog d_3 [.agg [c0,c1,c2,c3,c4,iD c5,iD c6,iD c7,iD c8], .agg [k0,k1,k2,k3,k4,k5, .bool k6]] σ Qp:=
 a_a mixed (by kernel_rfl) Tryz.func43 a_ia (Eq.mp (by kernel_rfl) h)
def r_v:Ann:= { loops:= [(1,{ mods:= [(12,s6)],keep:= [0,11] }),(5,{ mods:= [(26,s6)],keep:= [0,2,11,12,24,25] })] }
def t_n (j:D)(σ:Store)(Qp:RV→Store→Prop) :Prop:=
 (a_f j)∧∃s:D,∃i off:Nat,(j=(.el s i off:D))∧∃row:List D,(Row σ s i row)∧∃d:D,((List.take 1 (List.drop ((off+7) +4) row)) =([d]:List D))∧∃len:Nat,(Len d len)∧∃I:Int→Store→Prop,∃μ:Int→Store→Nat,(I 0 σ)∧∀n:Int,∀Z,(I n Z)→a_b (decide (n < (len:Int))) (Fw.newObj Z (.live a_h [[iD 0]]) (fun id Z1=>DCalls Tryz.prog d_i [.one j,iA n, .one (.osl id 0 1)] Z1 (fun r Z2=>∃b:Bool,(r=(.a (bA b) :RV))∧a_b b ((I (w64 (n+1)) Z2)∧((μ (w64 (n+1)) Z2) < (μ n Z))) ((a_f j)∧∃s1:D,∃i1 off1:Nat,(j=(.el s1 i1 off1:D))∧∃row1:List D,(Row Z2 s1 i1 row1)∧∃d1 d2 d3 d4 d5:D,∃n1 n2 n3 n4:Int,((List.take 9 (List.drop (off1+7) row1)) =([d1,d2,d3,d4,d5,iD n1,iD n2,iD n3,iD n4]:List D))∧DCalls Tryz.prog d_0 [.agg [d1,d2,d3,d4,d5,iD n1,iD n2,iD n3,iD n4],iA n] Z2 (fun r1 Z3=>∃d6:D,(r1=(.a (.one d6) :RV))∧∃len1:Nat,(Len d6 len1)∧∃I1:Int→Store→Prop,∃μ1:Int→Store→Nat,(I1 0 Z3)∧∀n5:Int,∀Z4,(I1 n5 Z4)→a_b (decide (n5 < (len1:Int))) (∃len2:Nat,(Idx Tryz.prog Z4 d6 1 len2)∧((0:Int)≤n5)∧(n5 < (len2:Int))∧∃row2:List D,(Row Z4 d6 (Int.toNat n5) row2)∧∃n6:Int,((List.take 1 row2) =([iD n6]:List D))∧(a_f j)∧∃s2:D,∃i2 off2:Nat,(j=(.el s2 i2 off2:D))∧∃row3:List D,(Row Z4 s2 i2 row3)∧∃d7:D,((List.take 1 (List.drop ((off2+7) +3) row3)) =([d7]:List D))∧∃len3:Nat,(Idx Tryz.prog Z4 d7 1 len3)∧((0:Int)≤n6)∧(n6 < (len3:Int))∧∃row4:List D,(Row Z4 d7 (Int.toNat n6) row4)∧∃n7:Int,((List.take 1 row4) =([iD n7]:List D))∧(a_f j)∧∃s3:D,∃i3 off3:Nat,(j=(.el s3 i3 off3:D))∧∃row5:List D,(Row Z4 s3 i3 row5)∧∃d8:D,((List.take 1 (List.drop ((off3+0) +0) row5)) =([d8]:List D))∧∃len4:Nat,(Idx Tryz.prog Z4 d8 1 len4)∧((0:Int)≤n7)∧(n7 < (len4:Int))∧∃row6:List D,(Row Z4 d8 (Int.toNat n7) row6)∧∃n8:Int,((List.take 1 row6) =([iD n8]:List D))∧a_b (n8 ==(w64 (n+1))) ((a_f j)∧∃s4:D,∃i4 off4:Nat,(j=(.el s4 i4 off4:D))∧∃row7:List D,(Row Z4 s4 i4 row7)∧∃d9:D,((List.take 1 (List.drop ((off4+0) +3) row7)) =([d9]:List D))∧∃len5:Nat,(Idx Tryz.prog Z4 d9 2 len5)∧((0:Int)≤n6)∧(n6 < (len5:Int))∧∃row8:List D,(Row Z4 d9 (Int.toNat n6) row8)∧∃n9:Int,((List.take 1 row8) =([iD n9]:List D))∧DCalls Tryz.prog a_s [.one j,bA (n9 != 1),iA 5,iA n,iA n7] Z4 (fun r2 Z5=>(r2=(.tup []:RV))∧(I1 (w64 (n5+1)) Z5)∧((μ1 (w64 (n5+1)) Z5) < (μ1 n5 Z4)))) (DCalls Tryz.prog a_s [.one j,bA false,iA 5,iA n,iA n7] Z4 (fun r2 Z5=>(r2=(.tup []:RV))∧(I1 (w64 (n5+1)) Z5)∧((μ1 (w64 (n5+1)) Z5) < (μ1 n5 Z4))))) ((I (w64 (n+1)) Z4)∧((μ (w64 (n+1)) Z4) < (μ n Z)))))))) (Qp (.tup []) Z)
theorem t_1 (j:D)(σ:Store)(Qp:RV→Store→Prop)(h:t_n j σ Qp) :DCalls Tryz.prog e_e [.one j] σ Qp:=
 a_a mixed (by kernel_rfl) Tryz.func47 r_v (Eq.mp (by kernel_rfl) h)
def a_gf:Ann:= { loops:= [(3,{ mods:= [(7,s6),(12,s6)],keep:= [1,2,10,11] })],joins:= [(7,{ mods:= [(7,s6)],keep:= [1,2,9,10,11,12] })] }
def a_iw (joints:D)(section_ end_:Int)(σ:Store)(Qp:RV→Store→Prop) :Prop:=
 ∃len:Nat,(Len joints len)∧∃I:Int→Int→Store→Prop,∃μ:Int→Int→Store→Nat,(I 0 0 σ)∧∀n n1:Int,∀Z,(I n n1 Z)→a_b (decide (n1 < (len:Int))) (∃len1:Nat,(Idx Tryz.prog Z joints 4 len1)∧((0:Int)≤n1)∧(n1 < (len1:Int))∧∃row:List D,(Row Z joints (Int.toNat n1) row)∧∃n2 n3 n4 n5:Int,((List.take 4 row) =([iD n2,iD n3,iD n4,iD n5]:List D))∧∀R:Int→Store→Prop,(∀n6:Int,∀Z1,(a_b (n4 == section_) (a_b (n5 == end_) ((I (w64 (n6+1)) (w64 (n1+1)) Z1)∧((μ (w64 (n6+1)) (w64 (n1+1)) Z1) < (μ n n1 Z))) ((I n6 (w64 (n1+1)) Z1)∧((μ n6 (w64 (n1+1)) Z1) < (μ n n1 Z)))) ((I n6 (w64 (n1+1)) Z1)∧((μ n6 (w64 (n1+1)) Z1) < (μ n n1 Z))))→R n6 Z1)→a_b (n2 == section_) (a_b (n3 == end_) ((([[iD n2,iD n3,iD n4,iD n5]]:List (List D)) =([[iD n2,iD n3,iD n4,iD n5]]:List (List D)))∧R (w64 (n+1)) Z) ((([[iD n2,iD n3,iD n4,iD n5]]:List (List D)) =([[iD n2,iD n3,iD n4,iD n5]]:List (List D)))∧R n Z)) ((([[iD n2,iD n3,iD n4,iD n5]]:List (List D)) =([[iD n2,iD n3,iD n4,iD n5]]:List (List D)))∧R n Z)) (Qp (.a (iA n)) Z)
theorem a_ip (joints:D)(section_ end_:Int)(σ:Store)(Qp:RV→Store→Prop)(h:a_iw joints section_ end_ σ Qp) :DCalls Tryz.prog g_l [.one joints,iA section_,iA end_] σ Qp:=
 a_a mixed (by kernel_rfl) Tryz.func51 a_gf (Eq.mp (by kernel_rfl) h)
def a_o0:Ann:= { loops:= [(2,{ mods:= [(9,s6)],keep:= [1,7,8] })] }
def a_qq (l:D)(n:Int)(σ:Store)(Qp:RV→Store→Prop) :Prop:=
 ∃len:Nat,(Len l len)∧∃I:Int→Store→Prop,∃μ:Int→Store→Nat,(I 0 σ)∧∀n1:Int,∀Z,(I n1 Z)→a_b (decide (n1 < (len:Int))) (∃len1:Nat,(Idx Tryz.prog Z l 1 len1)∧((0:Int)≤n1)∧(n1 < (len1:Int))∧∃row:List D,(Row Z l (Int.toNat n1) row)∧∃n2:Int,((List.take 1 row) =([iD n2]:List D))∧a_b (n2 == n) (Qp (.a (bA true)) Z) ((I (w64 (n1+1)) Z)∧((μ (w64 (n1+1)) Z) < (μ n1 Z)))) (Qp (.a (bA false)) Z)
theorem a_q1 (l:D)(n:Int)(σ:Store)(Qp:RV→Store→Prop)(h:a_qq l n σ Qp) :DCalls Tryz.prog d_o [.one l,iA n] σ Qp:=
 a_a mixed (by kernel_rfl) Tryz.func55 a_o0 (Eq.mp (by kernel_rfl) h)
def a_fo:Ann:= { }
def a_hy (now:Int)(σ:Store)(Qp:RV→Store→Prop) :Prop:=
 Qp (.a (.agg [iD 0,iD now])) σ
theorem a_hv (now:Int)(σ:Store)(Qp:RV→Store→Prop)(h:a_hy now σ Qp) :DCalls Tryz.prog m_p [iA now] σ Qp:=
 a_a mixed (by kernel_rfl) Tryz.func59 a_fo (Eq.mp (by kernel_rfl) h)
def p_v:Ann:= { draws:= [(24,{ ord:= [0,1,2,3,4,5,6,7,8,9,10,11,12,13,14,15,16,17,18,19,20,21],nb:= [6],av:= [],dir:= [],sp:= [19] }),(29,{ ord:= [0,1,2,3,4,5,6,7,8,9,10,11,12,13,14,15,16,17],nb:= [],av:= [],dir:= [],sp:= [15] })],loops:= [(16,{ mods:= [(66,s6)],keep:= [0,1,2,7,64,65] }),(22,{ mods:= [(90,s6)],keep:= [0,1,2,88,89] }),(27,{ mods:= [(123,s6)],keep:= [0,1,121,122] })],joins:= [(15,{ mods:= [],keep:= [0,1,2,7,9] })] }
def r_b (d:D)(now r:Int)(σ:Store)(Qp:RV→Store→Prop) :Prop:=
 DCalls Tryz.prog e_z [.one d,iA r] σ (fun r1 Z=>∃d1:D,∃n:Int,(r1=(.tup [.one d1,iA n]:RV))∧a_b (n != 0) (Qp (.a (iA n)) Z) ((a_f d1)∧∃s:D,∃i off:Nat,(d1=(.el s i off:D))∧∃row:List D,(Row Z s i row)∧∃n1:Int,((List.take 1 (List.drop (off+0) row)) =([iD n1]:List D))∧a_b (n1 != 0) (Qp (.a (iA 28)) Z) ((a_f d)∧∃s1:D,∃i1 off1:Nat,(d=(.el s1 i1 off1:D))∧∃row1:List D,(Row Z s1 i1 row1)∧∃d2 d3 d4 d5 d6:D,∃n2 n3 n4 n5:Int,((List.take 9 (List.drop (off1+0) row1)) =([d2,d3,d4,d5,d6,iD n2,iD n3,iD n4,iD n5]:List D))∧DCalls Tryz.prog p_e [.agg [d2,d3,d4,d5,d6,iD n2,iD n3,iD n4,iD n5],iA r] Z (fun r2 Z1=>∃d7:D,(r2=(.a (.one d7) :RV))∧DCalls Tryz.prog i_p [.one d,iA r, .one d7] Z1 (fun r3 Z2=>∃n6:Int,(r3=(.a (iA n6) :RV))∧a_b (n6 != 0) (Qp (.a (iA n6)) Z2) (∀R:Store→Prop,(∀Z3,(∃len:Nat,(Len d7 len)∧∃I:Int→Store→Prop,∃μ:Int→Store→Nat,(I 0 Z3)∧∀n7:Int,∀Z4,(I n7 Z4)→a_b (decide (n7 < (len:Int))) (∃len1:Nat,(Idx Tryz.prog Z4 d7 1 len1)∧((0:Int)≤n7)∧(n7 < (len1:Int))∧∃row2:List D,(Row Z4 d7 (Int.toNat n7) row2)∧∃n8:Int,((List.take 1 row2) =([iD n8]:List D))∧(a_f d)∧∃s2:D,∃i2 off2:Nat,(d=(.el s2 i2 off2:D))∧∃row3:List D,(Row Z4 s2 i2 row3)∧∃d8:D,((List.take 1 (List.drop ((off2+9) +0) row3)) =([d8]:List D))∧∃len2:Nat,(Idx Tryz.prog Z4 d8 1 len2)∧((0:Int)≤n8)∧(n8 < (len2:Int))∧a_j [iD (w64 (r+1))] Z4 d8 (Int.toNat n8) 0 (fun Z5=>(I (w64 (n7+1)) Z5)∧((μ (w64 (n7+1)) Z5) < (μ n7 Z4)))) ((a_f d1)∧∃s2:D,∃i2 off2:Nat,(d1=(.el s2 i2 off2:D))∧a_j [iD 1,iD 0,iD 0,iD 0] Z4 s2 i2 off2 (fun Z5=>(a_f d)∧∃s3:D,∃i3 off3:Nat,(d=(.el s3 i3 off3:D))∧∃row2:List D,(Row Z5 s3 i3 row2)∧∃d8 d9 d10 d11 d12:D,∃n8 n9 n10 n11:Int,((List.take 9 (List.drop (off3+0) row2)) =([d8,d9,d10,d11,d12,iD n8,iD n9,iD n10,iD n11]:List D))∧DCalls Tryz.prog g_o [.agg [d8,d9,d10,d11,d12,iD n8,iD n9,iD n10,iD n11],iA r] Z5 (fun r4 Z6=>∃d13:D,(r4=(.a (.one d13) :RV))∧∃len1:Nat,(Len d13 len1)∧∃I1:Int→Store→Prop,∃μ1:Int→Store→Nat,(I1 0 Z6)∧∀n12:Int,∀Z7,(I1 n12 Z7)→a_b (decide (n12 < (len1:Int))) (∃len2:Nat,(Idx Tryz.prog Z7 d13 2 len2)∧((0:Int)≤n12)∧(n12 < (len2:Int))∧∃row3:List D,(Row Z7 d13 (Int.toNat n12) row3)∧∃n13 n14:Int,((List.take 2 row3) =([iD n13,iD n14]:List D))∧∃pre:List A→Store→Prop,∃post:List A→Store→RV→Store→Prop,(h_o Tryz.prog b_5 pre post)∧(a_f d)∧∃s4:D,∃i4 off4:Nat,(d=(.el s4 i4 off4:D))∧∃row4:List D,(Row Z7 s4 i4 row4)∧∃d14:D,((List.take 1 (List.drop ((off4+9) +2) row4)) =([d14]:List D))∧(a_f d)∧∃s5:D,∃i5 off5:Nat,(d=(.el s5 i5 off5:D))∧∃row5:List D,(Row Z7 s5 i5 row5)∧∃d15:D,((List.take 1 (List.drop ((off5+9) +2) row5)) =([d15]:List D))∧∃len3:Nat,(Idx Tryz.prog Z7 d15 2 len3)∧((0:Int)≤n13)∧(n13 < (len3:Int))∧∃row6:List D,(Row Z7 d15 (Int.toNat n13) row6)∧∃n15 n16:Int,((List.take 2 row6) =([iD n15,iD n16]:List D))∧(pre [.agg [iD n15,iD n16],iA now,iA n14] Z7)∧∀r5:RV,∀s6:Store,(post [.agg [iD n15,iD n16],iA now,iA n14] Z7 r5 s6)→∃n17 n18:Int,(r5=(.a (.agg [iD n17,iD n18]) :RV))∧∃len4:Nat,(Idx Tryz.prog s6 d14 2 len4)∧((0:Int)≤n13)∧(n13 < (len4:Int))∧a_j [iD n17,iD n18] s6 d14 (Int.toNat n13) 0 (fun Z8=>(I1 (w64 (n12+1)) Z8)∧((μ1 (w64 (n12+1)) Z8) < (μ1 n12 Z7)))) ((a_f d)∧∃s4:D,∃i4 off4:Nat,(d=(.el s4 i4 off4:D))∧∃row3:List D,(Row Z7 s4 i4 row3)∧∃d14 d15 d16 d17 d18:D,∃n13 n14 n15 n16:Int,((List.take 9 (List.drop (off4+0) row3)) =([d14,d15,d16,d17,d18,iD n13,iD n14,iD n15,iD n16]:List D))∧DCalls Tryz.prog d_0 [.agg [d14,d15,d16,d17,d18,iD n13,iD n14,iD n15,iD n16],iA r] Z7 (fun r5 Z8=>∃d19:D,(r5=(.a (.one d19) :RV))∧∃len2:Nat,(Len d19 len2)∧∃I2:Int→Store→Prop,∃μ2:Int→Store→Nat,(I2 0 Z8)∧∀n17:Int,∀Z9,(I2 n17 Z9)→a_b (decide (n17 < (len2:Int))) (∃len3:Nat,(Idx Tryz.prog Z9 d19 1 len3)∧((0:Int)≤n17)∧(n17 < (len3:Int))∧∃row4:List D,(Row Z9 d19 (Int.toNat n17) row4)∧∃n18:Int,((List.take 1 row4) =([iD n18]:List D))∧∃pre:List A→Store→Prop,∃post:List A→Store→RV→Store→Prop,(h_o Tryz.prog b_5 pre post)∧(a_f d)∧∃s5:D,∃i5 off5:Nat,(d=(.el s5 i5 off5:D))∧∃row5:List D,(Row Z9 s5 i5 row5)∧∃d20:D,((List.take 1 (List.drop ((off5+9) +3) row5)) =([d20]:List D))∧(a_f d)∧∃s6:D,∃i6 off6:Nat,(d=(.el s6 i6 off6:D))∧∃row6:List D,(Row Z9 s6 i6 row6)∧∃d21:D,((List.take 1 (List.drop ((off6+9) +3) row6)) =([d21]:List D))∧∃len4:Nat,(Idx Tryz.prog Z9 d21 2 len4)∧((0:Int)≤n18)∧(n18 < (len4:Int))∧∃row7:List D,(Row Z9 d21 (Int.toNat n18) row7)∧∃n19 n20:Int,((List.take 2 row7) =([iD n19,iD n20]:List D))∧(pre [.agg [iD n19,iD n20],iA now,iA 1] Z9)∧∀r6:RV,∀s7:Store,(post [.agg [iD n19,iD n20],iA now,iA 1] Z9 r6 s7)→∃n21 n22:Int,(r6=(.a (.agg [iD n21,iD n22]) :RV))∧∃len5:Nat,(Idx Tryz.prog s7 d20 2 len5)∧((0:Int)≤n18)∧(n18 < (len5:Int))∧a_j [iD n21,iD n22] s7 d20 (Int.toNat n18) 0 (fun Z10=>(I2 (w64 (n17+1)) Z10)∧((μ2 (w64 (n17+1)) Z10) < (μ2 n17 Z9)))) ((a_f d)∧∃s5:D,∃i5 off5:Nat,(d=(.el s5 i5 off5:D))∧a_j [.bool true] Z9 s5 i5 ((off5+9) +6) (fun Z10=>Qp (.a (iA 0)) Z10))))))))→R Z3)→DCalls Tryz.prog h_x [.one d,iA r] Z2 (fun r4 Z3=>∃d8:D,(r4=(.a (.one d8) :RV))∧∃b:Bool,(h_6 .pt d8 b)∧a_b (b != true) ((a_f d8)∧∃s2:D,∃i2 off2:Nat,(d8=(.el s2 i2 off2:D))∧∃row2:List D,(Row Z3 s2 i2 row2)∧∃n7:Int,((List.take 1 (List.drop (off2+0) row2)) =([iD n7]:List D))∧a_b (decide (n7≥4294967295)) (Qp (.a (iA 5)) Z3) ((a_f d8)∧∃s3:D,∃i3 off3:Nat,(d8=(.el s3 i3 off3:D))∧∃row3:List D,(Row Z3 s3 i3 row3)∧∃n8:Int,((List.take 1 (List.drop (off3+0) row3)) =([iD n8]:List D))∧(a_f d8)∧∃s4:D,∃i4 off4:Nat,(d8=(.el s4 i4 off4:D))∧a_j [iD (w64 (n8+1))] Z3 s4 i4 (off4+0) (fun Z4=>R Z4))) (R Z3))))))))
theorem r_z (d:D)(now r:Int)(σ:Store)(Qp:RV→Store→Prop)(h:r_b d now r σ Qp) :DCalls Tryz.prog f_s [.one d,iA now,iA r] σ Qp:=
 a_a mixed (by kernel_rfl) Tryz.func63 p_v (Eq.mp (by kernel_rfl) h)
def a_af:Ann:= { draws:= [(1,{ ord:= [0,1,2,3,4,5,6,7,8,9,10,11,12,13,14,15,16,17,18,19,20,21,22],nb:= [],av:= [],dir:= [] }),(5,{ ord:= [0,1,2,3,4,5,6,7,8,9],nb:= [],av:= [],dir:= [] }),(7,{ ord:= [0,1,2,3,4,5,6,7,8,9,10,11,12,13,14,15,16,17,18],nb:= [],av:= [],dir:= [],sp:= [16] })],joins:= [(7,{ mods:= [],keep:= [0,1,2,3] })] }
def a_dv (d a1 a2 a3:D)(σ:Store)(Qp:RV→Store→Prop) :Prop:=
 ∀R:Store→Prop,(∀Z,(∃pre:List A→Store→Prop,∃post:List A→Store→RV→Store→Prop,(h_o Tryz.prog b_5 pre post)∧(a_f d)∧∃s:D,∃i off:Nat,(d=(.el s i off:D))∧∃row:List D,(Row Z s i row)∧∃d1:D,((List.take 1 (List.drop ((off+9) +2) row)) =([d1]:List D))∧∃s1:D,∃i1 off1:Nat,(a1=(.el s1 i1 off1:D))∧∃row1:List D,(Row Z s1 i1 row1)∧∃n:Int,((List.take 1 (List.drop off1 row1)) =([iD n]:List D))∧(a_f d)∧∃s2:D,∃i2 off2:Nat,(d=(.el s2 i2 off2:D))∧∃row2:List D,(Row Z s2 i2 row2)∧∃d2:D,((List.take 1 (List.drop ((off2+9) +2) row2)) =([d2]:List D))∧∃s3:D,∃i3 off3:Nat,(a1=(.el s3 i3 off3:D))∧∃row3:List D,(Row Z s3 i3 row3)∧∃n1:Int,((List.take 1 (List.drop off3 row3)) =([iD n1]:List D))∧∃len:Nat,(Idx Tryz.prog Z d2 2 len)∧((0:Int)≤n1)∧(n1 < (len:Int))∧∃row4:List D,(Row Z d2 (Int.toNat n1) row4)∧∃n2 n3:Int,((List.take 2 row4) =([iD n2,iD n3]:List D))∧∃s4:D,∃i4 off4:Nat,(a3=(.el s4 i4 off4:D))∧∃row5:List D,(Row Z s4 i4 row5)∧∃n4:Int,((List.take 1 (List.drop off4 row5)) =([iD n4]:List D))∧∃s5:D,∃i5 off5:Nat,(a2=(.el s5 i5 off5:D))∧∃row6:List D,(Row Z s5 i5 row6)∧∃n5:Int,((List.take 1 (List.drop off5 row6)) =([iD n5]:List D))∧(pre [.agg [iD n2,iD n3],iA n4,iA n5] Z)∧∀r:RV,∀s6:Store,(post [.agg [iD n2,iD n3],iA n4,iA n5] Z r s6)→∃n6 n7:Int,(r=(.a (.agg [iD n6,iD n7]) :RV))∧∃len1:Nat,(Idx Tryz.prog s6 d1 2 len1)∧((0:Int)≤n)∧(n < (len1:Int))∧a_j [iD n6,iD n7] s6 d1 (Int.toNat n) 0 (fun Z1=>Qp (.a (iA 0)) Z1))→R Z)→∃s:D,∃i off:Nat,(a1=(.el s i off:D))∧∃row:List D,(Row σ s i row)∧∃n:Int,((List.take 1 (List.drop off row)) =([iD n]:List D))∧(a_f d)∧∃s1:D,∃i1 off1:Nat,(d=(.el s1 i1 off1:D))∧∃row1:List D,(Row σ s1 i1 row1)∧∃d1:D,((List.take 1 (List.drop ((off1+9) +0) row1)) =([d1]:List D))∧∃len:Nat,(Len d1 len)∧DCalls Tryz.prog b_f [iA n,iA 0, .one (iD (w64 ((len:Int) - 1)))] σ (fun r Z=>∃b:Bool,(r=(.a (bA b) :RV))∧a_b (!b) (Qp (.a (iA 20)) Z) ((a_f d)∧∃s2:D,∃i2 off2:Nat,(d=(.el s2 i2 off2:D))∧∃row2:List D,(Row Z s2 i2 row2)∧∃d2:D,((List.take 1 (List.drop ((off2+0) +0) row2)) =([d2]:List D))∧∃s3:D,∃i3 off3:Nat,(a1=(.el s3 i3 off3:D))∧∃row3:List D,(Row Z s3 i3 row3)∧∃n1:Int,((List.take 1 (List.drop off3 row3)) =([iD n1]:List D))∧∃len1:Nat,(Idx Tryz.prog Z d2 3 len1)∧((0:Int)≤n1)∧(n1 < (len1:Int))∧∃row4:List D,(Row Z d2 (Int.toNat n1) row4)∧∃n2:Int,((List.take 1 row4) =([iD n2]:List D))∧a_b (n2 != 1) (Qp (.a (iA 20)) Z) (∃s4:D,∃i4 off4:Nat,(a2=(.el s4 i4 off4:D))∧∃row5:List D,(Row Z s4 i4 row5)∧∃n3:Int,((List.take 1 (List.drop off4 row5)) =([iD n3]:List D))∧a_b (n3 != 1) (∃s5:D,∃i5 off5:Nat,(a2=(.el s5 i5 off5:D))∧∃row6:List D,(Row Z s5 i5 row6)∧∃n4:Int,((List.take 1 (List.drop off5 row6)) =([iD n4]:List D))∧a_b (n4 != 2) (Qp (.a (iA 32)) Z) ((a_f d)∧∃s6:D,∃i6 off6:Nat,(d=(.el s6 i6 off6:D))∧∃row7:List D,(Row Z s6 i6 row7)∧∃d3:D,((List.take 1 (List.drop ((off6+9) +0) row7)) =([d3]:List D))∧∃s7:D,∃i7 off7:Nat,(a1=(.el s7 i7 off7:D))∧∃row8:List D,(Row Z s7 i7 row8)∧∃n5:Int,((List.take 1 (List.drop off7 row8)) =([iD n5]:List D))∧∃len2:Nat,(Idx Tryz.prog Z d3 1 len2)∧((0:Int)≤n5)∧(n5 < (len2:Int))∧∃row9:List D,(Row Z d3 (Int.toNat n5) row9)∧∃n6:Int,((List.take 1 row9) =([iD n6]:List D))∧a_b (n6 != 0) (Qp (.a (iA 22)) Z) (R Z))) ((a_f d)∧∃s5:D,∃i5 off5:Nat,(d=(.el s5 i5 off5:D))∧∃row6:List D,(Row Z s5 i5 row6)∧∃d3:D,((List.take 1 (List.drop ((off5+9) +0) row6)) =([d3]:List D))∧∃s6:D,∃i6 off6:Nat,(a1=(.el s6 i6 off6:D))∧∃row7:List D,(Row Z s6 i6 row7)∧∃n4:Int,((List.take 1 (List.drop off6 row7)) =([iD n4]:List D))∧∃len2:Nat,(Idx Tryz.prog Z d3 1 len2)∧((0:Int)≤n4)∧(n4 < (len2:Int))∧∃row8:List D,(Row Z d3 (Int.toNat n4) row8)∧∃n5:Int,((List.take 1 row8) =([iD n5]:List D))∧a_b (n5 != 0) (Qp (.a (iA 22)) Z) (R Z)))))
theorem a_dn (d a1 a2 a3:D)(σ:Store)(Qp:RV→Store→Prop)(h:a_dv d a1 a2 a3 σ Qp) :DCalls Tryz.prog p_h [.one d, .one a1, .one a2, .one a3] σ Qp:=
 a_a mixed (by kernel_rfl) Tryz.func67 a_af (Eq.mp (by kernel_rfl) h)
def w_y:Ann:= { joins:= [(6,{ mods:= [],keep:= [0,1,6] })] }
def y_q (d l:D)(s:Int)(σ:Store)(Qp:RV→Store→Prop) :Prop:=
 (a_f l)∧∃s1:D,∃i off:Nat,(l=(.el s1 i off:D))∧∃row:List D,(Row σ s1 i row)∧∃n:Int,((List.take 1 (List.drop (off+2) row)) =([iD n]:List D))∧∀R:Store→Prop,(∀Z,((a_f d)∧∃s2:D,∃i1 off1:Nat,(d=(.el s2 i1 off1:D))∧∃row1:List D,(Row Z s2 i1 row1)∧∃b:Bool,((List.take 1 (List.drop (off1+21) row1)) =([.bool b]:List D))∧a_b (!b) ((a_f l)∧∃s3:D,∃i2 off2:Nat,(l=(.el s3 i2 off2:D))∧a_j [iD n] Z s3 i2 (off2+3) (fun Z1=>Qp (.tup []) Z1)) (Qp (.tup []) Z))→R Z)→(a_f d)∧∃s2:D,∃i1 off1:Nat,(d=(.el s2 i1 off1:D))∧∃row1:List D,(Row σ s2 i1 row1)∧∃d1:D,((List.take 1 (List.drop ((off1+0) +0) row1)) =([d1]:List D))∧∃len:Nat,(Idx Tryz.prog σ d1 1 len)∧((0:Int)≤s)∧(s < (len:Int))∧∃row2:List D,(Row σ d1 (Int.toNat s) row2)∧∃n1:Int,((List.take 1 row2) =([iD n1]:List D))∧a_b (n1 ==(-2)) (DCalls Tryz.prog h_2 [.one d, .one l,iA s] σ (fun r Z=>(r=(.tup []:RV))∧R Z)) ((a_f d)∧∃s3:D,∃i2 off2:Nat,(d=(.el s3 i2 off2:D))∧∃row3:List D,(Row σ s3 i2 row3)∧∃d2:D,((List.take 1 (List.drop ((off2+0) +0) row3)) =([d2]:List D))∧∃len1:Nat,(Idx Tryz.prog σ d2 1 len1)∧((0:Int)≤s)∧(s < (len1:Int))∧∃row4:List D,(Row σ d2 (Int.toNat s) row4)∧∃n2:Int,((List.take 1 row4) =([iD n2]:List D))∧a_b (n2 == 0) (DCalls Tryz.prog h_9 [.one d, .one l,iA s] σ (fun r Z=>∃b:Bool,(r=(.a (bA b) :RV))∧a_b b (DCalls Tryz.prog f_4 [.one d,iA s,iA (-2)] Z (fun r1 Z1=>(r1=(.tup []:RV))∧(a_f l)∧∃s4:D,∃i3 off3:Nat,(l=(.el s4 i3 off3:D))∧∃row5:List D,(Row Z1 s4 i3 row5)∧∃n3:Int,((List.take 1 (List.drop ((off3+4) +0) row5)) =([iD n3]:List D))∧(a_f l)∧∃s5:D,∃i4 off4:Nat,(l=(.el s5 i4 off4:D))∧a_j [iD n3] Z1 s5 i4 (off4+2) (fun Z2=>(a_f l)∧∃s6:D,∃i5 off5:Nat,(l=(.el s6 i5 off5:D))∧a_j [iD 0] Z2 s6 i5 (off5+7) (fun Z3=>R Z3)))) (R Z))) (R σ))
theorem y_5 (d l:D)(s:Int)(σ:Store)(Qp:RV→Store→Prop)(h:y_q d l s σ Qp) :DCalls Tryz.prog h_1 [.one d, .one l,iA s] σ Qp:=
 a_a mixed (by kernel_rfl) Tryz.func71 w_y (Eq.mp (by kernel_rfl) h)
def p_2:Ann:= { draws:= [(2,{ ord:= [0,1,2,3,4,5,6,7,8,9,10,11,12,13,14,15],nb:= [],av:= [],dir:= [] })],joins:= [(2,{ mods:= [(5,SlotSh.one (Sh.bool))],keep:= [0,1,4] }),(3,{ mods:= [(25,SlotSh.one (Sh.bool))],keep:= [0,1,4] }),(5,{ mods:= [(54,SlotSh.one (Sh.bool))],keep:= [0,1,4] })] }
def r_g (x:D)(r:Int)(σ:Store)(Qp:RV→Store→Prop) :Prop:=
 (a_f x)∧∃s:D,∃i off:Nat,(x=(.el s i off:D))∧∃row:List D,(Row σ s i row)∧∃d:D,((List.take 1 (List.drop ((off+13) +1) row)) =([d]:List D))∧∃len:Nat,(Idx Tryz.prog σ d 4 len)∧((0:Int)≤r)∧(r < (len:Int))∧∀R:Bool→Store→Prop,(∀b:Bool,∀Z,(∀R1:Bool→Store→Prop,(∀b1:Bool,∀Z1,(a_b b1 ((a_f x)∧∃s1:D,∃i1 off1:Nat,(x=(.el s1 i1 off1:D))∧∃row1:List D,(Row Z1 s1 i1 row1)∧∃n:Int,((List.take 1 (List.drop (off1+20) row1)) =([iD n]:List D))∧a_j [iD 4] Z1 d (Int.toNat r) 0 (fun Z2=>a_j [iD n] Z2 d (Int.toNat r) 1 (fun Z3=>a_j [iD 0] Z3 d (Int.toNat r) 3 (fun Z4=>Qp (.tup []) Z4)))) (∀R2:Bool→Store→Prop,(∀b2:Bool,∀Z2,(a_b b2 (a_j [iD 3] Z2 d (Int.toNat r) 0 (fun Z3=>Qp (.tup []) Z3)) (∃row1:List D,(Row Z2 d (Int.toNat r) row1)∧∃n:Int,((List.take 1 row1) =([iD n]:List D))∧a_b (n == 1) ((a_f x)∧∃s1:D,∃i1 off1:Nat,(x=(.el s1 i1 off1:D))∧∃row2:List D,(Row Z2 s1 i1 row2)∧∃b3:Bool,((List.take 1 (List.drop (off1+21) row2)) =([.bool b3]:List D))∧a_b (!b3) (DCalls Tryz.prog d_5 [.one x,iA r] Z2 (fun r1 Z3=>∃b4:Bool,(r1=(.a (bA b4) :RV))∧a_b b4 (a_j [iD 2] Z3 d (Int.toNat r) 0 (fun Z4=>Qp (.tup []) Z4)) (∃row3:List D,(Row Z3 d (Int.toNat r) row3)∧∃n1:Int,((List.take 1 row3) =([iD n1]:List D))∧a_b (n1 == 4) (DCalls Tryz.prog b_0 [.one x,iA r] Z3 (fun r2 Z4=>(r2=(.tup []:RV))∧Qp (.tup []) Z4)) (Qp (.tup []) Z3)))) (∃row3:List D,(Row Z2 d (Int.toNat r) row3)∧∃n1:Int,((List.take 1 row3) =([iD n1]:List D))∧a_b (n1 == 4) (DCalls Tryz.prog b_0 [.one x,iA r] Z2 (fun r1 Z3=>(r1=(.tup []:RV))∧Qp (.tup []) Z3)) (Qp (.tup []) Z2))) (∃row2:List D,(Row Z2 d (Int.toNat r) row2)∧∃n1:Int,((List.take 1 row2) =([iD n1]:List D))∧a_b (n1 == 4) (DCalls Tryz.prog b_0 [.one x,iA r] Z2 (fun r1 Z3=>(r1=(.tup []:RV))∧Qp (.tup []) Z3)) (Qp (.tup []) Z2))))→R2 b2 Z2)→∃row1:List D,(Row Z1 d (Int.toNat r) row1)∧∃n:Int,((List.take 1 row1) =([iD n]:List D))∧a_b (n == 2) (DCalls Tryz.prog d_5 [.one x,iA r] Z1 (fun r1 Z2=>∃b2:Bool,(r1=(.a (bA b2) :RV))∧R2 (!b2) Z2)) (R2 false Z1)))→R1 b1 Z1)→a_b b ((a_f x)∧∃s1:D,∃i1 off1:Nat,(x=(.el s1 i1 off1:D))∧(a_f x)∧∃s2:D,∃i2 off2:Nat,(x=(.el s2 i2 off2:D))∧∃row1:List D,(Row Z s2 i2 row1)∧∃d1:D,((List.take 1 (List.drop (off2+22) row1)) =([d1]:List D))∧∃len1:Nat,(Idx Tryz.prog Z d1 1 len1)∧((0:Int)≤r)∧(r < (len1:Int))∧∃row2:List D,(Row Z d1 (Int.toNat r) row2)∧∃d2:D,((List.take 1 row2) =([d2]:List D))∧DCalls Tryz.prog b_8 [.one (.el s1 i1 (off1+0)), .one d2] Z (fun r1 Z1=>∃b1:Bool,(r1=(.a (bA b1) :RV))∧R1 (!b1) Z1)) (R1 false Z))→R b Z)→∃row1:List D,(Row σ d (Int.toNat r) row1)∧∃n:Int,((List.take 1 row1) =([iD n]:List D))∧a_b (n == 2) (R true σ) (∃row2:List D,(Row σ d (Int.toNat r) row2)∧∃n1:Int,((List.take 1 row2) =([iD n1]:List D))∧R (n1 == 3) σ)
theorem r_0 (x:D)(r:Int)(σ:Store)(Qp:RV→Store→Prop)(h:r_g x r σ Qp) :DCalls Tryz.prog f_r [.one x,iA r] σ Qp:=
 a_a mixed (by kernel_rfl) Tryz.func75 p_2 (Eq.mp (by kernel_rfl) h)
def a_py:Ann:= { esc:= [6] }
def a_qp (limit:Int)(σ:Store)(Qp:RV→Store→Prop) :Prop:=
 Fw.newObj σ (.live d_6 [[iD 0, .nils,iD (ite ((0:Int) > limit) 0 limit)]]) (fun id Z=>Qp (.a (.one (.el (.osl id 0 1) 0 0))) Z)
theorem a_rs (limit:Int)(σ:Store)(Qp:RV→Store→Prop)(h:a_qp limit σ Qp) :DCalls Tryz.prog w_6 [iA limit] σ Qp:=
 a_a mixed (by kernel_rfl) Tryz.func79 a_py (Eq.mp (by kernel_rfl) h)
def t_6:Ann:= { draws:= [(2,{ ord:= [0,1,2,3,4,5,6],nb:= [],av:= [],dir:= [] })] }
def v_p (w:D)(σ:Store)(Qp:RV→Store→Prop) :Prop:=
 (a_f w)∧∃s:D,∃i off:Nat,(w=(.el s i off:D))∧DCalls Tryz.prog a_6 [.one (.el s i (off+0))] σ (fun r Z=>∃b:Bool,(r=(.a (bA b) :RV))∧a_b (!b) ((a_f w)∧∃s1:D,∃i1 off1:Nat,(w=(.el s1 i1 off1:D))∧∃row:List D,(Row Z s1 i1 row)∧∃n:Int,((List.take 1 (List.drop ((off1+0) +0) row)) =([iD n]:List D))∧Qp (.tup [.one (.str (ByteArray.mk (List.toArray []))),iA n]) Z) ((a_f w)∧∃s1:D,∃i1 off1:Nat,(w=(.el s1 i1 off1:D))∧∃row:List D,(Row Z s1 i1 row)∧∃d:D,((List.take 1 (List.drop (off1+1) row)) =([d]:List D))∧∃b1:ByteArray,(Fw.Rows Tryz.prog Z f_v d (d_a b1))∧Qp (.tup [.one (.str b1),iA 0]) Z))
theorem w_k (w:D)(σ:Store)(Qp:RV→Store→Prop)(h:v_p w σ Qp) :DCalls Tryz.prog g_0 [.one w] σ Qp:=
 a_a mixed (by kernel_rfl) Tryz.func83 t_6 (Eq.mp (by kernel_rfl) h)
def t_r:Ann:= { }
def u_6 (r:D)(σ:Store)(Qp:RV→Store→Prop) :Prop:=
 DCalls Tryz.prog c_6 [.one r,iA 4] σ (fun r1 Z=>∃n:Int,(r1=(.a (iA n) :RV))∧Qp (.a (iA n)) Z)
theorem w_n (r:D)(σ:Store)(Qp:RV→Store→Prop)(h:u_6 r σ Qp) :DCalls Tryz.prog d_r [.one r] σ Qp:=
 a_a mixed (by kernel_rfl) Tryz.func87 t_r (Eq.mp (by kernel_rfl) h)
def n_0:Ann:= { }
def p_y (j:D)(r:Int)(σ:Store)(Qp:RV→Store→Prop) :Prop:=
 Fw.newObj σ (.live a_h [[iD 1],[iD 2],[iD 3]]) (fun id Z=>DCalls Tryz.prog d_i [.one j,iA r, .one (.osl id 0 3)] Z (fun r1 Z1=>∃b:Bool,(r1=(.a (bA b) :RV))∧Qp (.a (bA b)) Z1))
theorem p_t (j:D)(r:Int)(σ:Store)(Qp:RV→Store→Prop)(h:p_y j r σ Qp) :DCalls Tryz.prog d_t [.one j,iA r] σ Qp:=
 a_a mixed (by kernel_rfl) Tryz.func95 n_0 (Eq.mp (by kernel_rfl) h)
def j_v:Ann:= { loops:= [(2,{ mods:= [(8,s6)],keep:= [0,1,7] })] }
def k_0 (s f:D)(σ:Store)(Qp:RV→Store→Prop) :Prop:=
 ∃len:Nat,(Len s len)∧∃I:Int→Store→Prop,∃μ:Int→Store→Nat,(I 0 σ)∧∀n:Int,∀Z,(I n Z)→a_b (decide (n < (len:Int))) (∃len1:Nat,(Idx Tryz.prog Z s 3 len1)∧((0:Int)≤n)∧(n < (len1:Int))∧∃row:List D,(Row Z s (Int.toNat n) row)∧∃n1 n2 n3:Int,((List.take 3 row) =([iD n1,iD n2,iD n3]:List D))∧∃f1:FuncId,∃a:List (Bool × (List D)),∃b:List (Bool × (List D)),∃as0':List A,∃bs:List A,(f=(.fn f1 a b:D))∧((f_p a) =(Option.some as0'))∧((f_p b) =(Option.some bs))∧DCalls Tryz.prog f1 (HAppend.hAppend (HAppend.hAppend as0' [.agg [iD n1,iD n2,iD n3]]) bs) Z (fun r Z1=>∃b1:Bool,(r=(.a (bA b1) :RV))∧a_b b1 (Qp (.a (iA n)) Z1) ((I (w64 (n+1)) Z1)∧((μ (w64 (n+1)) Z1) < (μ n Z))))) (Qp (.a (iA (-1))) Z)
theorem k_p (s f:D)(σ:Store)(Qp:RV→Store→Prop)(h:k_0 s f σ Qp) :DCalls Tryz.prog c_f [.one s, .one f] σ Qp:=
 a_a mixed (by kernel_rfl) Tryz.func99 j_v (Eq.mp (by kernel_rfl) h)
def a_ix:Ann:= { esc:= [10],cbs:= [2,3] }
def a_lt (c0 c1 c2 c3 c4:D)(c5 c6 c7 c8:Int)(k0 k1 k2 k3 k4 k5:D)(k6:Bool)(σ:Store)(Qp:RV→Store→Prop) :Prop:=
 Fw.newObj σ (.live d_d [[c0,c1,c2,c3,c4,iD c5,iD c6,iD c7,iD c8,k0,k1,k2,k3,k4,k5, .bool k6]]) (fun id Z=>DCalls Tryz.prog a_4 [.one k0] Z (fun r Z1=>∃d:D,(r=(.a (.one d) :RV))∧a_j [d] Z1 (.osl id 0 1) 0 9 (fun Z2=>DCalls Tryz.prog b_s [.one k1] Z2 (fun r1 Z3=>∃d1:D,(r1=(.a (.one d1) :RV))∧a_j [d1] Z3 (.osl id 0 1) 0 10 (fun Z4=>DCalls Tryz.prog b_b [.one k2] Z4 (fun r2 Z5=>∃d2:D,(r2=(.a (.one d2) :RV))∧a_j [d2] Z5 (.osl id 0 1) 0 11 (fun Z6=>DCalls Tryz.prog b_b [.one k3] Z6 (fun r3 Z7=>∃d3:D,(r3=(.a (.one d3) :RV))∧a_j [d3] Z7 (.osl id 0 1) 0 12 (fun Z8=>DCalls Tryz.prog b_2 [.one k4] Z8 (fun r4 Z9=>∃d4:D,(r4=(.a (.one d4) :RV))∧a_j [d4] Z9 (.osl id 0 1) 0 13 (fun Z10=>DCalls Tryz.prog a_4 [.one k5] Z10 (fun r5 Z11=>∃d5:D,(r5=(.a (.one d5) :RV))∧a_j [d5] Z11 (.osl id 0 1) 0 14 (fun Z12=>DCalls Tryz.prog d_3 [.agg [c0,c1,c2,c3,c4,iD c5,iD c6,iD c7,iD c8], .agg [k0,k1,k2,k3,k4,k5, .bool k6]] Z12 (fun r6 Z13=>∃b:Bool,(r6=(.a (bA b) :RV))∧Qp (.tup [.one (.el (.osl id 0 1) 0 0),bA b]) Z13))))))))))))))
theorem a_mq (c0 c1 c2 c3 c4:D)(c5 c6 c7 c8:Int)(k0 k1 k2 k3 k4 k5:D)(k6:Bool)(σ:Store)(Qp:RV→Store→Prop)(h:a_lt c0 c1 c2 c3 c4 c5 c6 c7 c8 k0 k1 k2 k3 k4 k5 k6 σ Qp) :DCalls Tryz.prog j_2 [.agg [c0,c1,c2,c3,c4,iD c5,iD c6,iD c7,iD c8], .agg [k0,k1,k2,k3,k4,k5, .bool k6]] σ Qp:=
 a_a mixed (by kernel_rfl) Tryz.func104 a_ix (Eq.mp (by kernel_rfl) h)
def v_5:Ann:= { draws:= [(4,{ ord:= [0,1,2,3,4,5,6,7,8,9,10],nb:= [],av:= [],dir:= [] })],loops:= [(2,{ mods:= [(18,s6)],keep:= [0,16,17] })] }
def x_k (d:D)(r:Int)(σ:Store)(Qp:RV→Store→Prop) :Prop:=
 (a_f d)∧∃s:D,∃i off:Nat,(d=(.el s i off:D))∧∃row:List D,(Row σ s i row)∧∃d1:D,((List.take 1 (List.drop ((off+0) +4) row)) =([d1]:List D))∧∃len:Nat,(Idx Tryz.prog σ d1 6 len)∧((0:Int)≤r)∧(r < (len:Int))∧∃row1:List D,(Row σ d1 (Int.toNat r) row1)∧∃d2:D,((List.take 1 (List.drop 2 row1)) =([d2]:List D))∧∃len1:Nat,(Len d2 len1)∧∃I:Int→Store→Prop,∃μ:Int→Store→Nat,(I 0 σ)∧∀n:Int,∀Z,(I n Z)→a_b (decide (n < (len1:Int))) (∃len2:Nat,(Idx Tryz.prog Z d2 3 len2)∧((0:Int)≤n)∧(n < (len2:Int))∧∃row2:List D,(Row Z d2 (Int.toNat n) row2)∧∃n1 n2 n3:Int,((List.take 3 row2) =([iD n1,iD n2,iD n3]:List D))∧(a_f d)∧∃s1:D,∃i1 off1:Nat,(d=(.el s1 i1 off1:D))∧∃row3:List D,(Row Z s1 i1 row3)∧∃d3:D,((List.take 1 (List.drop ((off1+0) +0) row3)) =([d3]:List D))∧∃len3:Nat,(Idx Tryz.prog Z d3 3 len3)∧((0:Int)≤n1)∧(n1 < (len3:Int))∧∃row4:List D,(Row Z d3 (Int.toNat n1) row4)∧∃n4:Int,((List.take 1 (List.drop 2 row4)) =([iD n4]:List D))∧a_b (decide (n4 > 0)) ((a_f d)∧∃s2:D,∃i2 off2:Nat,(d=(.el s2 i2 off2:D))∧∃row5:List D,(Row Z s2 i2 row5)∧∃d4:D,((List.take 1 (List.drop ((off2+9) +4) row5)) =([d4]:List D))∧∃len4:Nat,(Idx Tryz.prog Z d4 8 len4)∧((0:Int)≤n4)∧(n4 < (len4:Int))∧Qp (.a (.one (.el d4 (Int.toNat n4) 0))) Z) ((I (w64 (n+1)) Z)∧((μ (w64 (n+1)) Z) < (μ n Z)))) (Qp (.a (.one .nilp)) Z)
theorem y_d (d:D)(r:Int)(σ:Store)(Qp:RV→Store→Prop)(h:x_k d r σ Qp) :DCalls Tryz.prog h_x [.one d,iA r] σ Qp:=
 a_a mixed (by kernel_rfl) Tryz.func108 v_5 (Eq.mp (by kernel_rfl) h)
def l_j:Ann:= { }
def m_n (s:D)(σ:Store)(Qp:RV→Store→Prop) :Prop:=
 ∃b:Bool,(h_6 .sl s b)∧a_b (b != false) (Qp (.a (.one .nils)) σ) (Fw.newObj σ (.live d_g []) (fun id Z=>a_z Tryz.prog Z d_g 64 (.osl id 0 0) s (fun d Z1=>Qp (.a (.one d)) Z1)))
theorem m_t (s:D)(σ:Store)(Qp:RV→Store→Prop)(h:m_n s σ Qp) :DCalls Tryz.prog b_2 [.one s] σ Qp:=
 a_a mixed (by kernel_rfl) Tryz.func112 l_j (Eq.mp (by kernel_rfl) h)
def v_0:Ann:= { draws:= [(1,{ ord:= [0,1,2,3,4,5,6,7,8,9,10],nb:= [],av:= [],dir:= [] }),(5,{ ord:= [0,1,2,3,4,5,6,7,8,9,10,11,12,13,14,15,16],nb:= [],av:= [],dir:= [] })] }
def x_f (d l:D)(s:Int)(σ:Store)(Qp:RV→Store→Prop) :Prop:=
 (a_f d)∧∃s1:D,∃i off:Nat,(d=(.el s1 i off:D))∧∃row:List D,(Row σ s1 i row)∧∃d1:D,((List.take 1 (List.drop ((off+16) +0) row)) =([d1]:List D))∧∃len:Nat,(Idx Tryz.prog σ d1 3 len)∧((0:Int)≤s)∧(s < (len:Int))∧∃row1:List D,(Row σ d1 (Int.toNat s) row1)∧∃n n1:Int,∃b:Bool,((List.take 3 row1) =([iD n,iD n1, .bool b]:List D))∧(a_f l)∧∃s2:D,∃i1 off1:Nat,(l=(.el s2 i1 off1:D))∧∃row2:List D,(Row σ s2 i1 row2)∧∃n2:Int,((List.take 1 (List.drop ((off1+4) +1) row2)) =([iD n2]:List D))∧(a_f l)∧∃s3:D,∃i2 off2:Nat,(l=(.el s3 i2 off2:D))∧∃row3:List D,(Row σ s3 i2 row3)∧∃n3:Int,((List.take 1 (List.drop (off2+2) row3)) =([iD n3]:List D))∧a_b (decide (n2 < n3)) ((a_f l)∧∃s4:D,∃i3 off3:Nat,(l=(.el s4 i3 off3:D))∧a_j [iD 0] σ s4 i3 (off3+7) (fun Z=>Qp (.tup []) Z)) ((a_f l)∧∃s4:D,∃i3 off3:Nat,(l=(.el s4 i3 off3:D))∧∃row4:List D,(Row σ s4 i3 row4)∧∃n4:Int,((List.take 1 (List.drop (off3+7) row4)) =([iD n4]:List D))∧a_b (n4 == 0) ((a_f d)∧∃s5:D,∃i4 off4:Nat,(d=(.el s5 i4 off4:D))∧∃row5:List D,(Row σ s5 i4 row5)∧∃n5:Int,((List.take 1 (List.drop (off4+20) row5)) =([iD n5]:List D))∧(a_f l)∧∃s6:D,∃i5 off5:Nat,(l=(.el s6 i5 off5:D))∧a_j [iD (w64 (n5+1))] σ s6 i5 (off5+7) (fun Z=>Qp (.tup []) Z)) (a_b b (a_b (n == 0) ((a_f l)∧∃s5:D,∃i4 off4:Nat,(l=(.el s5 i4 off4:D))∧∃row5:List D,(Row σ s5 i4 row5)∧∃n5:Int,((List.take 1 (List.drop (off4+7) row5)) =([iD n5]:List D))∧a_b (decide (n1≥n5)) (DCalls Tryz.prog f_4 [.one d,iA s,iA 0] σ (fun r Z=>(r=(.tup []:RV))∧(a_f l)∧∃s6:D,∃i5 off5:Nat,(l=(.el s6 i5 off5:D))∧a_j [iD 0] Z s6 i5 (off5+7) (fun Z1=>Qp (.tup []) Z1))) (Qp (.tup []) σ)) (Qp (.tup []) σ)) (Qp (.tup []) σ)))
theorem z_k (d l:D)(s:Int)(σ:Store)(Qp:RV→Store→Prop)(h:x_f d l s σ Qp) :DCalls Tryz.prog h_2 [.one d, .one l,iA s] σ Qp:=
 a_a mixed (by kernel_rfl) Tryz.func116 v_0 (Eq.mp (by kernel_rfl) h)
def p_q:Ann:= { esc:= [2,3],draws:= [(1,{ ord:= [0,1,2,3,4,5,6,7,8,10,9,11,12],nb:= [],av:= [],dir:= [] }),(2,{ ord:= [0,1,2,3,4,5,6,7,8,9,10,11,12,13,14,15,16,17,18,19],nb:= [],av:= [],dir:= [] }),(4,{ ord:= [0,1,2,3,4,7,5,6],nb:= [],av:= [],dir:= [] }),(7,{ ord:= [0,1,2,3,4,5,6,7,8,9,10],nb:= [],av:= [],dir:= [] }),(8,{ ord:= [0,1,2,3,4,5,6,7,8,9,10,11,12,13,14,15,16,17,18,19,20,21,22,23,24,25],nb:= [],av:= [],dir:= [] }),(11,{ ord:= [0,1,2,3,4,7,5,6],nb:= [],av:= [],dir:= [] }),(14,{ ord:= [0,1,2,3,4,5,6,7,8,9,10,11,12,13,14,15,16,17,18,19,20,21,22,23,24],nb:= [],av:= [],dir:= [] }),(18,{ ord:= [0,1,2,3,4,5,6,7,8,9,10,11,12,13,14,15,16,17,18],nb:= [],av:= [],dir:= [] }),(19,{ ord:= [0,1,2,3,4,5,6,7,8,9,10,11,12,13,14,15,16,17,18,19,20,21,22,23],nb:= [],av:= [],dir:= [] })],loops:= [(5,{ mods:= [(52,s6)],keep:= [2,3,50,51] }),(12,{ mods:= [(99,s6)],keep:= [2,3,97,98] })],joins:= [(4,{ mods:= [],keep:= [2,3] })] }
def q_w (x:D)(r:Int)(σ:Store)(Qp:RV→Store→Prop) :Prop:=
 Fw.newObj σ (.live a_bk [[x]]) (fun id Z=>Fw.newObj Z (.live a_h [[iD r]]) (fun id1 Z1=>∃row:List D,(Row Z1 (.osl id 0 1) 0 row)∧∃d:D,((List.take 1 row) =([d]:List D))∧(a_f d)∧∃s:D,∃i off:Nat,(d=(.el s i off:D))∧∃row1:List D,(Row Z1 s i row1)∧∃d1:D,((List.take 1 (List.drop ((off+4) +4) row1)) =([d1]:List D))∧∃row2:List D,(Row Z1 (.osl id1 0 1) 0 row2)∧∃n:Int,((List.take 1 row2) =([iD n]:List D))∧∃len:Nat,(Idx Tryz.prog Z1 d1 6 len)∧((0:Int)≤n)∧(n < (len:Int))∧∃row3:List D,(Row Z1 d1 (Int.toNat n) row3)∧∃d2:D,((List.take 1 (List.drop 4 row3)) =([d2]:List D))∧DCalls Tryz.prog a_4 [.one d2] Z1 (fun r1 Z2=>∃d3:D,(r1=(.a (.one d3) :RV))∧DCalls Tryz.prog e_k [.one d3, .one (.fn e_v [] [(false,[.el (.osl id 0 1) 0 0]),(false,[.el (.osl id1 0 1) 0 0])])] Z2 (fun r2 Z3=>∃d4:D,(r2=(.a (.one d4) :RV))∧∀R:Store→Prop,(∀Z4,(∃row4:List D,(Row Z4 (.osl id 0 1) 0 row4)∧∃d5:D,((List.take 1 row4) =([d5]:List D))∧(a_f d5)∧∃s1:D,∃i1 off1:Nat,(d5=(.el s1 i1 off1:D))∧∃row5:List D,(Row Z4 s1 i1 row5)∧∃d6 d7 d8 d9 d10:D,∃n1 n2 n3 n4:Int,((List.take 9 (List.drop (off1+4) row5)) =([d6,d7,d8,d9,d10,iD n1,iD n2,iD n3,iD n4]:List D))∧∃row6:List D,(Row Z4 (.osl id1 0 1) 0 row6)∧∃n5:Int,((List.take 1 row6) =([iD n5]:List D))∧DCalls Tryz.prog g_o [.agg [d6,d7,d8,d9,d10,iD n1,iD n2,iD n3,iD n4],iA n5] Z4 (fun r3 Z5=>∃d11:D,(r3=(.a (.one d11) :RV))∧∃len1:Nat,(Len d11 len1)∧∃I:Int→Store→Prop,∃μ:Int→Store→Nat,(I 0 Z5)∧∀n6:Int,∀Z6,(I n6 Z6)→a_b (decide (n6 < (len1:Int))) (∃len2:Nat,(Idx Tryz.prog Z6 d11 2 len2)∧((0:Int)≤n6)∧(n6 < (len2:Int))∧∃row7:List D,(Row Z6 d11 (Int.toNat n6) row7)∧∃n7 n8:Int,((List.take 2 row7) =([iD n7,iD n8]:List D))∧∃row8:List D,(Row Z6 (.osl id 0 1) 0 row8)∧∃d12:D,((List.take 1 row8) =([d12]:List D))∧(a_f d12)∧∃s2:D,∃i2 off2:Nat,(d12=(.el s2 i2 off2:D))∧∃row9:List D,(Row Z6 s2 i2 row9)∧∃d13:D,((List.take 1 (List.drop ((off2+13) +2) row9)) =([d13]:List D))∧∃len3:Nat,(Idx Tryz.prog Z6 d13 2 len3)∧((0:Int)≤n7)∧(n7 < (len3:Int))∧∃row10:List D,(Row Z6 d13 (Int.toNat n7) row10)∧∃n9 n10:Int,((List.take 2 row10) =([iD n9,iD n10]:List D))∧a_b (n9 != n8) (Qp (.a (bA false)) Z6) (∃row11:List D,(Row Z6 (.osl id 0 1) 0 row11)∧∃d14:D,((List.take 1 row11) =([d14]:List D))∧(a_f d14)∧∃s3:D,∃i3 off3:Nat,(d14=(.el s3 i3 off3:D))∧∃row12:List D,(Row Z6 s3 i3 row12)∧∃d15:D,((List.take 1 (List.drop (((off3+0) +0) +1) row12)) =([d15]:List D))∧∃len4:Nat,(Idx Tryz.prog Z6 d15 3 len4)∧((0:Int)≤n7)∧(n7 < (len4:Int))∧∃row13:List D,(Row Z6 d15 (Int.toNat n7) row13)∧∃n11 n12:Int,∃b:Bool,((List.take 3 row13) =([iD n11,iD n12, .bool b]:List D))∧∃row14:List D,(Row Z6 (.osl id 0 1) 0 row14)∧∃d16:D,((List.take 1 row14) =([d16]:List D))∧(a_f d16)∧∃s4:D,∃i4 off4:Nat,(d16=(.el s4 i4 off4:D))∧∃row15:List D,(Row Z6 s4 i4 row15)∧∃n13:Int,((List.take 1 (List.drop (((off4+4) +5) +0) row15)) =([iD n13]:List D))∧DCalls Tryz.prog h_4 [.agg [iD n9,iD n10], .agg [iD n11,iD n12, .bool b],iA n13] Z6 (fun r4 Z7=>∃b1:Bool,(r4=(.a (bA b1) :RV))∧a_b (!b1) (Qp (.a (bA false)) Z7) ((I (w64 (n6+1)) Z7)∧((μ (w64 (n6+1)) Z7) < (μ n6 Z6)))))) (∃row7:List D,(Row Z6 (.osl id 0 1) 0 row7)∧∃d12:D,((List.take 1 row7) =([d12]:List D))∧(a_f d12)∧∃s2:D,∃i2 off2:Nat,(d12=(.el s2 i2 off2:D))∧∃row8:List D,(Row Z6 s2 i2 row8)∧∃d13 d14 d15 d16 d17:D,∃n7 n8 n9 n10:Int,((List.take 9 (List.drop (off2+4) row8)) =([d13,d14,d15,d16,d17,iD n7,iD n8,iD n9,iD n10]:List D))∧∃row9:List D,(Row Z6 (.osl id1 0 1) 0 row9)∧∃n11:Int,((List.take 1 row9) =([iD n11]:List D))∧DCalls Tryz.prog d_0 [.agg [d13,d14,d15,d16,d17,iD n7,iD n8,iD n9,iD n10],iA n11] Z6 (fun r4 Z7=>∃d18:D,(r4=(.a (.one d18) :RV))∧∃len2:Nat,(Len d18 len2)∧∃I1:Int→Store→Prop,∃μ1:Int→Store→Nat,(I1 0 Z7)∧∀n12:Int,∀Z8,(I1 n12 Z8)→a_b (decide (n12 < (len2:Int))) (∃len3:Nat,(Idx Tryz.prog Z8 d18 1 len3)∧((0:Int)≤n12)∧(n12 < (len3:Int))∧∃row10:List D,(Row Z8 d18 (Int.toNat n12) row10)∧∃n13:Int,((List.take 1 row10) =([iD n13]:List D))∧∃row11:List D,(Row Z8 (.osl id 0 1) 0 row11)∧∃d19:D,((List.take 1 row11) =([d19]:List D))∧(a_f d19)∧∃s3:D,∃i3 off3:Nat,(d19=(.el s3 i3 off3:D))∧∃row12:List D,(Row Z8 s3 i3 row12)∧∃d20:D,((List.take 1 (List.drop ((off3+13) +3) row12)) =([d20]:List D))∧∃len4:Nat,(Idx Tryz.prog Z8 d20 2 len4)∧((0:Int)≤n13)∧(n13 < (len4:Int))∧∃row13:List D,(Row Z8 d20 (Int.toNat n13) row13)∧∃n14 n15:Int,((List.take 2 row13) =([iD n14,iD n15]:List D))∧∃row14:List D,(Row Z8 (.osl id 0 1) 0 row14)∧∃d21:D,((List.take 1 row14) =([d21]:List D))∧(a_f d21)∧∃s4:D,∃i4 off4:Nat,(d21=(.el s4 i4 off4:D))∧∃row15:List D,(Row Z8 s4 i4 row15)∧∃d22:D,((List.take 1 (List.drop (((off4+0) +0) +2) row15)) =([d22]:List D))∧∃len5:Nat,(Idx Tryz.prog Z8 d22 3 len5)∧((0:Int)≤n13)∧(n13 < (len5:Int))∧∃row16:List D,(Row Z8 d22 (Int.toNat n13) row16)∧∃n16 n17:Int,∃b:Bool,((List.take 3 row16) =([iD n16,iD n17, .bool b]:List D))∧∃row17:List D,(Row Z8 (.osl id 0 1) 0 row17)∧∃d23:D,((List.take 1 row17) =([d23]:List D))∧(a_f d23)∧∃s5:D,∃i5 off5:Nat,(d23=(.el s5 i5 off5:D))∧∃row18:List D,(Row Z8 s5 i5 row18)∧∃n18:Int,((List.take 1 (List.drop (((off5+4) +5) +0) row18)) =([iD n18]:List D))∧DCalls Tryz.prog h_4 [.agg [iD n14,iD n15], .agg [iD n16,iD n17, .bool b],iA n18] Z8 (fun r5 Z9=>∃b1:Bool,(r5=(.a (bA b1) :RV))∧a_b (!b1) (Qp (.a (bA false)) Z9) ((I1 (w64 (n12+1)) Z9)∧((μ1 (w64 (n12+1)) Z9) < (μ1 n12 Z8))))) (∃row10:List D,(Row Z8 (.osl id 0 1) 0 row10)∧∃d19:D,((List.take 1 row10) =([d19]:List D))∧∃row11:List D,(Row Z8 (.osl id1 0 1) 0 row11)∧∃n13:Int,((List.take 1 row11) =([iD n13]:List D))∧DCalls Tryz.prog e_c [.one d19,iA n13] Z8 (fun r5 Z9=>∃d20:D,(r5=(.a (.one d20) :RV))∧∃row12:List D,(Row Z9 (.osl id 0 1) 0 row12)∧∃d21:D,((List.take 1 row12) =([d21]:List D))∧(a_f d21)∧∃s3:D,∃i3 off3:Nat,(d21=(.el s3 i3 off3:D))∧∃row13:List D,(Row Z9 s3 i3 row13)∧∃d22:D,((List.take 1 (List.drop (((off3+0) +0) +3) row13)) =([d22]:List D))∧∃row14:List D,(Row Z9 (.osl id 0 1) 0 row14)∧∃d23:D,((List.take 1 row14) =([d23]:List D))∧(a_f d23)∧∃s4:D,∃i4 off4:Nat,(d23=(.el s4 i4 off4:D))∧∃row15:List D,(Row Z9 s4 i4 row15)∧∃d24:D,((List.take 1 (List.drop ((off4+4) +4) row15)) =([d24]:List D))∧∃row16:List D,(Row Z9 (.osl id1 0 1) 0 row16)∧∃n14:Int,((List.take 1 row16) =([iD n14]:List D))∧∃len3:Nat,(Idx Tryz.prog Z9 d24 6 len3)∧((0:Int)≤n14)∧(n14 < (len3:Int))∧∃row17:List D,(Row Z9 d24 (Int.toNat n14) row17)∧∃n15:Int,((List.take 1 row17) =([iD n15]:List D))∧∃len4:Nat,(Idx Tryz.prog Z9 d22 3 len4)∧((0:Int)≤n15)∧(n15 < (len4:Int))∧∃row18:List D,(Row Z9 d22 (Int.toNat n15) row18)∧∃n16 n17:Int,∃b:Bool,((List.take 3 row18) =([iD n16,iD n17, .bool b]:List D))∧a_b b (a_b (n16 == 1) (∃b1:Bool,(h_6 .pt d20 b1)∧a_b (b1 != false) (Qp (.a (bA true)) Z9) ((a_f d20)∧∃s5:D,∃i5 off5:Nat,(d20=(.el s5 i5 off5:D))∧∃row19:List D,(Row Z9 s5 i5 row19)∧∃n18:Int,((List.take 1 (List.drop ((off5+4) +2) row19)) =([iD n18]:List D))∧(a_f d20)∧∃s6:D,∃i6 off6:Nat,(d20=(.el s6 i6 off6:D))∧∃row20:List D,(Row Z9 s6 i6 row20)∧∃n19:Int,((List.take 1 (List.drop (off6+0) row20)) =([iD n19]:List D))∧Qp (.a (bA (n18 == n19))) Z9)) (Qp (.a (bA false)) Z9)) (Qp (.a (bA false)) Z9)))))))→R Z4)→∃row4:List D,(Row Z3 (.osl id 0 1) 0 row4)∧∃d5:D,((List.take 1 row4) =([d5]:List D))∧(a_f d5)∧∃s1:D,∃i1 off1:Nat,(d5=(.el s1 i1 off1:D))∧∃row5:List D,(Row Z3 (.osl id 0 1) 0 row5)∧∃d6:D,((List.take 1 row5) =([d6]:List D))∧(a_f d6)∧∃s2:D,∃i2 off2:Nat,(d6=(.el s2 i2 off2:D))∧∃row6:List D,(Row Z3 s2 i2 row6)∧∃d7:D,((List.take 1 (List.drop (off2+22) row6)) =([d7]:List D))∧∃row7:List D,(Row Z3 (.osl id1 0 1) 0 row7)∧∃n1:Int,((List.take 1 row7) =([iD n1]:List D))∧∃len1:Nat,(Idx Tryz.prog Z3 d7 1 len1)∧((0:Int)≤n1)∧(n1 < (len1:Int))∧∃row8:List D,(Row Z3 d7 (Int.toNat n1) row8)∧∃d8:D,((List.take 1 row8) =([d8]:List D))∧DCalls Tryz.prog b_8 [.one (.el s1 i1 (off1+0)), .one d8] Z3 (fun r3 Z4=>∃b:Bool,(r3=(.a (bA b) :RV))∧a_b (!b) (Qp (.a (bA false)) Z4) (∃row9:List D,(Row Z4 (.osl id 0 1) 0 row9)∧∃d9:D,((List.take 1 row9) =([d9]:List D))∧(a_f d9)∧∃s3:D,∃i3 off3:Nat,(d9=(.el s3 i3 off3:D))∧DCalls Tryz.prog b_8 [.one (.el s3 i3 (off3+0)), .one d4] Z4 (fun r4 Z5=>∃b1:Bool,(r4=(.a (bA b1) :RV))∧a_b (!b1) (Qp (.a (bA false)) Z5) (R Z5))))))))
theorem q_7 (x:D)(r:Int)(σ:Store)(Qp:RV→Store→Prop)(h:q_w x r σ Qp) :DCalls Tryz.prog d_5 [.one x,iA r] σ Qp:=
 a_a mixed (by kernel_rfl) Tryz.func120 p_q (Eq.mp (by kernel_rfl) h)
def r_2:Ann:= { }
def s_2 (t:D)(σ:Store)(Qp:RV→Store→Prop) :Prop:=
 (a_f t)∧∃s:D,∃i off:Nat,(t=(.el s i off:D))∧∃row:List D,(Row σ s i row)∧∃n:Int,((List.take 1 (List.drop (off+0) row)) =([iD n]:List D))∧Qp (.a (bA (n == 0))) σ
theorem s_8 (t:D)(σ:Store)(Qp:RV→Store→Prop)(h:s_2 t σ Qp) :DCalls Tryz.prog a_6 [.one t] σ Qp:=
 a_a mixed (by kernel_rfl) Tryz.func124 r_2 (Eq.mp (by kernel_rfl) h)
def n_9:Ann:= { cbs:= [1],loops:= [(3,{ mods:= [(13,s6)],keep:= [1,3,11,12] })] }
def q_c (p0 p1 p2 p3 p4:D)(p5 p6 p7 p8:Int)(σ:Store)(Qp:RV→Store→Prop) :Prop:=
 Fw.newObj σ (.mp 0 []) (fun id Z=>∃len:Nat,(Len p3 len)∧∃I:Int→Store→Prop,∃μ:Int→Store→Nat,(I 0 Z)∧∀n:Int,∀Z1,(I n Z1)→a_b (decide (n < (len:Int))) (∃len1:Nat,(Idx Tryz.prog Z1 p3 1 len1)∧((0:Int)≤n)∧(n < (len1:Int))∧∃row:List D,(Row Z1 p3 (Int.toNat n) row)∧∃n1:Int,((List.take 1 row) =([iD n1]:List D))∧DCalls Tryz.prog b_v [.agg [p0,p1,p2,p3,p4,iD p5,iD p6,iD p7,iD p8],iA n1] Z1 (fun r Z2=>∃n2 n3 n4:Int,∃b:Bool,(r=(.tup [.agg [iD n2,iD n3,iD n4],bA b]:RV))∧∃r1:Option A,(i_3 Tryz.prog a_h Z2 (.omap id) (iA n1) r1)∧∃n5:Int,((Option.getD r1 (iA 0)) =(iA n5:A))∧MPut Tryz.prog a_h Z2 (.omap id) (iA n1) (.one (iD (w64 (n5+1)))) (fun Z3=>a_b (!b) (Qp (.a (bA false)) Z3) (a_b (n4 != 0) (Qp (.a (bA false)) Z3) (∃r2:Option A,(i_3 Tryz.prog a_h Z3 (.omap id) (iA n1) r2)∧∃n6:Int,((Option.getD r2 (iA 0)) =(iA n6:A))∧a_b (decide (n6 > 1)) (Qp (.a (bA false)) Z3) ((I (w64 (n+1)) Z3)∧((μ (w64 (n+1)) Z3) < (μ n Z1)))))))) (∃len1:Nat,(Len p3 len1)∧Qp (.a (.one (.bool (decide ((len1:Int)≤4))))) Z1))
theorem p_4 (p0 p1 p2 p3 p4:D)(p5 p6 p7 p8:Int)(σ:Store)(Qp:RV→Store→Prop)(h:q_c p0 p1 p2 p3 p4 p5 p6 p7 p8 σ Qp) :DCalls Tryz.prog f_f [.agg [p0,p1,p2,p3,p4,iD p5,iD p6,iD p7,iD p8]] σ Qp:=
 a_a mixed (by kernel_rfl) Tryz.func128 n_9 (Eq.mp (by kernel_rfl) h)
def a_f3:Ann:= { cbs:= [2] }
def a_i6 (c0 c1 c2 c3 c4:D)(c5 c6 c7 c8 r:Int)(σ:Store)(Qp:RV→Store→Prop) :Prop:=
 a_b (decide (r < 0)) (Qp (.tup [.agg [iD 0,iD 0, .nils, .nils, .nils, .bool false],bA false]) σ) (∃len:Nat,(Len c4 len)∧a_b (decide (r≥(len:Int))) (Qp (.tup [.agg [iD 0,iD 0, .nils, .nils, .nils, .bool false],bA false]) σ) (∃len1:Nat,(Idx Tryz.prog σ c4 6 len1)∧((0:Int)≤r)∧(r < (len1:Int))∧∃row:List D,(Row σ c4 (Int.toNat r) row)∧∃n n1:Int,∃d d1 d2:D,∃b:Bool,((List.take 6 row) =([iD n,iD n1,d,d1,d2, .bool b]:List D))∧Qp (.tup [.agg [iD n,iD n1,d,d1,d2, .bool b],bA true]) σ))
theorem a_hh (c0 c1 c2 c3 c4:D)(c5 c6 c7 c8 r:Int)(σ:Store)(Qp:RV→Store→Prop)(h:a_i6 c0 c1 c2 c3 c4 c5 c6 c7 c8 r σ Qp) :DCalls Tryz.prog i_x [.agg [c0,c1,c2,c3,c4,iD c5,iD c6,iD c7,iD c8],iA r] σ Qp:=
 a_a mixed (by kernel_rfl) Tryz.func132 a_f3 (Eq.mp (by kernel_rfl) h)
def m_m:Ann:= { loops:= [(5,{ mods:= [(5,s6),(6,s6)],keep:= [0,1] })] }
def n_e (s del:D)(σ:Store)(Qp:RV→Store→Prop) :Prop:=
 DCalls Tryz.prog e_x [.one s, .one del] σ (fun r Z=>∃n:Int,(r=(.a (iA n) :RV))∧a_b (n ==(-1)) (Qp (.a (.one s)) Z) (∃I:Int→Int→Store→Prop,∃μ:Int→Int→Store→Nat,(I n (w64 (n+1)) Z)∧∀n1 n2:Int,∀Z1,(I n1 n2 Z1)→∃len:Nat,(Len s len)∧a_b (decide (n2 < (len:Int))) (∃len1:Nat,(Idx Tryz.prog Z1 s 1 len1)∧((0:Int)≤n2)∧(n2 < (len1:Int))∧∃row:List D,(Row Z1 s (Int.toNat n2) row)∧∃n3:Int,((List.take 1 row) =([iD n3]:List D))∧∃f:FuncId,∃a:List (Bool × (List D)),∃b:List (Bool × (List D)),∃as0':List A,∃bs:List A,(del=(.fn f a b:D))∧((f_p a) =(Option.some as0'))∧((f_p b) =(Option.some bs))∧DCalls Tryz.prog f (HAppend.hAppend (HAppend.hAppend as0' [iA n3]) bs) Z1 (fun r1 Z2=>∃b1:Bool,(r1=(.a (bA b1) :RV))∧a_b (!b1) (∃len2:Nat,(Idx Tryz.prog Z2 s 1 len2)∧((0:Int)≤n1)∧(n1 < (len2:Int))∧a_j [iD n3] Z2 s (Int.toNat n1) 0 (fun Z3=>(I (w64 (n1+1)) (w64 (n2+1)) Z3)∧((μ (w64 (n1+1)) (w64 (n2+1)) Z3) < (μ n1 n2 Z1)))) ((I n1 (w64 (n2+1)) Z2)∧((μ n1 (w64 (n2+1)) Z2) < (μ n1 n2 Z1))))) (∃len1:Nat,(IdxN Tryz.prog Z1 s 1 len1)∧((0:Int)≤n1)∧(n1≤(len1:Int))∧∃rd:List (List D),(Fw.Rows Tryz.prog Z1 a_h (g_f s (Int.toNat n1) len1) rd)∧(((rd=([]:List (List D)))∧∃len2:Nat,(IdxN Tryz.prog Z1 s 1 len2)∧((0:Int)≤0)∧((0:Int)≤n1)∧(n1≤(len2:Int))∧Qp (.a (.one (g_f s 0 (Int.toNat n1)))) Z1)∨(∃id i0 len2:Nat,∃t:TypeId,∃rows:List (List D),((g_f s (Int.toNat n1) len1) =(.osl id i0 len2:D))∧((Z1 id) =(.live t rows:SO))∧∃len3:Nat,(IdxN Tryz.prog (Store.set Z1 id (.live t (HAppend.hAppend (HAppend.hAppend (List.take i0 rows) (List.replicate len2 [iD 0])) (List.drop (i0+len2) rows)))) s 1 len3)∧((0:Int)≤0)∧((0:Int)≤n1)∧(n1≤(len3:Int))∧Qp (.a (.one (g_f s 0 (Int.toNat n1)))) (Store.set Z1 id (.live t (HAppend.hAppend (HAppend.hAppend (List.take i0 rows) (List.replicate len2 [iD 0])) (List.drop (i0+len2) rows)))))))))
theorem n_k (s del:D)(σ:Store)(Qp:RV→Store→Prop)(h:n_e s del σ Qp) :DCalls Tryz.prog e_k [.one s, .one del] σ Qp:=
 a_a mixed (by kernel_rfl) Tryz.func141 m_m (Eq.mp (by kernel_rfl) h)
def q_1:Ann:= { draws:= [(1,{ ord:= [0,1,2,3,4,5,6,7,8,9,10,11,12,13,14,15,16,17,18],nb:= [],av:= [],dir:= [],sp:= [15] })] }
def t_z (e_:D)(section_:Int)(cycles:D)(σ:Store)(Qp:RV→Store→Prop) :Prop:=
 ∃pre:List A→Store→Prop,∃post:List A→Store→RV→Store→Prop,(h_o Tryz.prog f_x pre post)∧Fw.newObj σ (.live a_h [[iD section_]]) (fun id Z=>DCalls Tryz.prog b_8 [.one e_, .one (.osl id 0 1)] Z (fun r Z1=>∃b:Bool,(r=(.a (bA b) :RV))∧a_b b ((a_f e_)∧∃s:D,∃i off:Nat,(e_=(.el s i off:D))∧∃row:List D,(Row Z1 s i row)∧∃d:D,((List.take 1 (List.drop ((off+0) +0) row)) =([d]:List D))∧∃len:Nat,(Idx Tryz.prog Z1 d 3 len)∧((0:Int)≤section_)∧(section_ < (len:Int))∧∃row1:List D,(Row Z1 d (Int.toNat section_) row1)∧∃n:Int,((List.take 1 (List.drop 1 row1)) =([iD n]:List D))∧(pre [.one cycles] Z1)∧∀r1:RV,∀s1:Store,(post [.one cycles] Z1 r1 s1)→∃n1:Int,(r1=(.a (iA n1) :RV))∧Qp (.a (.one (.bool (decide (n > n1))))) s1) (Qp (.a (bA false)) Z1)))
theorem t_x (e_:D)(section_:Int)(cycles:D)(σ:Store)(Qp:RV→Store→Prop)(h:t_z e_ section_ cycles σ Qp) :DCalls Tryz.prog f_6 [.one e_,iA section_, .one cycles] σ Qp:=
 a_a mixed (by kernel_rfl) Tryz.func145 q_1 (Eq.mp (by kernel_rfl) h)
def t_3:Ann:= { }
def w_a (r:D)(skip n:Int)(σ:Store)(Qp:RV→Store→Prop) :Prop:=
 (a_f r)∧∃s:D,∃i off:Nat,(r=(.el s i off:D))∧∃row:List D,(Row σ s i row)∧∃s1:ByteArray,((List.take 1 (List.drop (off+1) row)) =([.str s1]:List D))∧a_b (decide (n > (w64 ((ByteArray.size s1:Int) - skip)))) ((a_f r)∧∃s2:D,∃i1 off1:Nat,(r=(.el s2 i1 off1:D))∧DCalls Tryz.prog b_t [.one (.el s2 i1 (off1+0)),iA 1] σ (fun r1 Z=>(r1=(.tup []:RV))∧(a_f r)∧∃s3:D,∃i2 off2:Nat,(r=(.el s3 i2 off2:D))∧DCalls Tryz.prog a_6 [.one (.el s3 i2 (off2+0))] Z (fun r2 Z1=>∃b:Bool,(r2=(.a (bA b) :RV))∧a_b (!b) (Qp (.a (.one (.str (ByteArray.mk (List.toArray []))))) Z1) ((a_f r)∧∃s4:D,∃i3 off3:Nat,(r=(.el s4 i3 off3:D))∧∃row1:List D,(Row Z1 s4 i3 row1)∧∃s5:ByteArray,((List.take 1 (List.drop (off3+1) row1)) =([.str s5]:List D))∧((0:Int)≤skip)∧(skip≤(w64 (skip+n)))∧((w64 (skip+n))≤(ByteArray.size s5:Int))∧(a_f r)∧∃s6:D,∃i4 off4:Nat,(r=(.el s6 i4 off4:D))∧∃row2:List D,(Row Z1 s6 i4 row2)∧∃s7:ByteArray,((List.take 1 (List.drop (off4+1) row2)) =([.str s7]:List D))∧((0:Int)≤(w64 (skip+n)))∧((w64 (skip+n))≤(ByteArray.size s7:Int))∧(a_f r)∧∃s8:D,∃i5 off5:Nat,(r=(.el s8 i5 off5:D))∧a_j [.str (ByteArray.extract s7 (Int.toNat (w64 (skip+n))) (ByteArray.size s7))] Z1 s8 i5 (off5+1) (fun Z2=>Qp (.a (.one (.str (ByteArray.extract s5 (Int.toNat skip) (Int.toNat (w64 (skip+n))))))) Z2))))) ((a_f r)∧∃s2:D,∃i1 off1:Nat,(r=(.el s2 i1 off1:D))∧DCalls Tryz.prog a_6 [.one (.el s2 i1 (off1+0))] σ (fun r1 Z=>∃b:Bool,(r1=(.a (bA b) :RV))∧a_b (!b) (Qp (.a (.one (.str (ByteArray.mk (List.toArray []))))) Z) ((a_f r)∧∃s3:D,∃i2 off2:Nat,(r=(.el s3 i2 off2:D))∧∃row1:List D,(Row Z s3 i2 row1)∧∃s4:ByteArray,((List.take 1 (List.drop (off2+1) row1)) =([.str s4]:List D))∧((0:Int)≤skip)∧(skip≤(w64 (skip+n)))∧((w64 (skip+n))≤(ByteArray.size s4:Int))∧(a_f r)∧∃s5:D,∃i3 off3:Nat,(r=(.el s5 i3 off3:D))∧∃row2:List D,(Row Z s5 i3 row2)∧∃s6:ByteArray,((List.take 1 (List.drop (off3+1) row2)) =([.str s6]:List D))∧((0:Int)≤(w64 (skip+n)))∧((w64 (skip+n))≤(ByteArray.size s6:Int))∧(a_f r)∧∃s7:D,∃i4 off4:Nat,(r=(.el s7 i4 off4:D))∧a_j [.str (ByteArray.extract s6 (Int.toNat (w64 (skip+n))) (ByteArray.size s6))] Z s7 i4 (off4+1) (fun Z1=>Qp (.a (.one (.str (ByteArray.extract s4 (Int.toNat skip) (Int.toNat (w64 (skip+n))))))) Z1))))
theorem v_8 (r:D)(skip n:Int)(σ:Store)(Qp:RV→Store→Prop)(h:w_a r skip n σ Qp) :DCalls Tryz.prog g_6 [.one r,iA skip,iA n] σ Qp:=
 a_a mixed (by kernel_rfl) Tryz.func149 t_3 (Eq.mp (by kernel_rfl) h)
def r_y:Ann:= { cbs:= [2] }
def t_7 (p0 p1 p2 p3 p4:D)(p5 p6 p7 p8 s:Int)(σ:Store)(Qp:RV→Store→Prop) :Prop:=
 a_b (decide (s < 0)) (Qp (.tup [.agg [iD 0,iD 0,iD 0],bA false]) σ) (∃len:Nat,(Len p0 len)∧a_b (decide (s≥(len:Int))) (Qp (.tup [.agg [iD 0,iD 0,iD 0],bA false]) σ) (∃len1:Nat,(Idx Tryz.prog σ p0 3 len1)∧((0:Int)≤s)∧(s < (len1:Int))∧∃row:List D,(Row σ p0 (Int.toNat s) row)∧∃n n1 n2:Int,((List.take 3 row) =([iD n,iD n1,iD n2]:List D))∧Qp (.tup [.agg [iD n,iD n1,iD n2],bA true]) σ))
theorem t_l (p0 p1 p2 p3 p4:D)(p5 p6 p7 p8 s:Int)(σ:Store)(Qp:RV→Store→Prop)(h:t_7 p0 p1 p2 p3 p4 p5 p6 p7 p8 s σ Qp) :DCalls Tryz.prog b_v [.agg [p0,p1,p2,p3,p4,iD p5,iD p6,iD p7,iD p8],iA s] σ Qp:=
 a_a mixed (by kernel_rfl) Tryz.func153 r_y (Eq.mp (by kernel_rfl) h)
def p_r:Ann:= { cbs:= [2,3] }
def q_4 (p0 p1 p2 p3 p4:D)(p5 p6 p7 p8 r0 r1:Int)(r2 r3 r4:D)(r5:Bool)(σ:Store)(Qp:RV→Store→Prop) :Prop:=
 DCalls Tryz.prog c_p [.agg [p0,p1,p2,p3,p4,iD p5,iD p6,iD p7,iD p8],iA r0] σ (fun r Z=>∃n n1:Int,∃b:Bool,(r=(.tup [.agg [iD n,iD n1],bA b]:RV))∧a_b (!b) (Qp (.a (iA (-1))) Z) (Qp (.a (iA n)) Z))
theorem r_4 (p0 p1 p2 p3 p4:D)(p5 p6 p7 p8 r0 r1:Int)(r2 r3 r4:D)(r5:Bool)(σ:Store)(Qp:RV→Store→Prop)(h:q_4 p0 p1 p2 p3 p4 p5 p6 p7 p8 r0 r1 r2 r3 r4 r5 σ Qp) :DCalls Tryz.prog c_x [.agg [p0,p1,p2,p3,p4,iD p5,iD p6,iD p7,iD p8], .agg [iD r0,iD r1,r2,r3,r4, .bool r5]] σ Qp:=
 a_a mixed (by kernel_rfl) Tryz.func157 p_r (Eq.mp (by kernel_rfl) h)
def y_6:Ann:= { loops:= [(5,{ mods:= [(3,s6),(4,s6)],keep:= [0] })],joins:= [(3,{ mods:= [],keep:= [0] })] }
def a_ap (x:D)(σ:Store)(Qp:RV→Store→Prop) :Prop:=
 ∀R:Store→Prop,(∀Z,(∃len:Nat,(Idx Tryz.prog Z x 1 len)∧((0:Int)≤0)∧((0:Int) < (len:Int))∧∃row:List D,(Row Z x 0 row)∧∃n:Int,((List.take 1 row) =([iD n]:List D))∧∃I:Int→Int→Store→Prop,∃μ:Int→Int→Store→Nat,(I n 1 Z)∧∀n1 n2:Int,∀Z1,(I n1 n2 Z1)→∃len1:Nat,(Len x len1)∧a_b (decide (n2 < (len1:Int))) (∃len2:Nat,(Idx Tryz.prog Z1 x 1 len2)∧((0:Int)≤n2)∧(n2 < (len2:Int))∧∃row1:List D,(Row Z1 x (Int.toNat n2) row1)∧∃n3:Int,((List.take 1 row1) =([iD n3]:List D))∧(I (ite (n3 > n1) n3 n1) (w64 (n2+1)) Z1)∧((μ (ite (n3 > n1) n3 n1) (w64 (n2+1)) Z1) < (μ n1 n2 Z1))) (Qp (.a (iA n1)) Z1))→R Z)→∃len:Nat,(Len x len)∧a_b (decide ((len:Int) < 1)) False (R σ)
theorem a_ag (x:D)(σ:Store)(Qp:RV→Store→Prop)(h:a_ap x σ Qp) :DCalls Tryz.prog f_x [.one x] σ Qp:=
 a_a mixed (by kernel_rfl) Tryz.func167 y_6 (Eq.mp (by kernel_rfl) h)
def j_7:Ann:= { }
def k_v (s f:D)(σ:Store)(Qp:RV→Store→Prop) :Prop:=
 DCalls Tryz.prog e_g [.one s, .one f] σ (fun r Z=>∃n:Int,(r=(.a (iA n) :RV))∧Qp (.a (.one (.bool (decide (n≥0))))) Z)
theorem k_r (s f:D)(σ:Store)(Qp:RV→Store→Prop)(h:k_v s f σ Qp) :DCalls Tryz.prog c_e [.one s, .one f] σ Qp:=
 a_a mixed (by kernel_rfl) Tryz.func171 j_7 (Eq.mp (by kernel_rfl) h)
def l_9:Ann:= { loops:= [(2,{ mods:= [(8,s6)],keep:= [0,1,7] })] }
def m_8 (s f:D)(σ:Store)(Qp:RV→Store→Prop) :Prop:=
 ∃len:Nat,(Len s len)∧∃I:Int→Store→Prop,∃μ:Int→Store→Nat,(I 0 σ)∧∀n:Int,∀Z,(I n Z)→a_b (decide (n < (len:Int))) (∃len1:Nat,(Idx Tryz.prog Z s 2 len1)∧((0:Int)≤n)∧(n < (len1:Int))∧∃row:List D,(Row Z s (Int.toNat n) row)∧∃n1 n2:Int,((List.take 2 row) =([iD n1,iD n2]:List D))∧∃f1:FuncId,∃a:List (Bool × (List D)),∃b:List (Bool × (List D)),∃as0':List A,∃bs:List A,(f=(.fn f1 a b:D))∧((f_p a) =(Option.some as0'))∧((f_p b) =(Option.some bs))∧DCalls Tryz.prog f1 (HAppend.hAppend (HAppend.hAppend as0' [.agg [iD n1,iD n2]]) bs) Z (fun r Z1=>∃b1:Bool,(r=(.a (bA b1) :RV))∧a_b b1 (Qp (.a (iA n)) Z1) ((I (w64 (n+1)) Z1)∧((μ (w64 (n+1)) Z1) < (μ n Z))))) (Qp (.a (iA (-1))) Z)
theorem m_6 (s f:D)(σ:Store)(Qp:RV→Store→Prop)(h:m_8 s f σ Qp) :DCalls Tryz.prog e_g [.one s, .one f] σ Qp:=
 a_a mixed (by kernel_rfl) Tryz.func186 l_9 (Eq.mp (by kernel_rfl) h)
end Go.Proofs.YtdmfnhbmhkgemaaGreat
end
section
set_option maxRecDepth 100000
namespace Go.Proofs.YtdmfnhbmhkgemaaGreat
open Go.Fw Go.Proofs
def s_1:Ann:= { cbs:= [2],draws:= [(15,{ ord:= [0,1,2,3,4,5,6,7,8,9,10,11,12,13,14,15,16,17,18,19,20,21,22,23,24,25,26,27,28,29,30,31,32,33,34,35],nb:= [],av:= [],dir:= [] })],loops:= [(7,{ mods:= [(5,SlotSh.bx [Sh.any,Sh.any,Sh.any,Sh.any,Sh.any,Sh.any,Sh.bool]),(21,s6)],keep:= [2,19,20] }),(13,{ mods:= [(39,s6)],keep:= [2,5,7,8,19,20,21,37,38] })] }
def u_4 (c0 c1 c2 c3 c4:D)(c5 c6 c7 c8:Int)(script:D)(σ:Store)(Qp:RV→Store→Prop) :Prop:=
 DCalls Tryz.prog m_y [] σ (fun r Z=>∃b:Bool,(r=(.a (bA b) :RV))∧a_b (!b) (Qp (.a (bA false)) Z) (DCalls Tryz.prog i_u [.agg [c0,c1,c2,c3,c4,iD c5,iD c6,iD c7,iD c8]] Z (fun r1 Z1=>∃n:Int,(r1=(.a (iA n) :RV))∧a_b (n != 0) (Qp (.a (bA true)) Z1) (DCalls Tryz.prog h_d [.agg [c0,c1,c2,c3,c4,iD c5,iD c6,iD c7,iD c8],iA 0] Z1 (fun r2 Z2=>∃d d1 d2 d3 d4 d5:D,∃b1:Bool,(r2=(.a (.agg [d,d1,d2,d3,d4,d5, .bool b1]) :RV))∧∃len:Nat,(Len script len)∧∃I:D→D→D→D→D→D→Bool→Int→Store→Prop,∃μ:D→D→D→D→D→D→Bool→Int→Store→Nat,(I d d1 d2 d3 d4 d5 b1 0 Z2)∧∀d6 d7 d8 d9 d10 d11:D,∀b2:Bool,∀n1:Int,∀Z3,(I d6 d7 d8 d9 d10 d11 b2 n1 Z3)→a_b (decide (n1 < (len:Int))) (∃len1:Nat,(Idx Tryz.prog Z3 script 12 len1)∧((0:Int)≤n1)∧(n1 < (len1:Int))∧∃row:List D,(Row Z3 script (Int.toNat n1) row)∧∃n2 n3 n4 n5 n6 n7 n8:Int,∃d12 d13 d14 d15:D,∃b3:Bool,((List.take 12 row) =([iD n2,iD n3,iD n4,iD n5,iD n6,iD n7,iD n8,d12,d13,d14,d15, .bool b3]:List D))∧DCalls Tryz.prog v_c [.agg [c0,c1,c2,c3,c4,iD c5,iD c6,iD c7,iD c8], .agg [d6,d7,d8,d9,d10,d11, .bool b2], .agg [iD n2,iD n3,iD n4,iD n5,iD n6,iD n7,iD n8,d12,d13,d14,d15, .bool b3]] Z3 (fun r3 Z4=>∃d16 d17 d18 d19 d20 d21:D,∃b4 b5:Bool,(r3=(.tup [.agg [d16,d17,d18,d19,d20,d21, .bool b4],bA b5]:RV))∧a_b (!b5) (Qp (.a (bA false)) Z4) (DCalls Tryz.prog m_2 [.agg [c0,c1,c2,c3,c4,iD c5,iD c6,iD c7,iD c8], .agg [d6,d7,d8,d9,d10,d11, .bool b2], .agg [d16,d17,d18,d19,d20,d21, .bool b4]] Z4 (fun r4 Z5=>∃d22:D,(r4=(.a (.one d22) :RV))∧∃len2:Nat,(Len d22 len2)∧∃I1:Int→Store→Prop,∃μ1:Int→Store→Nat,(I1 0 Z5)∧∀n9:Int,∀Z6,(I1 n9 Z6)→a_b (decide (n9 < (len2:Int))) (∃len3:Nat,(Idx Tryz.prog Z6 d22 1 len3)∧((0:Int)≤n9)∧(n9 < (len3:Int))∧∃row1:List D,(Row Z6 d22 (Int.toNat n9) row1)∧∃n10:Int,((List.take 1 row1) =([iD n10]:List D))∧a_b (n2 != 1) (Qp (.a (bA false)) Z6) (a_b (decide (n4 < 0)) (Qp (.a (bA false)) Z6) (∃len4:Nat,(Len c4 len4)∧a_b (decide (n4≥(len4:Int))) (Qp (.a (bA false)) Z6) (DCalls Tryz.prog i_e [.agg [c0,c1,c2,c3,c4,iD c5,iD c6,iD c7,iD c8], .agg [d6,d7,d8,d9,d10,d11, .bool b2],iA n4,iA n10] Z6 (fun r5 Z7=>∃b6:Bool,(r5=(.a (bA b6) :RV))∧a_b (!b6) (Qp (.a (bA false)) Z7) (∃len5:Nat,(Idx Tryz.prog Z7 d16 1 len5)∧((0:Int)≤n10)∧(n10 < (len5:Int))∧∃row2:List D,(Row Z7 d16 (Int.toNat n10) row2)∧∃n11:Int,((List.take 1 row2) =([iD n11]:List D))∧a_b (n11 !=(w64 (n4+1))) (Qp (.a (bA false)) Z7) ((([[d6,d7,d8,d9,d10,d11, .bool b2],[iD n2,iD n3,iD n4,iD n5,iD n6,iD n7,iD n8,d12,d13,d14,d15, .bool b3],[d16,d17,d18,d19,d20,d21, .bool b4]]:List (List D)) =([[d6,d7,d8,d9,d10,d11, .bool b2],[iD n2,iD n3,iD n4,iD n5,iD n6,iD n7,iD n8,d12,d13,d14,d15, .bool b3],[d16,d17,d18,d19,d20,d21, .bool b4]]:List (List D)))∧(I1 (w64 (n9+1)) Z7)∧((μ1 (w64 (n9+1)) Z7) < (μ1 n9 Z6))))))))) ((I d16 d17 d18 d19 d20 d21 b4 (w64 (n1+1)) Z6)∧((μ d16 d17 d18 d19 d20 d21 b4 (w64 (n1+1)) Z6) < (μ d6 d7 d8 d9 d10 d11 b2 n1 Z3))))))) (Qp (.a (bA true)) Z3))))))
theorem u_8 (c0 c1 c2 c3 c4:D)(c5 c6 c7 c8:Int)(script:D)(σ:Store)(Qp:RV→Store→Prop)(h:u_4 c0 c1 c2 c3 c4 c5 c6 c7 c8 script σ Qp) :DCalls Tryz.prog k_n [.agg [c0,c1,c2,c3,c4,iD c5,iD c6,iD c7,iD c8], .one script] σ Qp:=
 a_a mixed (by kernel_rfl) Tryz.func4 s_1 (Eq.mp (by kernel_rfl) h)
def a_ng:Ann:= { cbs:= [3,5],draws:= [(21,{ ord:= [0,1,2,3,4,5],nb:= [0],av:= [],dir:= [] }),(29,{ ord:= [0,1,2,3,4,5,6],nb:= [0],av:= [],dir:= [] }),(31,{ ord:= [0,1,2,3,4,5,6,7,8,9],nb:= [0],av:= [],dir:= [] })],joins:= [(31,{ mods:= [(4,SlotSh.bx [Sh.any,Sh.any,Sh.any,Sh.any,Sh.any,Sh.any,Sh.bool]),(6,SlotSh.bx [Sh.any,Sh.any,Sh.any,Sh.any,Sh.any,Sh.any,Sh.bool]),(8,SlotSh.bx [Sh.any,Sh.any,Sh.any,Sh.any,Sh.any,Sh.any,Sh.bool]),(9,s6)],keep:= [] }),(19,{ mods:= [(4,SlotSh.bx [Sh.any,Sh.any,Sh.any,Sh.any,Sh.any,Sh.any,Sh.bool])],keep:= [3,5,6,8] })] }
def a_qz (c0 c1 c2 c3 c4:D)(c5 c6 c7 c8:Int)(k0 k1 k2 k3 k4 k5:D)(k6:Bool)(o0 o1 o2 o3 o4 o5 o6:Int)(o7 o8 o9 o10:D)(o11:Bool)(σ:Store)(Qp:RV→Store→Prop) :Prop:=
 ∀R:D→D→D→D→D→D→Bool→D→D→D→D→D→D→Bool→D→D→D→D→D→D→Bool→Int→Store→Prop,(∀d d1 d2 d3 d4 d5:D,∀b:Bool,∀d6 d7 d8 d9 d10 d11:D,∀b1:Bool,∀d12 d13 d14 d15 d16 d17:D,∀b2:Bool,∀n:Int,∀Z,(a_b (n == 0) (Qp (.tup [.agg [d12,d13,d14,d15,d16,d17, .bool b2],bA true]) Z) (DCalls Tryz.prog j_6 [.agg [d12,d13,d14,d15,d16,d17, .bool b2], .agg [d,d1,d2,d3,d4,d5, .bool b]] Z (fun r Z1=>∃b3:Bool,(r=(.a (bA b3) :RV))∧Qp (.tup [.agg [d12,d13,d14,d15,d16,d17, .bool b2],bA b3]) Z1)))→R d d1 d2 d3 d4 d5 b d6 d7 d8 d9 d10 d11 b1 d12 d13 d14 d15 d16 d17 b2 n Z)→a_b (o0 == 1) (DCalls Tryz.prog j_h [.agg [c0,c1,c2,c3,c4,iD c5,iD c6,iD c7,iD c8], .agg [k0,k1,k2,k3,k4,k5, .bool k6],iA o1,iA o2] σ (fun r Z=>∃d d1 d2 d3 d4 d5:D,∃b:Bool,∃n:Int,(r=(.tup [.agg [d,d1,d2,d3,d4,d5, .bool b],iA n]:RV))∧R k0 k1 k2 k3 k4 k5 k6 .nils .nils .nils .nils .nils .nils false d d1 d2 d3 d4 d5 b n Z)) (a_b (o0 == 2) (DCalls Tryz.prog l_i [.agg [c0,c1,c2,c3,c4,iD c5,iD c6,iD c7,iD c8], .agg [k0,k1,k2,k3,k4,k5, .bool k6],iA o1,iA o2] σ (fun r Z=>∃d d1 d2 d3 d4 d5:D,∃b:Bool,∃n:Int,(r=(.tup [.agg [d,d1,d2,d3,d4,d5, .bool b],iA n]:RV))∧R k0 k1 k2 k3 k4 k5 k6 .nils .nils .nils .nils .nils .nils false d d1 d2 d3 d4 d5 b n Z)) (a_b (o0 == 3) (DCalls Tryz.prog j_j [.agg [c0,c1,c2,c3,c4,iD c5,iD c6,iD c7,iD c8], .agg [k0,k1,k2,k3,k4,k5, .bool k6],iA o2] σ (fun r Z=>∃d d1 d2 d3 d4 d5:D,∃b:Bool,∃n:Int,(r=(.tup [.agg [d,d1,d2,d3,d4,d5, .bool b],iA n]:RV))∧R k0 k1 k2 k3 k4 k5 k6 .nils .nils .nils .nils .nils .nils false d d1 d2 d3 d4 d5 b n Z)) (a_b (o0 == 4) (DCalls Tryz.prog j_m [.agg [c0,c1,c2,c3,c4,iD c5,iD c6,iD c7,iD c8], .agg [k0,k1,k2,k3,k4,k5, .bool k6],iA o1,iA o2] σ (fun r Z=>∃d d1 d2 d3 d4 d5:D,∃b:Bool,∃n:Int,(r=(.tup [.agg [d,d1,d2,d3,d4,d5, .bool b],iA n]:RV))∧R k0 k1 k2 k3 k4 k5 k6 .nils .nils .nils .nils .nils .nils false d d1 d2 d3 d4 d5 b n Z)) (a_b (o0 == 5) (DCalls Tryz.prog m_0 [.agg [c0,c1,c2,c3,c4,iD c5,iD c6,iD c7,iD c8], .agg [k0,k1,k2,k3,k4,k5, .bool k6],iA o1,iA o2] σ (fun r Z=>∃d d1 d2 d3 d4 d5:D,∃b:Bool,∃n:Int,(r=(.tup [.agg [d,d1,d2,d3,d4,d5, .bool b],iA n]:RV))∧R k0 k1 k2 k3 k4 k5 k6 .nils .nils .nils .nils .nils .nils false d d1 d2 d3 d4 d5 b n Z)) (a_b (o0 == 6) (DCalls Tryz.prog m_r [.agg [c0,c1,c2,c3,c4,iD c5,iD c6,iD c7,iD c8], .agg [k0,k1,k2,k3,k4,k5, .bool k6],iA o1,iA o2,iA o3] σ (fun r Z=>∃d d1 d2 d3 d4 d5:D,∃b:Bool,∃n:Int,(r=(.tup [.agg [d,d1,d2,d3,d4,d5, .bool b],iA n]:RV))∧R k0 k1 k2 k3 k4 k5 k6 .nils .nils .nils .nils .nils .nils false d d1 d2 d3 d4 d5 b n Z)) (a_b (o0 == 7) (DCalls Tryz.prog o_8 [.agg [c0,c1,c2,c3,c4,iD c5,iD c6,iD c7,iD c8], .agg [k0,k1,k2,k3,k4,k5, .bool k6],iA o2, .agg [iD o4,iD o5,iD o6]] σ (fun r Z=>∃d d1 d2 d3 d4 d5:D,∃b:Bool,∃n:Int,(r=(.tup [.agg [d,d1,d2,d3,d4,d5, .bool b],iA n]:RV))∧R k0 k1 k2 k3 k4 k5 k6 .nils .nils .nils .nils .nils .nils false d d1 d2 d3 d4 d5 b n Z)) (a_b (o0 == 8) (∀R1:D→D→D→D→D→D→Bool→Store→Prop,(∀d d1 d2 d3 d4 d5:D,∀b:Bool,∀Z,(DCalls Tryz.prog o_7 [.agg [c0,c1,c2,c3,c4,iD c5,iD c6,iD c7,iD c8], .agg [d,d1,d2,d3,d4,d5, .bool b], .agg [o7,o8,o9,o10],iA o1] Z (fun r Z1=>∃d6 d7 d8 d9 d10 d11:D,∃b1:Bool,∃n:Int,(r=(.tup [.agg [d6,d7,d8,d9,d10,d11, .bool b1],iA n]:RV))∧a_b (n != 0) (DCalls Tryz.prog j_6 [.agg [d6,d7,d8,d9,d10,d11, .bool b1], .agg [d,d1,d2,d3,d4,d5, .bool b]] Z1 (fun r1 Z2=>∃b2:Bool,(r1=(.a (bA b2) :RV))∧Qp (.tup [.agg [d,d1,d2,d3,d4,d5, .bool b],bA b2]) Z2)) (DCalls Tryz.prog g_r [.agg [c0,c1,c2,c3,c4,iD c5,iD c6,iD c7,iD c8], .agg [d6,d7,d8,d9,d10,d11, .bool b1], .agg [o7,o8,o9,o10],iA o1] Z1 (fun r1 Z2=>∃d12 d13 d14 d15 d16 d17:D,∃b2:Bool,∃d18:D,∃n1:Int,(r1=(.tup [.agg [d12,d13,d14,d15,d16,d17, .bool b2], .one d18,iA n1]:RV))∧R d d1 d2 d3 d4 d5 b .nils .nils .nils .nils .nils .nils false d12 d13 d14 d15 d16 d17 b2 n1 Z2))))→R1 d d1 d2 d3 d4 d5 b Z)→a_b k6 ((([[.nils, .nils, .nils, .nils, .nils, .nils, .bool false],[k0,k1,k2,k3,k4,k5, .bool k6]]:List (List D)) =([[.nils, .nils, .nils, .nils, .nils, .nils, .bool false],[k0,k1,k2,k3,k4,k5, .bool k6]]:List (List D)))∧R1 k0 k1 k2 k3 k4 k5 (!o11) σ) ((([[.nils, .nils, .nils, .nils, .nils, .nils, .bool false],[k0,k1,k2,k3,k4,k5, .bool k6]]:List (List D)) =([[.nils, .nils, .nils, .nils, .nils, .nils, .bool false],[k0,k1,k2,k3,k4,k5, .bool k6]]:List (List D)))∧R1 k0 k1 k2 k3 k4 k5 false σ)) (a_b (o0 == 9) (DCalls Tryz.prog o_k [.agg [k0,k1,k2,k3,k4,k5, .bool k6]] σ (fun r Z=>∃s:ByteArray,∃n:Int,(r=(.tup [.one (.str s),iA n]:RV))∧a_b (n != 0) (Qp (.tup [.agg [k0,k1,k2,k3,k4,k5, .bool k6],bA false]) Z) (DCalls Tryz.prog o_1 [.agg [c0,c1,c2,c3,c4,iD c5,iD c6,iD c7,iD c8],iA o1, .one (.str s)] Z (fun r1 Z1=>∃d d1 d2 d3 d4 d5:D,∃b:Bool,∃n1:Int,(r1=(.tup [.agg [d,d1,d2,d3,d4,d5, .bool b],iA n1]:RV))∧a_b (n1 != 0) (DCalls Tryz.prog b_r [iA o1] Z1 (fun r2 Z2=>∃b1:Bool,(r2=(.a (bA b1) :RV))∧Qp (.tup [.agg [k0,k1,k2,k3,k4,k5, .bool k6],bA (!b1)]) Z2)) (Qp (.tup [.agg [d,d1,d2,d3,d4,d5, .bool b],bA true]) Z1))))) (R k0 k1 k2 k3 k4 k5 k6 .nils .nils .nils .nils .nils .nils false k0 k1 k2 k3 k4 k5 k6 0 σ)))))))))
theorem a_rp (c0 c1 c2 c3 c4:D)(c5 c6 c7 c8:Int)(k0 k1 k2 k3 k4 k5:D)(k6:Bool)(o0 o1 o2 o3 o4 o5 o6:Int)(o7 o8 o9 o10:D)(o11:Bool)(σ:Store)(Qp:RV→Store→Prop)(h:a_qz c0 c1 c2 c3 c4 c5 c6 c7 c8 k0 k1 k2 k3 k4 k5 k6 o0 o1 o2 o3 o4 o5 o6 o7 o8 o9 o10 o11 σ Qp) :DCalls Tryz.prog v_c [.agg [c0,c1,c2,c3,c4,iD c5,iD c6,iD c7,iD c8], .agg [k0,k1,k2,k3,k4,k5, .bool k6], .agg [iD o0,iD o1,iD o2,iD o3,iD o4,iD o5,iD o6,o7,o8,o9,o10, .bool o11]] σ Qp:=
 a_a mixed (by kernel_rfl) Tryz.func8 a_ng (Eq.mp (by kernel_rfl) h)
def y_n:Ann:= { cbs:= [4,5],draws:= [(2,{ ord:= [0,1,2,3,4,5,6,7,8,9,10,11,12,13,14,15,16,17,18,19,20,21,22,23,24,25,26,27,28,29,30,31,32],nb:= [],av:= [],dir:= [] })] }
def z_8 (c0 c1 c2 c3 c4:D)(c5 c6 c7 c8:Int)(k0 k1 k2 k3 k4 k5:D)(k6:Bool)(r section_:Int)(σ:Store)(Qp:RV→Store→Prop) :Prop:=
 ∃len:Nat,(Idx Tryz.prog σ k0 1 len)∧((0:Int)≤section_)∧(section_ < (len:Int))∧∃row:List D,(Row σ k0 (Int.toNat section_) row)∧∃n:Int,((List.take 1 row) =([iD n]:List D))∧a_b (decide ((w64 (n - 1))≥0)) (a_b ((w64 (n - 1)) != r) (∃len1:Nat,(Idx Tryz.prog σ c4 6 len1)∧((0:Int)≤(w64 (n - 1)))∧((w64 (n - 1)) < (len1:Int))∧∃row1:List D,(Row σ c4 (Int.toNat (w64 (n - 1))) row1)∧∃n1:Int,((List.take 1 (List.drop 1 row1)) =([iD n1]:List D))∧∃len2:Nat,(Idx Tryz.prog σ c4 6 len2)∧((0:Int)≤r)∧(r < (len2:Int))∧∃row2:List D,(Row σ c4 (Int.toNat r) row2)∧∃n2:Int,((List.take 1 row2) =([iD n2]:List D))∧a_b (n1 == n2) (∃len3:Nat,(Idx Tryz.prog σ c4 6 len3)∧((0:Int)≤(w64 (n - 1)))∧((w64 (n - 1)) < (len3:Int))∧∃row3:List D,(Row σ c4 (Int.toNat (w64 (n - 1))) row3)∧∃d:D,((List.take 1 (List.drop 4 row3)) =([d]:List D))∧DCalls Tryz.prog v_v [.one d,iA section_] σ (fun r1 Z=>∃b:Bool,(r1=(.a (bA b) :RV))∧Qp (.a (bA b)) Z)) (Qp (.a (bA false)) σ)) (Qp (.a (bA false)) σ)) (Qp (.a (bA false)) σ)
theorem a_ah (c0 c1 c2 c3 c4:D)(c5 c6 c7 c8:Int)(k0 k1 k2 k3 k4 k5:D)(k6:Bool)(r section_:Int)(σ:Store)(Qp:RV→Store→Prop)(h:z_8 c0 c1 c2 c3 c4 c5 c6 c7 c8 k0 k1 k2 k3 k4 k5 k6 r section_ σ Qp) :DCalls Tryz.prog i_e [.agg [c0,c1,c2,c3,c4,iD c5,iD c6,iD c7,iD c8], .agg [k0,k1,k2,k3,k4,k5, .bool k6],iA r,iA section_] σ Qp:=
 a_a mixed (by kernel_rfl) Tryz.func12 y_n (Eq.mp (by kernel_rfl) h)
def w_b:Ann:= { cbs:= [1],loops:= [(2,{ mods:= [(8,s6)],keep:= [1,6,7] })] }
def x_a (c0 c1 c2 c3 c4:D)(c5 c6 c7 c8:Int)(σ:Store)(Qp:RV→Store→Prop) :Prop:=
 ∃len:Nat,(Len c3 len)∧∃I:Int→Store→Prop,∃μ:Int→Store→Nat,(I 0 σ)∧∀n:Int,∀Z,(I n Z)→a_b (decide (n < (len:Int))) (∃len1:Nat,(Idx Tryz.prog Z c3 1 len1)∧((0:Int)≤n)∧(n < (len1:Int))∧∃row:List D,(Row Z c3 (Int.toNat n) row)∧∃n1:Int,((List.take 1 row) =([iD n1]:List D))∧DCalls Tryz.prog f_y [.agg [c0,c1,c2,c3,c4,iD c5,iD c6,iD c7,iD c8],iA n1] Z (fun r Z1=>∃n2:Int,(r=(.a (iA n2) :RV))∧a_b (decide (n2 < 0)) (Qp (.a (bA false)) Z1) (∃len2:Nat,(Idx Tryz.prog Z1 c0 3 len2)∧((0:Int)≤n1)∧(n1 < (len2:Int))∧∃row1:List D,(Row Z1 c0 (Int.toNat n1) row1)∧∃n3:Int,((List.take 1 (List.drop 2 row1)) =([iD n3]:List D))∧a_b (n3 != 0) (Qp (.a (bA false)) Z1) (∃len3:Nat,(IdxN Tryz.prog Z1 c3 1 len3)∧((0:Int)≤0)∧((0:Int)≤n)∧(n≤(len3:Int))∧DCalls Tryz.prog d_o [.one (g_f c3 0 (Int.toNat n)),iA n1] Z1 (fun r1 Z2=>∃b:Bool,(r1=(.a (bA b) :RV))∧a_b b (Qp (.a (bA false)) Z2) ((I (w64 (n+1)) Z2)∧((μ (w64 (n+1)) Z2) < (μ n Z)))))))) (∃len1:Nat,(Len c3 len1)∧Qp (.a (.one (.bool (decide ((len1:Int)≤4))))) Z)
theorem x_0 (c0 c1 c2 c3 c4:D)(c5 c6 c7 c8:Int)(σ:Store)(Qp:RV→Store→Prop)(h:x_a c0 c1 c2 c3 c4 c5 c6 c7 c8 σ Qp) :DCalls Tryz.prog h_l [.agg [c0,c1,c2,c3,c4,iD c5,iD c6,iD c7,iD c8]] σ Qp:=
 a_a mixed (by kernel_rfl) Tryz.func16 w_b (Eq.mp (by kernel_rfl) h)
def x_j:Ann:= { cbs:= [2],draws:= [(1,{ ord:= [0,1,2,3,4,5,6,7,8,9,10,11,12,13,14,15,16,17,18,19,20,21,22,23,24,25,26,27,28,29],nb:= [],av:= [],dir:= [] }),(3,{ ord:= [0,1,2,3,4,5,6,7,8,9,10,11],nb:= [],av:= [],dir:= [] })] }
def a_a3 (c0 c1 c2 c3 c4:D)(c5 c6 c7 c8 r:Int)(σ:Store)(Qp:RV→Store→Prop) :Prop:=
 a_b (decide (r < 0)) (Qp (.a (iA (-1))) σ) (∃len:Nat,(Len c4 len)∧a_b (decide (r≥(len:Int))) (Qp (.a (iA (-1))) σ) (∃len1:Nat,(Idx Tryz.prog σ c4 6 len1)∧((0:Int)≤r)∧(r < (len1:Int))∧∃row:List D,(Row σ c4 (Int.toNat r) row)∧∃n:Int,((List.take 1 row) =([iD n]:List D))∧a_b (decide (n < 0)) (Qp (.a (iA (-1))) σ) (∃len2:Nat,(Idx Tryz.prog σ c4 6 len2)∧((0:Int)≤r)∧(r < (len2:Int))∧∃row1:List D,(Row σ c4 (Int.toNat r) row1)∧∃n1:Int,((List.take 1 row1) =([iD n1]:List D))∧∃len3:Nat,(Len c2 len3)∧a_b (decide (n1≥(len3:Int))) (Qp (.a (iA (-1))) σ) (∃len4:Nat,(Idx Tryz.prog σ c4 6 len4)∧((0:Int)≤r)∧(r < (len4:Int))∧∃row2:List D,(Row σ c4 (Int.toNat r) row2)∧∃n2:Int,((List.take 1 row2) =([iD n2]:List D))∧∃len5:Nat,(Idx Tryz.prog σ c2 2 len5)∧((0:Int)≤n2)∧(n2 < (len5:Int))∧∃row3:List D,(Row σ c2 (Int.toNat n2) row3)∧∃n3:Int,((List.take 1 row3) =([iD n3]:List D))∧Qp (.a (iA n3)) σ))))
theorem z_s (c0 c1 c2 c3 c4:D)(c5 c6 c7 c8 r:Int)(σ:Store)(Qp:RV→Store→Prop)(h:a_a3 c0 c1 c2 c3 c4 c5 c6 c7 c8 r σ Qp) :DCalls Tryz.prog i_i [.agg [c0,c1,c2,c3,c4,iD c5,iD c6,iD c7,iD c8],iA r] σ Qp:=
 a_a mixed (by kernel_rfl) Tryz.func20 x_j (Eq.mp (by kernel_rfl) h)
def a_cu:Ann:= { cbs:= [2],loops:= [(3,{ mods:= [(16,s6)],keep:= [1,2,6,14,15] })] }
def a_gq (c0 c1 c2 c3 c4:D)(c5 c6 c7 c8 now:Int)(σ:Store)(Qp:RV→Store→Prop) :Prop:=
 ∃len:Nat,(Len c0 len)∧((0:Int)≤(len:Int))∧((len:Int)≤(len:Int))∧(((16:Int) * (len:Int))≤(2 ^ 48))∧Fw.newObj σ (.live a_7 (List.replicate (Int.toNat (len:Int)) [iD 0,iD 0])) (fun id Z=>∃len1:Nat,(Len c0 len1)∧∃I:Int→Store→Prop,∃μ:Int→Store→Nat,(I 0 Z)∧∀n:Int,∀Z1,(I n Z1)→a_b (decide (n < (len1:Int))) (∃len2:Nat,(Idx Tryz.prog Z1 c0 3 len2)∧((0:Int)≤n)∧(n < (len2:Int))∧∃row:List D,(Row Z1 c0 (Int.toNat n) row)∧∃n1 n2 n3:Int,((List.take 3 row) =([iD n1,iD n2,iD n3]:List D))∧a_b (n1 == 1) (DCalls Tryz.prog m_p [iA now] Z1 (fun r Z2=>∃n4 n5:Int,(r=(.a (.agg [iD n4,iD n5]) :RV))∧∃len3:Nat,(Idx Tryz.prog Z2 (.osl id 0 (Int.toNat (len:Int))) 2 len3)∧((0:Int)≤n)∧(n < (len3:Int))∧a_j [iD n4,iD n5] Z2 (.osl id 0 (Int.toNat (len:Int))) (Int.toNat n) 0 (fun Z3=>(I (w64 (n+1)) Z3)∧((μ (w64 (n+1)) Z3) < (μ n Z1))))) ((I (w64 (n+1)) Z1)∧((μ (w64 (n+1)) Z1) < (μ n Z1)))) (Fw.newObj Z1 (.live a_7 [[iD 1,iD now]]) (fun id1 Z2=>∃len2:Nat,(Len c3 len2)∧DCalls Tryz.prog f_a [.one (.osl id1 0 1),iA (len2:Int)] Z2 (fun r Z3=>∃d:D,(r=(.a (.one d) :RV))∧Qp (.tup [.one (.osl id 0 (Int.toNat (len:Int))), .one d]) Z3))))
theorem a_ff (c0 c1 c2 c3 c4:D)(c5 c6 c7 c8 now:Int)(σ:Store)(Qp:RV→Store→Prop)(h:a_gq c0 c1 c2 c3 c4 c5 c6 c7 c8 now σ Qp) :DCalls Tryz.prog k_y [.agg [c0,c1,c2,c3,c4,iD c5,iD c6,iD c7,iD c8],iA now] σ Qp:=
 a_a mixed (by kernel_rfl) Tryz.func24 a_cu (Eq.mp (by kernel_rfl) h)
def a_aj:Ann:= { cbs:= [4,5] }
def a_cf (c0 c1 c2 c3 c4:D)(c5 c6 c7 c8:Int)(k0 k1 k2 k3 k4 k5:D)(k6:Bool)(now r:Int)(σ:Store)(Qp:RV→Store→Prop) :Prop:=
 Fw.newObj σ (.live a_h [[iD 5]]) (fun id Z=>DCalls Tryz.prog h_j [.agg [c0,c1,c2,c3,c4,iD c5,iD c6,iD c7,iD c8], .agg [k0,k1,k2,k3,k4,k5, .bool k6],iA r,iA 4,iA now, .one (.osl id 0 1)] Z (fun r1 Z1=>∃d d1 d2 d3 d4 d5:D,∃b:Bool,∃n:Int,(r1=(.tup [.agg [d,d1,d2,d3,d4,d5, .bool b],iA n]:RV))∧Qp (.tup [.agg [d,d1,d2,d3,d4,d5, .bool b],iA n]) Z1))
theorem a_cc (c0 c1 c2 c3 c4:D)(c5 c6 c7 c8:Int)(k0 k1 k2 k3 k4 k5:D)(k6:Bool)(now r:Int)(σ:Store)(Qp:RV→Store→Prop)(h:a_cf c0 c1 c2 c3 c4 c5 c6 c7 c8 k0 k1 k2 k3 k4 k5 k6 now r σ Qp) :DCalls Tryz.prog j_m [.agg [c0,c1,c2,c3,c4,iD c5,iD c6,iD c7,iD c8], .agg [k0,k1,k2,k3,k4,k5, .bool k6],iA now,iA r] σ Qp:=
 a_a mixed (by kernel_rfl) Tryz.func28 a_aj (Eq.mp (by kernel_rfl) h)
def a_hg:Ann:= { cbs:= [4,5,6],loops:= [(7,{ mods:= [(11,s6)],keep:= [4,8,10] })],joins:= [(5,{ mods:= [(8,SlotSh.bx [Sh.any,Sh.any,Sh.any,Sh.any,Sh.any,Sh.any,Sh.bool])],keep:= [3,4,5,6] }),(2,{ mods:= [(13,SlotSh.one (Sh.bool))],keep:= [3,4,5,6,8] })] }
def a_l3 (c0 c1 c2 c3 c4:D)(c5 c6 c7 c8:Int)(k0 k1 k2 k3 k4 k5:D)(k6:Bool)(v0 v1 v2 v3:D)(now:Int)(σ:Store)(Qp:RV→Store→Prop) :Prop:=
 ∀R:D→D→D→D→D→D→Bool→Store→Prop,(∀d d1 d2 d3 d4 d5:D,∀b:Bool,∀Z,(DCalls Tryz.prog b_o [.agg [c0,c1,c2,c3,c4,iD c5,iD c6,iD c7,iD c8], .agg [k0,k1,k2,k3,k4,k5, .bool k6], .agg [v0,v1,v2,v3],iA now] Z (fun r Z1=>∃d6:D,(r=(.a (.one d6) :RV))∧∃I:Int→Store→Prop,∃μ:Int→Store→Nat,(I 1 Z1)∧∀n:Int,∀Z2,(I n Z2)→a_b (decide (n≤3)) (DCalls Tryz.prog g_v [.agg [c0,c1,c2,c3,c4,iD c5,iD c6,iD c7,iD c8],iA n] Z2 (fun r1 Z3=>∃n1:Int,(r1=(.a (iA n1) :RV))∧a_b (decide (n1≥0)) ((a_f d6)∧∃s:D,∃i off:Nat,(d6=(.el s i off:D))∧∃row:List D,(Row Z3 s i row)∧∃d7:D,((List.take 1 (List.drop ((off+0) +4) row)) =([d7]:List D))∧∃len:Nat,(Idx Tryz.prog Z3 d7 8 len)∧((0:Int)≤n)∧(n < (len:Int))∧DCalls Tryz.prog h_1 [.one d6, .one (.el d7 (Int.toNat n) 0),iA n1] Z3 (fun r2 Z4=>(r2=(.tup []:RV))∧(([[d,d1,d2,d3,d4,d5, .bool b]]:List (List D)) =([[d,d1,d2,d3,d4,d5, .bool b]]:List (List D)))∧(I (w64 (n+1)) Z4)∧((μ (w64 (n+1)) Z4) < (μ n Z2)))) ((([[d,d1,d2,d3,d4,d5, .bool b]]:List (List D)) =([[d,d1,d2,d3,d4,d5, .bool b]]:List (List D)))∧(I (w64 (n+1)) Z3)∧((μ (w64 (n+1)) Z3) < (μ n Z2))))) ((a_f d6)∧∃s:D,∃i off:Nat,(d6=(.el s i off:D))∧∃row:List D,(Row Z2 s i row)∧∃d7 d8 d9 d10 d11 d12:D,∃b1:Bool,((List.take 7 (List.drop (off+0) row)) =([d7,d8,d9,d10,d11,d12, .bool b1]:List D))∧Qp (.tup [.agg [d7,d8,d9,d10,d11,d12, .bool b1],iA 0]) Z2)))→R d d1 d2 d3 d4 d5 b Z)→∀R1:Bool→Store→Prop,(∀b:Bool,∀Z,(a_b b (DCalls Tryz.prog b_o [.agg [c0,c1,c2,c3,c4,iD c5,iD c6,iD c7,iD c8], .agg [k0,k1,k2,k3,k4,k5, .bool k6], .agg [.nils, .nils, .nils, .nils],iA 0] Z (fun r Z1=>∃d:D,(r=(.a (.one d) :RV))∧(a_f d)∧∃s:D,∃i off:Nat,(d=(.el s i off:D))∧∃row:List D,(Row Z1 s i row)∧∃d1 d2 d3 d4 d5 d6:D,∃b1:Bool,((List.take 7 (List.drop (off+0) row)) =([d1,d2,d3,d4,d5,d6, .bool b1]:List D))∧Qp (.tup [.agg [d1,d2,d3,d4,d5,d6, .bool b1],iA 21]) Z1)) (a_b (decide (now < 0)) (DCalls Tryz.prog b_o [.agg [c0,c1,c2,c3,c4,iD c5,iD c6,iD c7,iD c8], .agg [k0,k1,k2,k3,k4,k5, .bool k6], .agg [.nils, .nils, .nils, .nils],iA 0] Z (fun r Z1=>∃d:D,(r=(.a (.one d) :RV))∧(a_f d)∧∃s:D,∃i off:Nat,(d=(.el s i off:D))∧∃row:List D,(Row Z1 s i row)∧∃d1 d2 d3 d4 d5 d6:D,∃b1:Bool,((List.take 7 (List.drop (off+0) row)) =([d1,d2,d3,d4,d5,d6, .bool b1]:List D))∧Qp (.tup [.agg [d1,d2,d3,d4,d5,d6, .bool b1],iA 32]) Z1)) (a_b (decide (now > 4294967295)) (DCalls Tryz.prog b_o [.agg [c0,c1,c2,c3,c4,iD c5,iD c6,iD c7,iD c8], .agg [k0,k1,k2,k3,k4,k5, .bool k6], .agg [.nils, .nils, .nils, .nils],iA 0] Z (fun r Z1=>∃d:D,(r=(.a (.one d) :RV))∧(a_f d)∧∃s:D,∃i off:Nat,(d=(.el s i off:D))∧∃row:List D,(Row Z1 s i row)∧∃d1 d2 d3 d4 d5 d6:D,∃b1:Bool,((List.take 7 (List.drop (off+0) row)) =([d1,d2,d3,d4,d5,d6, .bool b1]:List D))∧Qp (.tup [.agg [d1,d2,d3,d4,d5,d6, .bool b1],iA 32]) Z1)) (R .nils .nils .nils .nils .nils .nils false Z))))→R1 b Z)→DCalls Tryz.prog d_3 [.agg [c0,c1,c2,c3,c4,iD c5,iD c6,iD c7,iD c8], .agg [k0,k1,k2,k3,k4,k5, .bool k6]] σ (fun r Z=>∃b:Bool,(r=(.a (bA b) :RV))∧a_b (!b) ((([[.nils, .nils, .nils, .nils, .nils, .nils, .bool false]]:List (List D)) =([[.nils, .nils, .nils, .nils, .nils, .nils, .bool false]]:List (List D)))∧R1 true Z) (∃len:Nat,(Len v0 len)∧∃len1:Nat,(Len c0 len1)∧a_b ((len:Int) !=(len1:Int)) ((([[.nils, .nils, .nils, .nils, .nils, .nils, .bool false]]:List (List D)) =([[.nils, .nils, .nils, .nils, .nils, .nils, .bool false]]:List (List D)))∧R1 true Z) (∃len2:Nat,(Len v1 len2)∧∃len3:Nat,(Len c0 len3)∧a_b ((len2:Int) !=(len3:Int)) ((([[.nils, .nils, .nils, .nils, .nils, .nils, .bool false]]:List (List D)) =([[.nils, .nils, .nils, .nils, .nils, .nils, .bool false]]:List (List D)))∧R1 true Z) (∃len4:Nat,(Len v2 len4)∧∃len5:Nat,(Len c3 len5)∧a_b ((len4:Int) !=(len5:Int)) ((([[.nils, .nils, .nils, .nils, .nils, .nils, .bool false]]:List (List D)) =([[.nils, .nils, .nils, .nils, .nils, .nils, .bool false]]:List (List D)))∧R1 true Z) (∃len6:Nat,(Len v3 len6)∧∃len7:Nat,(Len c2 len7)∧(([[.nils, .nils, .nils, .nils, .nils, .nils, .bool false]]:List (List D)) =([[.nils, .nils, .nils, .nils, .nils, .nils, .bool false]]:List (List D)))∧R1 ((len6:Int) !=(len7:Int)) Z)))))
theorem a_lv (c0 c1 c2 c3 c4:D)(c5 c6 c7 c8:Int)(k0 k1 k2 k3 k4 k5:D)(k6:Bool)(v0 v1 v2 v3:D)(now:Int)(σ:Store)(Qp:RV→Store→Prop)(h:a_l3 c0 c1 c2 c3 c4 c5 c6 c7 c8 k0 k1 k2 k3 k4 k5 k6 v0 v1 v2 v3 now σ Qp) :DCalls Tryz.prog o_7 [.agg [c0,c1,c2,c3,c4,iD c5,iD c6,iD c7,iD c8], .agg [k0,k1,k2,k3,k4,k5, .bool k6], .agg [v0,v1,v2,v3],iA now] σ Qp:=
 a_a mixed (by kernel_rfl) Tryz.func32 a_hg (Eq.mp (by kernel_rfl) h)
def a_i3:Ann:= { cbs:= [3],draws:= [(6,{ ord:= [0,1,2,3,4,5,6,7],nb:= [1],av:= [],dir:= [] }),(11,{ ord:= [0,1,2,3,5,4,6,7,8,9],nb:= [1],av:= [],dir:= [] })],loops:= [(4,{ mods:= [(25,s6)],keep:= [1,3,6,8,9,24] }),(9,{ mods:= [(39,s6)],keep:= [1,3,6,8,9,38] }),(14,{ mods:= [(56,s6)],keep:= [1,3,6,8,9,55] }),(23,{ mods:= [(95,s6)],keep:= [6,8,93,94] })],joins:= [(22,{ mods:= [(6,SlotSh.bx [Sh.any,Sh.any,Sh.any,Sh.any,Sh.any,Sh.any,Sh.bool])],keep:= [8] })] }
def a_mf (c0 c1 c2 c3 c4:D)(c5 c6 c7 c8 now:Int)(text:ByteArray)(σ:Store)(Qp:RV→Store→Prop) :Prop:=
 DCalls Tryz.prog h_d [.agg [c0,c1,c2,c3,c4,iD c5,iD c6,iD c7,iD c8],iA now] σ (fun r Z=>∃d d1 d2 d3 d4 d5:D,∃b:Bool,(r=(.a (.agg [d,d1,d2,d3,d4,d5, .bool b]) :RV))∧DCalls Tryz.prog q_8 [.one (.str text)] Z (fun r1 Z1=>∃d6:D,(r1=(.a (.one d6) :RV))∧∃len:Nat,(Len d len)∧∃I:Int→Store→Prop,∃μ:Int→Store→Nat,(I 0 Z1)∧∀n:Int,∀Z2,(I n Z2)→a_b (decide (n < (len:Int))) (DCalls Tryz.prog g_z [.one d6] Z2 (fun r2 Z3=>∃n1:Int,(r2=(.a (iA n1) :RV))∧∃len1:Nat,(Idx Tryz.prog Z3 d 1 len1)∧((0:Int)≤n)∧(n < (len1:Int))∧a_j [iD (w64 (n1 - 2))] Z3 d (Int.toNat n) 0 (fun Z4=>(([[.nils, .nils, .nils, .nils, .nils, .nils, .bool false],[d,d1,d2,d3,d4,d5, .bool b]]:List (List D)) =([[.nils, .nils, .nils, .nils, .nils, .nils, .bool false],[d,d1,d2,d3,d4,d5, .bool b]]:List (List D)))∧(I (w64 (n+1)) Z4)∧((μ (w64 (n+1)) Z4) < (μ n Z2))))) (∃len1:Nat,(Len d1 len1)∧∃I1:Int→Store→Prop,∃μ1:Int→Store→Nat,(I1 0 Z2)∧∀n1:Int,∀Z3,(I1 n1 Z3)→a_b (decide (n1 < (len1:Int))) (DCalls Tryz.prog e_1 [.one d6] Z3 (fun r2 Z4=>∃n2:Int,(r2=(.a (iA n2) :RV))∧DCalls Tryz.prog e_1 [.one d6] Z4 (fun r3 Z5=>∃n3:Int,(r3=(.a (iA n3) :RV))∧∃len2:Nat,(Idx Tryz.prog Z5 d1 4 len2)∧((0:Int)≤n1)∧(n1 < (len2:Int))∧a_j [iD n2,iD 0,iD n3,iD 0] Z5 d1 (Int.toNat n1) 0 (fun Z6=>(([[.nils, .nils, .nils, .nils, .nils, .nils, .bool false],[d,d1,d2,d3,d4,d5, .bool b]]:List (List D)) =([[.nils, .nils, .nils, .nils, .nils, .nils, .bool false],[d,d1,d2,d3,d4,d5, .bool b]]:List (List D)))∧(I1 (w64 (n1+1)) Z6)∧((μ1 (w64 (n1+1)) Z6) < (μ1 n1 Z3)))))) (∃len2:Nat,(IdxN Tryz.prog Z3 d4 8 len2)∧((0:Int)≤1)∧((1:Int)≤(len2:Int))∧∃len3:Nat,(Len (g_f d4 1 len2) len3)∧∃I2:Int→Store→Prop,∃μ2:Int→Store→Nat,(I2 0 Z3)∧∀n2:Int,∀Z4,(I2 n2 Z4)→a_b (decide (n2 < (len3:Int))) (DCalls Tryz.prog d_r [.one d6] Z4 (fun r2 Z5=>∃n3:Int,(r2=(.a (iA n3) :RV))∧DCalls Tryz.prog d_r [.one d6] Z5 (fun r3 Z6=>∃n4:Int,(r3=(.a (iA n4) :RV))∧DCalls Tryz.prog d_r [.one d6] Z6 (fun r4 Z7=>∃n5:Int,(r4=(.a (iA n5) :RV))∧∃len4:Nat,(Idx Tryz.prog Z7 d4 8 len4)∧((0:Int)≤(w64 (n2+1)))∧((w64 (n2+1)) < (len4:Int))∧a_j [iD n3,iD n4,iD n5,iD n5,iD 0,iD 0,iD 0,iD 0] Z7 d4 (Int.toNat (w64 (n2+1))) 0 (fun Z8=>(([[.nils, .nils, .nils, .nils, .nils, .nils, .bool false],[d,d1,d2,d3,d4,d5, .bool b]]:List (List D)) =([[.nils, .nils, .nils, .nils, .nils, .nils, .bool false],[d,d1,d2,d3,d4,d5, .bool b]]:List (List D)))∧(I2 (w64 (n2+1)) Z8)∧((μ2 (w64 (n2+1)) Z8) < (μ2 n2 Z4))))))) (∀R:D→D→D→D→D→D→Bool→Store→Prop,(∀d7 d8 d9 d10 d11 d12:D,∀b1:Bool,∀Z5,(∃len4:Nat,(Len d1 len4)∧∃I3:Int→Store→Prop,∃μ3:Int→Store→Nat,(I3 0 Z5)∧∀n3:Int,∀Z6,(I3 n3 Z6)→a_b (decide (n3 < (len4:Int))) (∃len5:Nat,(Idx Tryz.prog Z6 d1 4 len5)∧((0:Int)≤n3)∧(n3 < (len5:Int))∧∃row:List D,(Row Z6 d1 (Int.toNat n3) row)∧∃n4 n5 n6 n7:Int,((List.take 4 row) =([iD n4,iD n5,iD n6,iD n7]:List D))∧a_b (n4 == 0) (∃len6:Nat,(Idx Tryz.prog Z6 d1 4 len6)∧((0:Int)≤n3)∧(n3 < (len6:Int))∧a_j [iD 0,iD 0,iD 0,iD 0] Z6 d1 (Int.toNat n3) 0 (fun Z7=>(([[d7,d8,d9,d10,d11,d12, .bool b1],[d,d1,d2,d3,d4,d5, .bool b]]:List (List D)) =([[d7,d8,d9,d10,d11,d12, .bool b1],[d,d1,d2,d3,d4,d5, .bool b]]:List (List D)))∧(I3 (w64 (n3+1)) Z7)∧((μ3 (w64 (n3+1)) Z7) < (μ3 n3 Z6)))) (∃len6:Nat,(Idx Tryz.prog Z6 d1 4 len6)∧((0:Int)≤n3)∧(n3 < (len6:Int))∧a_j [iD 5,iD 0,iD n6,iD 0] Z6 d1 (Int.toNat n3) 0 (fun Z7=>(([[d7,d8,d9,d10,d11,d12, .bool b1],[d,d1,d2,d3,d4,d5, .bool b]]:List (List D)) =([[d7,d8,d9,d10,d11,d12, .bool b1],[d,d1,d2,d3,d4,d5, .bool b]]:List (List D)))∧(I3 (w64 (n3+1)) Z7)∧((μ3 (w64 (n3+1)) Z7) < (μ3 n3 Z6))))) (Qp (.tup [.agg [d,d1,d2,d3,d4,d5, .bool false],iA 0]) Z6))→R d7 d8 d9 d10 d11 d12 b1 Z5)→DCalls Tryz.prog h_i [.one d6] Z4 (fun r2 Z5=>∃n3:Int,(r2=(.a (iA n3) :RV))∧a_b (n3 != 0) (Qp (.tup [.agg [.nils, .nils, .nils, .nils, .nils, .nils, .bool false],iA 3]) Z5) (DCalls Tryz.prog d_3 [.agg [c0,c1,c2,c3,c4,iD c5,iD c6,iD c7,iD c8], .agg [d,d1,d2,d3,d4,d5, .bool b]] Z5 (fun r3 Z6=>∃b1:Bool,(r3=(.a (bA b1) :RV))∧a_b (!b1) (Qp (.tup [.agg [.nils, .nils, .nils, .nils, .nils, .nils, .bool false],iA 3]) Z6) (Fw.newObj Z6 (.live a_h [[iD now]]) (fun id Z7=>DCalls Tryz.prog d_h [iA 0, .one (.osl id 0 1)] Z7 (fun r4 Z8=>∃b2:Bool,(r4=(.a (bA b2) :RV))∧a_b (!b2) (Qp (.tup [.agg [.nils, .nils, .nils, .nils, .nils, .nils, .bool false],iA 3]) Z8) ((([[d,d1,d2,d3,d4,d5, .bool b]]:List (List D)) =([[d,d1,d2,d3,d4,d5, .bool b]]:List (List D)))∧R .nils .nils .nils .nils .nils .nils false Z8))))))))))))
theorem a_mu (c0 c1 c2 c3 c4:D)(c5 c6 c7 c8 now:Int)(text:ByteArray)(σ:Store)(Qp:RV→Store→Prop)(h:a_mf c0 c1 c2 c3 c4 c5 c6 c7 c8 now text σ Qp) :DCalls Tryz.prog o_1 [.agg [c0,c1,c2,c3,c4,iD c5,iD c6,iD c7,iD c8],iA now, .one (.str text)] σ Qp:=
 a_a mixed (by kernel_rfl) Tryz.func36 a_i3 (Eq.mp (by kernel_rfl) h)
def t_t:Ann:= { }
def w_1 (j:D)(wrong:Bool)(kind route section_:Int)(σ:Store)(Qp:RV→Store→Prop) :Prop:=
 a_b wrong ((a_f j)∧∃s:D,∃i off:Nat,(j=(.el s i off:D))∧∃row:List D,(Row σ s i row)∧∃d:D,((List.take 1 (List.drop (off+16) row)) =([d]:List D))∧Fw.newObj σ (.live i_6 [[iD kind,iD route,iD section_]]) (fun id Z=>a_z Tryz.prog Z i_6 24 d (.osl id 0 1) (fun d1 Z1=>(a_f j)∧∃s1:D,∃i1 off1:Nat,(j=(.el s1 i1 off1:D))∧a_j [d1] Z1 s1 i1 (off1+16) (fun Z2=>Qp (.tup []) Z2)))) (Qp (.tup []) σ)
theorem w_u (j:D)(wrong:Bool)(kind route section_:Int)(σ:Store)(Qp:RV→Store→Prop)(h:w_1 j wrong kind route section_ σ Qp) :DCalls Tryz.prog a_s [.one j,bA wrong,iA kind,iA route,iA section_] σ Qp:=
 a_a mixed (by kernel_rfl) Tryz.func44 t_t (Eq.mp (by kernel_rfl) h)
def r_a:Ann:= { esc:= [2],draws:= [(5,{ ord:= [0,1,2,3,4,5,6,7,8,9],nb:= [],av:= [],dir:= [] })],loops:= [(1,{ mods:= [(2,sA)],keep:= [0] })] }
def t_k (j:D)(σ:Store)(Qp:RV→Store→Prop) :Prop:=
 Fw.newObj σ (.live a_h [[iD 0]]) (fun id Z=>a_j [iD 1] Z (.osl id 0 1) 0 0 (fun Z1=>∃I:D→Store→Prop,∃μ:D→Store→Nat,(I (.el (.osl id 0 1) 0 0) Z1)∧∀d:D,∀Z2,(I d Z2)→∃s:D,∃i off:Nat,(d=(.el s i off:D))∧∃row:List D,(Row Z2 s i row)∧∃n:Int,((List.take 1 (List.drop off row)) =([iD n]:List D))∧a_b (decide (n≤3)) ((a_f j)∧∃s1:D,∃i1 off1:Nat,(j=(.el s1 i1 off1:D))∧∃row1:List D,(Row Z2 s1 i1 row1)∧∃d1:D,((List.take 1 (List.drop ((off1+7) +0) row1)) =([d1]:List D))∧DCalls Tryz.prog c_f [.one d1, .one (.fn h_7 [] [(false,[d])])] Z2 (fun r Z3=>∃n1:Int,(r=(.a (iA n1) :RV))∧a_b (decide (n1 < 0)) (∃s2:D,∃i2 off2:Nat,(d=(.el s2 i2 off2:D))∧∃row2:List D,(Row Z3 s2 i2 row2)∧∃n2:Int,((List.take 1 (List.drop off2 row2)) =([iD n2]:List D))∧Fw.newObj Z3 (.live a_h [[iD 0]]) (fun id1 Z4=>a_j [iD n2] Z4 (.osl id1 0 1) 0 0 (fun Z5=>∃row3:List D,(Row Z5 (.osl id1 0 1) 0 row3)∧∃n3:Int,((List.take 1 row3) =([iD n3]:List D))∧a_j [iD (w64 (n3+1))] Z5 (.osl id1 0 1) 0 0 (fun Z6=>(I (.el (.osl id1 0 1) 0 0) Z6)∧((μ (.el (.osl id1 0 1) 0 0) Z6) < (μ d Z2)))))) ((a_f j)∧∃s2:D,∃i2 off2:Nat,(j=(.el s2 i2 off2:D))∧∃row2:List D,(Row Z3 s2 i2 row2)∧∃d2:D,((List.take 1 (List.drop ((off2+0) +4) row2)) =([d2]:List D))∧∃s3:D,∃i3 off3:Nat,(d=(.el s3 i3 off3:D))∧∃row3:List D,(Row Z3 s3 i3 row3)∧∃n2:Int,((List.take 1 (List.drop off3 row3)) =([iD n2]:List D))∧∃len:Nat,(Idx Tryz.prog Z3 d2 8 len)∧((0:Int)≤n2)∧(n2 < (len:Int))∧∃row4:List D,(Row Z3 d2 (Int.toNat n2) row4)∧∃n3 n4 n5 n6 n7 n8 n9 n10:Int,((List.take 8 row4) =([iD n3,iD n4,iD n5,iD n6,iD n7,iD n8,iD n9,iD n10]:List D))∧a_b (decide (n4 > n3)) (DCalls Tryz.prog a_s [.one j,bA true,iA 6,iA (-1),iA n1] Z3 (fun r1 Z4=>(r1=(.tup []:RV))∧∃s4:D,∃i4 off4:Nat,(d=(.el s4 i4 off4:D))∧∃row5:List D,(Row Z4 s4 i4 row5)∧∃n11:Int,((List.take 1 (List.drop off4 row5)) =([iD n11]:List D))∧Fw.newObj Z4 (.live a_h [[iD 0]]) (fun id1 Z5=>a_j [iD n11] Z5 (.osl id1 0 1) 0 0 (fun Z6=>∃row6:List D,(Row Z6 (.osl id1 0 1) 0 row6)∧∃n12:Int,((List.take 1 row6) =([iD n12]:List D))∧a_j [iD (w64 (n12+1))] Z6 (.osl id1 0 1) 0 0 (fun Z7=>(I (.el (.osl id1 0 1) 0 0) Z7)∧((μ (.el (.osl id1 0 1) 0 0) Z7) < (μ d Z2))))))) (a_b (decide (n6 > n5)) (DCalls Tryz.prog a_s [.one j,bA true,iA 6,iA (-1),iA n1] Z3 (fun r1 Z4=>(r1=(.tup []:RV))∧∃s4:D,∃i4 off4:Nat,(d=(.el s4 i4 off4:D))∧∃row5:List D,(Row Z4 s4 i4 row5)∧∃n11:Int,((List.take 1 (List.drop off4 row5)) =([iD n11]:List D))∧Fw.newObj Z4 (.live a_h [[iD 0]]) (fun id1 Z5=>a_j [iD n11] Z5 (.osl id1 0 1) 0 0 (fun Z6=>∃row6:List D,(Row Z6 (.osl id1 0 1) 0 row6)∧∃n12:Int,((List.take 1 row6) =([iD n12]:List D))∧a_j [iD (w64 (n12+1))] Z6 (.osl id1 0 1) 0 0 (fun Z7=>(I (.el (.osl id1 0 1) 0 0) Z7)∧((μ (.el (.osl id1 0 1) 0 0) Z7) < (μ d Z2))))))) ((a_f j)∧∃s4:D,∃i4 off4:Nat,(j=(.el s4 i4 off4:D))∧∃row5:List D,(Row Z3 s4 i4 row5)∧∃d3:D,((List.take 1 (List.drop ((off4+0) +0) row5)) =([d3]:List D))∧∃len1:Nat,(Idx Tryz.prog Z3 d3 1 len1)∧((0:Int)≤n1)∧(n1 < (len1:Int))∧∃row6:List D,(Row Z3 d3 (Int.toNat n1) row6)∧∃n11:Int,((List.take 1 row6) =([iD n11]:List D))∧a_b (n11 ==(-2)) (DCalls Tryz.prog a_s [.one j,bA (n3 != n4),iA 6,iA (-1),iA n1] Z3 (fun r1 Z4=>(r1=(.tup []:RV))∧∃s5:D,∃i5 off5:Nat,(d=(.el s5 i5 off5:D))∧∃row7:List D,(Row Z4 s5 i5 row7)∧∃n12:Int,((List.take 1 (List.drop off5 row7)) =([iD n12]:List D))∧Fw.newObj Z4 (.live a_h [[iD 0]]) (fun id1 Z5=>a_j [iD n12] Z5 (.osl id1 0 1) 0 0 (fun Z6=>∃row8:List D,(Row Z6 (.osl id1 0 1) 0 row8)∧∃n13:Int,((List.take 1 row8) =([iD n13]:List D))∧a_j [iD (w64 (n13+1))] Z6 (.osl id1 0 1) 0 0 (fun Z7=>(I (.el (.osl id1 0 1) 0 0) Z7)∧((μ (.el (.osl id1 0 1) 0 0) Z7) < (μ d Z2))))))) (DCalls Tryz.prog a_s [.one j,bA false,iA 6,iA (-1),iA n1] Z3 (fun r1 Z4=>(r1=(.tup []:RV))∧∃s5:D,∃i5 off5:Nat,(d=(.el s5 i5 off5:D))∧∃row7:List D,(Row Z4 s5 i5 row7)∧∃n12:Int,((List.take 1 (List.drop off5 row7)) =([iD n12]:List D))∧Fw.newObj Z4 (.live a_h [[iD 0]]) (fun id1 Z5=>a_j [iD n12] Z5 (.osl id1 0 1) 0 0 (fun Z6=>∃row8:List D,(Row Z6 (.osl id1 0 1) 0 row8)∧∃n13:Int,((List.take 1 row8) =([iD n13]:List D))∧a_j [iD (w64 (n13+1))] Z6 (.osl id1 0 1) 0 0 (fun Z7=>(I (.el (.osl id1 0 1) 0 0) Z7)∧((μ (.el (.osl id1 0 1) 0 0) Z7) < (μ d Z2)))))))))))) (Qp (.tup []) Z2)))
theorem s_9 (j:D)(σ:Store)(Qp:RV→Store→Prop)(h:t_k j σ Qp) :DCalls Tryz.prog e_d [.one j] σ Qp:=
 a_a mixed (by kernel_rfl) Tryz.func48 r_a (Eq.mp (by kernel_rfl) h)
def a_hu:Ann:= { draws:= [(5,{ ord:= [0,1,2,3,4,5,6],nb:= [],av:= [],dir:= [] }),(7,{ ord:= [0,1,2,3,4,5,6],nb:= [],av:= [],dir:= [] })],loops:= [(2,{ mods:= [(13,s6)],keep:= [1,2,11,12] })] }
def a_kr (joints:D)(section_ end_:Int)(σ:Store)(Qp:RV→Store→Prop) :Prop:=
 ∃len:Nat,(Len joints len)∧∃I:Int→Store→Prop,∃μ:Int→Store→Nat,(I 0 σ)∧∀n:Int,∀Z,(I n Z)→a_b (decide (n < (len:Int))) (∃len1:Nat,(Idx Tryz.prog Z joints 4 len1)∧((0:Int)≤n)∧(n < (len1:Int))∧∃row:List D,(Row Z joints (Int.toNat n) row)∧∃n1 n2 n3 n4:Int,((List.take 4 row) =([iD n1,iD n2,iD n3,iD n4]:List D))∧a_b (n1 == section_) (a_b (n2 == end_) (Qp (.tup [iA n3,iA n4,bA true]) Z) (a_b (n3 == section_) (a_b (n4 == end_) (Qp (.tup [iA n1,iA n2,bA true]) Z) ((I (w64 (n+1)) Z)∧((μ (w64 (n+1)) Z) < (μ n Z)))) ((I (w64 (n+1)) Z)∧((μ (w64 (n+1)) Z) < (μ n Z))))) (a_b (n3 == section_) (a_b (n4 == end_) (Qp (.tup [iA n1,iA n2,bA true]) Z) ((I (w64 (n+1)) Z)∧((μ (w64 (n+1)) Z) < (μ n Z)))) ((I (w64 (n+1)) Z)∧((μ (w64 (n+1)) Z) < (μ n Z))))) (Qp (.tup [iA 0,iA 0,bA false]) Z)
theorem a_lk (joints:D)(section_ end_:Int)(σ:Store)(Qp:RV→Store→Prop)(h:a_kr joints section_ end_ σ Qp) :DCalls Tryz.prog e_u [.one joints,iA section_,iA end_] σ Qp:=
 a_a mixed (by kernel_rfl) Tryz.func52 a_hu (Eq.mp (by kernel_rfl) h)
def a_mr:Ann:= { loops:= [(2,{ mods:= [(13,s6)],keep:= [1,2,11,12] })] }
def a_oc (kind in_ out_:Int)(σ:Store)(Qp:RV→Store→Prop) :Prop:=
 DCalls Tryz.prog j_8 [iA kind] σ (fun r Z=>∃d:D,(r=(.a (.one d) :RV))∧∃len:Nat,(Len d len)∧∃I:Int→Store→Prop,∃μ:Int→Store→Nat,(I 0 Z)∧∀n:Int,∀Z1,(I n Z1)→a_b (decide (n < (len:Int))) (∃len1:Nat,(Idx Tryz.prog Z1 d 3 len1)∧((0:Int)≤n)∧(n < (len1:Int))∧∃row:List D,(Row Z1 d (Int.toNat n) row)∧∃n1 n2 n3:Int,((List.take 3 row) =([iD n1,iD n2,iD n3]:List D))∧a_b (n1 == in_) (a_b (n2 == out_) (Qp (.tup [iA n3,bA true]) Z1) (a_b (n2 == in_) (a_b (n1 == out_) (Qp (.tup [iA n3,bA true]) Z1) ((I (w64 (n+1)) Z1)∧((μ (w64 (n+1)) Z1) < (μ n Z1)))) ((I (w64 (n+1)) Z1)∧((μ (w64 (n+1)) Z1) < (μ n Z1))))) (a_b (n2 == in_) (a_b (n1 == out_) (Qp (.tup [iA n3,bA true]) Z1) ((I (w64 (n+1)) Z1)∧((μ (w64 (n+1)) Z1) < (μ n Z1)))) ((I (w64 (n+1)) Z1)∧((μ (w64 (n+1)) Z1) < (μ n Z1))))) (Qp (.tup [iA 0,bA false]) Z1))
theorem a_m6 (kind in_ out_:Int)(σ:Store)(Qp:RV→Store→Prop)(h:a_oc kind in_ out_ σ Qp) :DCalls Tryz.prog q_n [iA kind,iA in_,iA out_] σ Qp:=
 a_a mixed (by kernel_rfl) Tryz.func56 a_mr (Eq.mp (by kernel_rfl) h)
def o_h:Ann:= { draws:= [(9,{ ord:= [0,1,2,3,4,5,6,7,8,9],nb:= [],av:= [],dir:= [] })],loops:= [(8,{ mods:= [(8,s6)],keep:= [7] })],joins:= [(3,{ mods:= [],keep:= [0,1] }),(6,{ mods:= [],keep:= [0,6] })] }
def p_n (x:D)(count:Int)(σ:Store)(Qp:RV→Store→Prop) :Prop:=
 ∀R:Store→Prop,(∀Z,(∃len:Nat,(Len x len)∧DCalls Tryz.prog g_u [.one (.int .u64 (IntKind.wrap .u64 (len:Int))), .one (.int .u64 (IntKind.wrap .u64 count))] Z (fun r Z1=>∃n n1:Int,(r=(.tup [.one (.int .u64 n), .one (.int .u64 n1)]:RV))∧∀R1:Store→Prop,(∀Z2,(((0:Int)≤(w64 n1))∧((w64 n1)≤(w64 n1))∧(((16:Int) * (w64 n1))≤(2 ^ 48))∧Fw.newObj Z2 (.live a_7 (List.replicate (Int.toNat (w64 n1)) [iD 0,iD 0])) (fun id Z3=>s_b Tryz.prog Z3 a_7 (.osl id 0 (Int.toNat (w64 n1))) x (fun n2 Z4=>∃I:Int→Store→Prop,∃μ:Int→Store→Nat,(I n2 Z4)∧∀n3:Int,∀Z5,(I n3 Z5)→∃len1:Nat,(Len (.osl id 0 (Int.toNat (w64 n1))) len1)∧a_b (decide (n3 < (len1:Int))) (∃len2:Nat,(IdxN Tryz.prog Z5 (.osl id 0 (Int.toNat (w64 n1))) 2 len2)∧((0:Int)≤n3)∧(n3≤(len2:Int))∧∃len3:Nat,(IdxN Tryz.prog Z5 (.osl id 0 (Int.toNat (w64 n1))) 2 len3)∧((0:Int)≤0)∧((0:Int)≤n3)∧(n3≤(len3:Int))∧s_b Tryz.prog Z5 a_7 (.osl id (0+ (Int.toNat n3)) (len2 - (Int.toNat n3))) (.osl id 0 ((Int.toNat n3) - 0)) (fun n4 Z6=>(I (w64 (n3+n4)) Z6)∧((μ (w64 (n3+n4)) Z6) < (μ n3 Z5)))) (Qp (.a (.one (.osl id 0 (Int.toNat (w64 n1))))) Z5))))→R1 Z2)→a_b (decide (n > 0)) False (a_b (decide (n1 > 9223372036854775807)) False (R1 Z1))))→R Z)→a_b (decide (count < 0)) False (R σ)
theorem p_w (x:D)(count:Int)(σ:Store)(Qp:RV→Store→Prop)(h:p_n x count σ Qp) :DCalls Tryz.prog f_a [.one x,iA count] σ Qp:=
 a_a mixed (by kernel_rfl) Tryz.func60 o_h (Eq.mp (by kernel_rfl) h)
def a_hn:Ann:= { esc:= [8,11,9,10],cbs:= [6,7] }
def a_k7 (c0 c1 c2 c3 c4:D)(c5 c6 c7 c8:Int)(k0 k1 k2 k3 k4 k5:D)(k6:Bool)(r to now:Int)(from_:D)(σ:Store)(Qp:RV→Store→Prop) :Prop:=
 Fw.newObj σ (.live a_h [[iD r]]) (fun id Z=>Fw.newObj Z (.live a_h [[iD to]]) (fun id1 Z1=>Fw.newObj Z1 (.live a_h [[iD now]]) (fun id2 Z2=>Fw.newObj Z2 (.live m_7 [[from_]]) (fun id3 Z3=>∃row:List D,(Row Z3 (.osl id2 0 1) 0 row)∧∃n:Int,((List.take 1 row) =([iD n]:List D))∧DCalls Tryz.prog e_l [.agg [c0,c1,c2,c3,c4,iD c5,iD c6,iD c7,iD c8], .agg [k0,k1,k2,k3,k4,k5, .bool k6],iA n, .one (.fn s_a [] [(false,[.el (.osl id 0 1) 0 0]),(false,[.el (.osl id3 0 1) 0 0]),(false,[.el (.osl id1 0 1) 0 0]),(false,[.el (.osl id2 0 1) 0 0])])] Z3 (fun r1 Z4=>∃d d1 d2 d3 d4 d5:D,∃b:Bool,∃n1:Int,(r1=(.tup [.agg [d,d1,d2,d3,d4,d5, .bool b],iA n1]:RV))∧Qp (.tup [.agg [d,d1,d2,d3,d4,d5, .bool b],iA n1]) Z4)))))
theorem a_k2 (c0 c1 c2 c3 c4:D)(c5 c6 c7 c8:Int)(k0 k1 k2 k3 k4 k5:D)(k6:Bool)(r to now:Int)(from_:D)(σ:Store)(Qp:RV→Store→Prop)(h:a_k7 c0 c1 c2 c3 c4 c5 c6 c7 c8 k0 k1 k2 k3 k4 k5 k6 r to now from_ σ Qp) :DCalls Tryz.prog h_j [.agg [c0,c1,c2,c3,c4,iD c5,iD c6,iD c7,iD c8], .agg [k0,k1,k2,k3,k4,k5, .bool k6],iA r,iA to,iA now, .one from_] σ Qp:=
 a_a mixed (by kernel_rfl) Tryz.func64 a_hn (Eq.mp (by kernel_rfl) h)
def a_av:Ann:= { }
def a_c4 (m0 m1 now cmd:Int)(σ:Store)(Qp:RV→Store→Prop) :Prop:=
 a_b (m0 != cmd) (Qp (.a (.agg [iD cmd,iD now])) σ) (Qp (.a (.agg [iD m0,iD m1])) σ)
theorem a_dc (m0 m1 now cmd:Int)(σ:Store)(Qp:RV→Store→Prop)(h:a_c4 m0 m1 now cmd σ Qp) :DCalls Tryz.prog b_5 [.agg [iD m0,iD m1],iA now,iA cmd] σ Qp:=
 a_a mixed (by kernel_rfl) Tryz.func68 a_av (Eq.mp (by kernel_rfl) h)
def x_1:Ann:= { draws:= [(6,{ ord:= [0,1,2,3,4,5,6,7,8],nb:= [],av:= [],dir:= [] })],loops:= [(4,{ mods:= [(13,s6)],keep:= [0,1,12] })] }
def a_a2 (a b:D)(σ:Store)(Qp:RV→Store→Prop) :Prop:=
 ∃len:Nat,(Len a len)∧∃len1:Nat,(Len b len1)∧a_b ((len:Int) !=(len1:Int)) (Qp (.a (bA false)) σ) (∃len2:Nat,(Len a len2)∧∃I:Int→Store→Prop,∃μ:Int→Store→Nat,(I 0 σ)∧∀n:Int,∀Z,(I n Z)→a_b (decide (n < (len2:Int))) (∃len3:Nat,(Idx Tryz.prog Z a 1 len3)∧((0:Int)≤n)∧(n < (len3:Int))∧∃row:List D,(Row Z a (Int.toNat n) row)∧∃n1:Int,((List.take 1 row) =([iD n1]:List D))∧∃len4:Nat,(Idx Tryz.prog Z b 1 len4)∧((0:Int)≤n)∧(n < (len4:Int))∧∃row1:List D,(Row Z b (Int.toNat n) row1)∧∃n2:Int,((List.take 1 row1) =([iD n2]:List D))∧a_b (n1 != n2) (Qp (.a (bA false)) Z) ((I (w64 (n+1)) Z)∧((μ (w64 (n+1)) Z) < (μ n Z)))) (Qp (.a (bA true)) Z))
theorem z_1 (a b:D)(σ:Store)(Qp:RV→Store→Prop)(h:a_a2 a b σ Qp) :DCalls Tryz.prog f_z [.one a, .one b] σ Qp:=
 a_a mixed (by kernel_rfl) Tryz.func72 x_1 (Eq.mp (by kernel_rfl) h)
def l_n:Ann:= { draws:= [(6,{ ord:= [0,1,2,3,4,5,6,7,8,9,10,11,12,13,14,15,16,17,18,19,20,21],nb:= [],av:= [],dir:= [],sp:= [19] })],loops:= [(1,{ mods:= [(11,s6)],keep:= [0,9,10] })] }
def m_v (x:D)(σ:Store)(Qp:RV→Store→Prop) :Prop:=
 (a_f x)∧∃s:D,∃i off:Nat,(x=(.el s i off:D))∧∃row:List D,(Row σ s i row)∧∃d:D,((List.take 1 (List.drop ((off+4) +3) row)) =([d]:List D))∧∃len:Nat,(Len d len)∧∃I:Int→Store→Prop,∃μ:Int→Store→Nat,(I 0 σ)∧∀n:Int,∀Z,(I n Z)→a_b (decide (n < (len:Int))) (∃len1:Nat,(Idx Tryz.prog Z d 1 len1)∧((0:Int)≤n)∧(n < (len1:Int))∧∃row1:List D,(Row Z d (Int.toNat n) row1)∧∃n1:Int,((List.take 1 row1) =([iD n1]:List D))∧(a_f x)∧∃s1:D,∃i1 off1:Nat,(x=(.el s1 i1 off1:D))∧∃row2:List D,(Row Z s1 i1 row2)∧∃d1:D,((List.take 1 (List.drop ((off1+13) +0) row2)) =([d1]:List D))∧∃len2:Nat,(Idx Tryz.prog Z d1 1 len2)∧((0:Int)≤n1)∧(n1 < (len2:Int))∧∃row3:List D,(Row Z d1 (Int.toNat n1) row3)∧∃n2:Int,((List.take 1 row3) =([iD n2]:List D))∧a_b (n2 == 0) (∃pre:List A→Store→Prop,∃post:List A→Store→RV→Store→Prop,(h_o Tryz.prog b_5 pre post)∧(a_f x)∧∃s2:D,∃i2 off2:Nat,(x=(.el s2 i2 off2:D))∧∃row4:List D,(Row Z s2 i2 row4)∧∃d2:D,((List.take 1 (List.drop ((off2+13) +3) row4)) =([d2]:List D))∧(a_f x)∧∃s3:D,∃i3 off3:Nat,(x=(.el s3 i3 off3:D))∧∃row5:List D,(Row Z s3 i3 row5)∧∃d3:D,((List.take 1 (List.drop ((off3+13) +3) row5)) =([d3]:List D))∧∃len3:Nat,(Idx Tryz.prog Z d3 2 len3)∧((0:Int)≤n)∧(n < (len3:Int))∧∃row6:List D,(Row Z d3 (Int.toNat n) row6)∧∃n3 n4:Int,((List.take 2 row6) =([iD n3,iD n4]:List D))∧(a_f x)∧∃s4:D,∃i4 off4:Nat,(x=(.el s4 i4 off4:D))∧∃row7:List D,(Row Z s4 i4 row7)∧∃n5:Int,((List.take 1 (List.drop (off4+20) row7)) =([iD n5]:List D))∧(pre [.agg [iD n3,iD n4],iA n5,iA 2] Z)∧∀r:RV,∀s5:Store,(post [.agg [iD n3,iD n4],iA n5,iA 2] Z r s5)→∃n6 n7:Int,(r=(.a (.agg [iD n6,iD n7]) :RV))∧∃len4:Nat,(Idx Tryz.prog s5 d2 2 len4)∧((0:Int)≤n)∧(n < (len4:Int))∧a_j [iD n6,iD n7] s5 d2 (Int.toNat n) 0 (fun Z1=>(I (w64 (n+1)) Z1)∧((μ (w64 (n+1)) Z1) < (μ n Z)))) (∃pre:List A→Store→Prop,∃post:List A→Store→RV→Store→Prop,(h_o Tryz.prog b_5 pre post)∧(a_f x)∧∃s2:D,∃i2 off2:Nat,(x=(.el s2 i2 off2:D))∧∃row4:List D,(Row Z s2 i2 row4)∧∃d2:D,((List.take 1 (List.drop ((off2+13) +3) row4)) =([d2]:List D))∧(a_f x)∧∃s3:D,∃i3 off3:Nat,(x=(.el s3 i3 off3:D))∧∃row5:List D,(Row Z s3 i3 row5)∧∃d3:D,((List.take 1 (List.drop ((off3+13) +3) row5)) =([d3]:List D))∧∃len3:Nat,(Idx Tryz.prog Z d3 2 len3)∧((0:Int)≤n)∧(n < (len3:Int))∧∃row6:List D,(Row Z d3 (Int.toNat n) row6)∧∃n3 n4:Int,((List.take 2 row6) =([iD n3,iD n4]:List D))∧(a_f x)∧∃s4:D,∃i4 off4:Nat,(x=(.el s4 i4 off4:D))∧∃row7:List D,(Row Z s4 i4 row7)∧∃n5:Int,((List.take 1 (List.drop (off4+20) row7)) =([iD n5]:List D))∧(pre [.agg [iD n3,iD n4],iA n5,iA 1] Z)∧∀r:RV,∀s5:Store,(post [.agg [iD n3,iD n4],iA n5,iA 1] Z r s5)→∃n6 n7:Int,(r=(.a (.agg [iD n6,iD n7]) :RV))∧∃len4:Nat,(Idx Tryz.prog s5 d2 2 len4)∧((0:Int)≤n)∧(n < (len4:Int))∧a_j [iD n6,iD n7] s5 d2 (Int.toNat n) 0 (fun Z1=>(I (w64 (n+1)) Z1)∧((μ (w64 (n+1)) Z1) < (μ n Z))))) (Qp (.tup []) Z)
theorem m_1 (x:D)(σ:Store)(Qp:RV→Store→Prop)(h:m_v x σ Qp) :DCalls Tryz.prog d_9 [.one x] σ Qp:=
 a_a mixed (by kernel_rfl) Tryz.func76 l_n (Eq.mp (by kernel_rfl) h)
def s_4:Ann:= { }
def w_q (w list:D)(σ:Store)(Qp:RV→Store→Prop) :Prop:=
 DCalls Tryz.prog c_8 [.one w,iA 16, .one list] σ (fun r Z=>(r=(.tup []:RV))∧Qp (.tup []) Z)
theorem w_f (w list:D)(σ:Store)(Qp:RV→Store→Prop)(h:w_q w list σ Qp) :DCalls Tryz.prog g_9 [.one w, .one list] σ Qp:=
 a_a mixed (by kernel_rfl) Tryz.func80 s_4 (Eq.mp (by kernel_rfl) h)
def a_kq:Ann:= { esc:= [5] }
def a_nz (text:ByteArray)(σ:Store)(Qp:RV→Store→Prop) :Prop:=
 Fw.newObj σ (.live u_h [[iD 0, .str text]]) (fun id Z=>Qp (.a (.one (.el (.osl id 0 1) 0 0))) Z)
theorem a_ne (text:ByteArray)(σ:Store)(Qp:RV→Store→Prop)(h:a_nz text σ Qp) :DCalls Tryz.prog q_8 [.one (.str text)] σ Qp:=
 a_a mixed (by kernel_rfl) Tryz.func84 a_kq (Eq.mp (by kernel_rfl) h)
def v_1:Ann:= { }
def y_x (r:D)(σ:Store)(Qp:RV→Store→Prop) :Prop:=
 (a_f r)∧∃s:D,∃i off:Nat,(r=(.el s i off:D))∧DCalls Tryz.prog a_6 [.one (.el s i (off+0))] σ (fun r1 Z=>∃b:Bool,(r1=(.a (bA b) :RV))∧a_b b ((a_f r)∧∃s1:D,∃i1 off1:Nat,(r=(.el s1 i1 off1:D))∧∃row:List D,(Row Z s1 i1 row)∧∃s2:ByteArray,((List.take 1 (List.drop (off1+1) row)) =([.str s2]:List D))∧a_b (!((ByteArray.toList s2) ==(ByteArray.toList (ByteArray.mk (List.toArray []))))) (Qp (.a (iA 3)) Z) ((a_f r)∧∃s3:D,∃i2 off2:Nat,(r=(.el s3 i2 off2:D))∧∃row1:List D,(Row Z s3 i2 row1)∧∃n:Int,((List.take 1 (List.drop ((off2+0) +0) row1)) =([iD n]:List D))∧Qp (.a (iA n)) Z)) ((a_f r)∧∃s1:D,∃i1 off1:Nat,(r=(.el s1 i1 off1:D))∧∃row:List D,(Row Z s1 i1 row)∧∃n:Int,((List.take 1 (List.drop ((off1+0) +0) row)) =([iD n]:List D))∧Qp (.a (iA n)) Z))
theorem y_g (r:D)(σ:Store)(Qp:RV→Store→Prop)(h:y_x r σ Qp) :DCalls Tryz.prog h_i [.one r] σ Qp:=
 a_a mixed (by kernel_rfl) Tryz.func88 v_1 (Eq.mp (by kernel_rfl) h)
def x_t:Ann:= { }
def a_a1 (j:D)(r:Int)(states:D)(σ:Store)(Qp:RV→Store→Prop) :Prop:=
 (a_f j)∧∃s:D,∃i off:Nat,(j=(.el s i off:D))∧∃row:List D,(Row σ s i row)∧∃d:D,((List.take 1 (List.drop ((off+0) +1) row)) =([d]:List D))∧∃len:Nat,(Idx Tryz.prog σ d 4 len)∧((0:Int)≤r)∧(r < (len:Int))∧∃row1:List D,(Row σ d (Int.toNat r) row1)∧∃n:Int,((List.take 1 row1) =([iD n]:List D))∧DCalls Tryz.prog b_1 [.one states,iA n] σ (fun r1 Z=>∃b:Bool,(r1=(.a (bA b) :RV))∧Qp (.a (bA b)) Z)
theorem a_ay (j:D)(r:Int)(states:D)(σ:Store)(Qp:RV→Store→Prop)(h:a_a1 j r states σ Qp) :DCalls Tryz.prog d_i [.one j,iA r, .one states] σ Qp:=
 a_a mixed (by kernel_rfl) Tryz.func96 x_t (Eq.mp (by kernel_rfl) h)
def o_f:Ann:= { cbs:= [2] }
def p_0 (x0 x1 x2:Int)(a1:D)(σ:Store)(Qp:RV→Store→Prop) :Prop:=
 ∃s:D,∃i off:Nat,(a1=(.el s i off:D))∧∃row:List D,(Row σ s i row)∧∃n:Int,((List.take 1 (List.drop off row)) =([iD n]:List D))∧Qp (.a (bA (x2 == n))) σ
theorem p_o (x0 x1 x2:Int)(a1:D)(σ:Store)(Qp:RV→Store→Prop)(h:p_0 x0 x1 x2 a1 σ Qp) :DCalls Tryz.prog h_7 [.agg [iD x0,iD x1,iD x2], .one a1] σ Qp:=
 a_a mixed (by kernel_rfl) Tryz.func100 o_f (Eq.mp (by kernel_rfl) h)
def s_z:Ann:= { }
def w_m (d:D)(r:Int)(σ:Store)(Qp:RV→Store→Prop) :Prop:=
 (a_f d)∧∃s:D,∃i off:Nat,(d=(.el s i off:D))∧∃row:List D,(Row σ s i row)∧∃d1:D,((List.take 1 (List.drop ((off+9) +1) row)) =([d1]:List D))∧∃len:Nat,(Len d1 len)∧DCalls Tryz.prog b_f [iA r,iA 0, .one (iD (w64 ((len:Int) - 1)))] σ (fun r1 Z=>∃b:Bool,(r1=(.a (bA b) :RV))∧a_b (!b) (Qp (.tup [.one .nilp,iA 20]) Z) ((a_f d)∧∃s1:D,∃i1 off1:Nat,(d=(.el s1 i1 off1:D))∧∃row1:List D,(Row Z s1 i1 row1)∧∃d2:D,((List.take 1 (List.drop ((off1+9) +1) row1)) =([d2]:List D))∧∃len1:Nat,(Idx Tryz.prog Z d2 4 len1)∧((0:Int)≤r)∧(r < (len1:Int))∧Qp (.tup [.one (.el d2 (Int.toNat r) 0),iA 0]) Z))
theorem w_e (d:D)(r:Int)(σ:Store)(Qp:RV→Store→Prop)(h:w_m d r σ Qp) :DCalls Tryz.prog e_z [.one d,iA r] σ Qp:=
 a_a mixed (by kernel_rfl) Tryz.func105 s_z (Eq.mp (by kernel_rfl) h)
def a_db:Ann:= { draws:= [(4,{ ord:= [0,1,2,3,4,5,6,7],nb:= [],av:= [],dir:= [] })] }
def a_d6 (d a1 a2 a3 a4:D)(σ:Store)(Qp:RV→Store→Prop) :Prop:=
 ∃s:D,∃i off:Nat,(a1=(.el s i off:D))∧∃row:List D,(Row σ s i row)∧∃n:Int,((List.take 1 (List.drop off row)) =([iD n]:List D))∧DCalls Tryz.prog e_z [.one d,iA n] σ (fun r Z=>∃d1:D,∃n1:Int,(r=(.tup [.one d1,iA n1]:RV))∧a_b (n1 != 0) (Qp (.a (iA n1)) Z) (∃s1:D,∃i1 off1:Nat,(a2=(.el s1 i1 off1:D))∧∃row1:List D,(Row Z s1 i1 row1)∧∃d2:D,((List.take 1 (List.drop off1 row1)) =([d2]:List D))∧(a_f d1)∧∃s2:D,∃i2 off2:Nat,(d1=(.el s2 i2 off2:D))∧∃row2:List D,(Row Z s2 i2 row2)∧∃n2:Int,((List.take 1 (List.drop (off2+0) row2)) =([iD n2]:List D))∧DCalls Tryz.prog b_1 [.one d2,iA n2] Z (fun r1 Z1=>∃b:Bool,(r1=(.a (bA b) :RV))∧a_b (!b) (Qp (.a (iA 28)) Z1) (∃s3:D,∃i3 off3:Nat,(a3=(.el s3 i3 off3:D))∧∃row3:List D,(Row Z1 s3 i3 row3)∧∃n3:Int,((List.take 1 (List.drop off3 row3)) =([iD n3]:List D))∧(a_f d1)∧∃s4:D,∃i4 off4:Nat,(d1=(.el s4 i4 off4:D))∧a_j [iD n3] Z1 s4 i4 (off4+0) (fun Z2=>∃s5:D,∃i5 off5:Nat,(a3=(.el s5 i5 off5:D))∧∃row4:List D,(Row Z2 s5 i5 row4)∧∃n4:Int,((List.take 1 (List.drop off5 row4)) =([iD n4]:List D))∧a_b (n4 == 4) (∃s6:D,∃i6 off6:Nat,(a4=(.el s6 i6 off6:D))∧∃row5:List D,(Row Z2 s6 i6 row5)∧∃n5:Int,((List.take 1 (List.drop off6 row5)) =([iD n5]:List D))∧(a_f d1)∧∃s7:D,∃i7 off7:Nat,(d1=(.el s7 i7 off7:D))∧a_j [iD n5] Z2 s7 i7 (off7+1) (fun Z3=>(a_f d1)∧∃s8:D,∃i8 off8:Nat,(d1=(.el s8 i8 off8:D))∧a_j [iD 0] Z3 s8 i8 (off8+3) (fun Z4=>(a_f d)∧∃s9:D,∃i9 off9:Nat,(d=(.el s9 i9 off9:D))∧a_j [.bool true] Z4 s9 i9 ((off9+9) +6) (fun Z5=>Qp (.a (iA 0)) Z5)))) (Qp (.a (iA 0)) Z2))))))
theorem a_ea (d a1 a2 a3 a4:D)(σ:Store)(Qp:RV→Store→Prop)(h:a_d6 d a1 a2 a3 a4 σ Qp) :DCalls Tryz.prog s_a [.one d, .one a1, .one a2, .one a3, .one a4] σ Qp:=
 a_a mixed (by kernel_rfl) Tryz.func109 a_db (Eq.mp (by kernel_rfl) h)
def k_w:Ann:= { }
def l_l (s:D)(σ:Store)(Qp:RV→Store→Prop) :Prop:=
 ∃b:Bool,(h_6 .sl s b)∧a_b (b != false) (Qp (.a (.one .nils)) σ) (Fw.newObj σ (.live c_h []) (fun id Z=>a_z Tryz.prog Z c_h 32 (.osl id 0 0) s (fun d Z1=>Qp (.a (.one d)) Z1)))
theorem l_k (s:D)(σ:Store)(Qp:RV→Store→Prop)(h:l_l s σ Qp) :DCalls Tryz.prog b_s [.one s] σ Qp:=
 a_a mixed (by kernel_rfl) Tryz.func113 k_w (Eq.mp (by kernel_rfl) h)
def y_r:Ann:= { draws:= [(7,{ ord:= [0,1,2,3,4,5,6,7,8,9,10,11,12,13,14,15,16,17,18,19,20,21,22,23,24,25,26,27],nb:= [],av:= [],dir:= [] })],loops:= [(2,{ mods:= [(15,s6)],keep:= [0,1,2,13,14] })] }
def a_ax (d l:D)(s:Int)(σ:Store)(Qp:RV→Store→Prop) :Prop:=
 (a_f d)∧∃s1:D,∃i off:Nat,(d=(.el s1 i off:D))∧∃row:List D,(Row σ s1 i row)∧∃d1:D,((List.take 1 (List.drop ((off+0) +1) row)) =([d1]:List D))∧∃len:Nat,(Len d1 len)∧∃I:Int→Store→Prop,∃μ:Int→Store→Nat,(I 0 σ)∧∀n:Int,∀Z,(I n Z)→a_b (decide (n < (len:Int))) (∃len1:Nat,(Idx Tryz.prog Z d1 4 len1)∧((0:Int)≤n)∧(n < (len1:Int))∧∃row1:List D,(Row Z d1 (Int.toNat n) row1)∧∃n1 n2 n3 n4:Int,((List.take 4 row1) =([iD n1,iD n2,iD n3,iD n4]:List D))∧a_b (n1 != 0) ((a_f d)∧∃s2:D,∃i1 off1:Nat,(d=(.el s2 i1 off1:D))∧∃row2:List D,(Row Z s2 i1 row2)∧∃d2 d3 d4 d5 d6:D,∃n5 n6 n7 n8:Int,((List.take 9 (List.drop (off1+7) row2)) =([d2,d3,d4,d5,d6,iD n5,iD n6,iD n7,iD n8]:List D))∧DCalls Tryz.prog g_s [.agg [d2,d3,d4,d5,d6,iD n5,iD n6,iD n7,iD n8],iA n] Z (fun r Z1=>∃n9:Int,(r=(.a (iA n9) :RV))∧a_b (n9 == s) (Qp (.a (bA false)) Z1) ((I (w64 (n+1)) Z1)∧((μ (w64 (n+1)) Z1) < (μ n Z))))) ((I (w64 (n+1)) Z)∧((μ (w64 (n+1)) Z) < (μ n Z)))) ((a_f l)∧∃s2:D,∃i1 off1:Nat,(l=(.el s2 i1 off1:D))∧∃row1:List D,(Row Z s2 i1 row1)∧∃n1:Int,((List.take 1 (List.drop ((off1+4) +0) row1)) =([iD n1]:List D))∧(a_f l)∧∃s3:D,∃i2 off2:Nat,(l=(.el s3 i2 off2:D))∧∃row2:List D,(Row Z s3 i2 row2)∧∃n2:Int,((List.take 1 (List.drop (off2+2) row2)) =([iD n2]:List D))∧(a_f l)∧∃s4:D,∃i3 off3:Nat,(l=(.el s4 i3 off3:D))∧∃row3:List D,(Row Z s4 i3 row3)∧∃n3:Int,((List.take 1 (List.drop ((off3+4) +1) row3)) =([iD n3]:List D))∧a_b (decide (n1 > (ite (n3 > n2) n3 n2))) ((a_f l)∧∃s5:D,∃i4 off4:Nat,(l=(.el s5 i4 off4:D))∧∃row4:List D,(Row Z s5 i4 row4)∧∃n4:Int,((List.take 1 (List.drop (off4+0) row4)) =([iD n4]:List D))∧(a_f l)∧∃s6:D,∃i5 off5:Nat,(l=(.el s6 i5 off5:D))∧∃row5:List D,(Row Z s6 i5 row5)∧∃n5:Int,((List.take 1 (List.drop (off5+1) row5)) =([iD n5]:List D))∧Qp (.a (bA (n4 == n5))) Z) (Qp (.a (bA false)) Z))
theorem a_ba (d l:D)(s:Int)(σ:Store)(Qp:RV→Store→Prop)(h:a_ax d l s σ Qp) :DCalls Tryz.prog h_9 [.one d, .one l,iA s] σ Qp:=
 a_a mixed (by kernel_rfl) Tryz.func117 y_r (Eq.mp (by kernel_rfl) h)
def n_5:Ann:= { draws:= [(1,{ ord:= [0,1,2,3,4,5,6,7,8,9,10,11],nb:= [],av:= [],dir:= [] }),(8,{ ord:= [0,1,2,3,4,5,6,7,8,9,10,11],nb:= [],av:= [],dir:= [] }),(12,{ ord:= [0,1,2,3,4,5,6,7,8,9,10,11,12],nb:= [],av:= [],dir:= [] })],joins:= [(12,{ mods:= [],keep:= [0,1,4] })] }
def p_p (x:D)(r:Int)(σ:Store)(Qp:RV→Store→Prop) :Prop:=
 (a_f x)∧∃s:D,∃i off:Nat,(x=(.el s i off:D))∧∃row:List D,(Row σ s i row)∧∃d:D,((List.take 1 (List.drop ((off+13) +1) row)) =([d]:List D))∧∃len:Nat,(Idx Tryz.prog σ d 4 len)∧((0:Int)≤r)∧(r < (len:Int))∧∃row1:List D,(Row σ d (Int.toNat r) row1)∧∃n:Int,((List.take 1 (List.drop 1 row1)) =([iD n]:List D))∧(a_f x)∧∃s1:D,∃i1 off1:Nat,(x=(.el s1 i1 off1:D))∧∃row2:List D,(Row σ s1 i1 row2)∧∃n1:Int,((List.take 1 (List.drop (((off1+4) +5) +2) row2)) =([iD n1]:List D))∧(a_f x)∧∃s2:D,∃i2 off2:Nat,(x=(.el s2 i2 off2:D))∧∃row3:List D,(Row σ s2 i2 row3)∧∃n2:Int,((List.take 1 (List.drop (off2+20) row3)) =([iD n2]:List D))∧a_b (decide (n2 < (w64 (n+n1)))) (Qp (.tup []) σ) (∀R:Store→Prop,(∀Z,(∃row4:List D,(Row Z d (Int.toNat r) row4)∧∃n3:Int,((List.take 1 (List.drop 2 row4)) =([iD n3]:List D))∧(a_f x)∧∃s3:D,∃i3 off3:Nat,(x=(.el s3 i3 off3:D))∧∃row5:List D,(Row Z s3 i3 row5)∧∃d1:D,((List.take 1 (List.drop (off3+22) row5)) =([d1]:List D))∧∃len1:Nat,(Idx Tryz.prog Z d1 1 len1)∧((0:Int)≤r)∧(r < (len1:Int))∧∃row6:List D,(Row Z d1 (Int.toNat r) row6)∧∃d2:D,((List.take 1 row6) =([d2]:List D))∧∃len2:Nat,(Len d2 len2)∧a_b (n3 ==(len2:Int)) (DCalls Tryz.prog g_4 [.one x,iA r] Z (fun r1 Z1=>(r1=(.tup []:RV))∧Qp (.tup []) Z1)) (Qp (.tup []) Z))→R Z)→(a_f x)∧∃s3:D,∃i3 off3:Nat,(x=(.el s3 i3 off3:D))∧∃row4:List D,(Row σ s3 i3 row4)∧∃d1:D,((List.take 1 (List.drop (off3+22) row4)) =([d1]:List D))∧∃len1:Nat,(Idx Tryz.prog σ d1 1 len1)∧((0:Int)≤r)∧(r < (len1:Int))∧∃row5:List D,(Row σ d1 (Int.toNat r) row5)∧∃d2:D,((List.take 1 row5) =([d2]:List D))∧∃row6:List D,(Row σ d (Int.toNat r) row6)∧∃n3:Int,((List.take 1 (List.drop 2 row6)) =([iD n3]:List D))∧∃len2:Nat,(Len d2 len2)∧a_b (decide (n3 < (len2:Int))) (∃row7:List D,(Row σ d (Int.toNat r) row7)∧∃n4:Int,((List.take 1 (List.drop 2 row7)) =([iD n4]:List D))∧∃len3:Nat,(Idx Tryz.prog σ d2 1 len3)∧((0:Int)≤n4)∧(n4 < (len3:Int))∧∃row8:List D,(Row σ d2 (Int.toNat n4) row8)∧∃n5:Int,((List.take 1 row8) =([iD n5]:List D))∧(a_f x)∧∃s4:D,∃i4 off4:Nat,(x=(.el s4 i4 off4:D))∧∃row9:List D,(Row σ s4 i4 row9)∧∃d3:D,((List.take 1 (List.drop ((off4+13) +0) row9)) =([d3]:List D))∧∃len4:Nat,(Idx Tryz.prog σ d3 1 len4)∧((0:Int)≤n5)∧(n5 < (len4:Int))∧∃row10:List D,(Row σ d3 (Int.toNat n5) row10)∧∃n6:Int,((List.take 1 row10) =([iD n6]:List D))∧a_b (n6 !=(w64 (r+1))) (∃row11:List D,(Row σ d (Int.toNat r) row11)∧∃n7:Int,((List.take 1 (List.drop 2 row11)) =([iD n7]:List D))∧a_j [iD (w64 (n7+1))] σ d (Int.toNat r) 2 (fun Z=>R Z)) ((a_f x)∧∃s5:D,∃i5 off5:Nat,(x=(.el s5 i5 off5:D))∧∃row11:List D,(Row σ d (Int.toNat r) row11)∧∃n7:Int,((List.take 1 (List.drop 3 row11)) =([iD n7]:List D))∧Fw.newObj σ (.live a_h [[iD (w64 (n+n1))],[iD n7]]) (fun id Z=>DCalls Tryz.prog f_6 [.one (.el s5 i5 (off5+0)),iA n5, .one (.osl id 0 2)] Z (fun r1 Z1=>∃b:Bool,(r1=(.a (bA b) :RV))∧a_b b (DCalls Tryz.prog c_7 [.one x,iA n5] Z1 (fun r2 Z2=>(r2=(.tup []:RV))∧∃row12:List D,(Row Z2 d (Int.toNat r) row12)∧∃n8:Int,((List.take 1 (List.drop 2 row12)) =([iD n8]:List D))∧a_j [iD (w64 (n8+1))] Z2 d (Int.toNat r) 2 (fun Z3=>(a_f x)∧∃s6:D,∃i6 off6:Nat,(x=(.el s6 i6 off6:D))∧∃row13:List D,(Row Z3 s6 i6 row13)∧∃n9:Int,((List.take 1 (List.drop (off6+20) row13)) =([iD n9]:List D))∧a_j [iD n9] Z3 d (Int.toNat r) 3 (fun Z4=>R Z4)))) (R Z1))))) (R σ))
theorem p_6 (x:D)(r:Int)(σ:Store)(Qp:RV→Store→Prop)(h:p_p x r σ Qp) :DCalls Tryz.prog b_0 [.one x,iA r] σ Qp:=
 a_a mixed (by kernel_rfl) Tryz.func121 n_5 (Eq.mp (by kernel_rfl) h)
def q_e:Ann:= { loops:= [(3,{ mods:= [(5,s6),(13,s6)],keep:= [11,12] })] }
def t_o (r:D)(n:Int)(σ:Store)(Qp:RV→Store→Prop) :Prop:=
 DCalls Tryz.prog g_6 [.one r,iA 0,iA n] σ (fun r1 Z=>∃s:ByteArray,(r1=(.a (.one (.str s)) :RV))∧∃len:Nat,(Len (.sl 1 (d_a s)) len)∧∃I:Int→Int→Store→Prop,∃μ:Int→Int→Store→Nat,(I 0 0 Z)∧∀n1 n2:Int,∀Z1,(I n1 n2 Z1)→a_b (decide (n2 < (len:Int))) (∃len1:Nat,(Idx Tryz.prog Z1 (.sl 1 (d_a s)) 1 len1)∧((0:Int)≤n2)∧(n2 < (len1:Int))∧∃row:List D,(Row Z1 (.sl 1 (d_a s)) (Int.toNat n2) row)∧∃n3:Int,((List.take 1 row) =([.int .u8 n3]:List D))∧(I (w64 (BitVec.toNat ((BitVec.ofInt 64 (w64 (n1 * (2 ^ 8)))) ||| (BitVec.ofInt 64 (w64 n3))) :Int)) (w64 (n2+1)) Z1)∧((μ (w64 (BitVec.toNat ((BitVec.ofInt (IntKind.bits .i64) (w64 (n1 * (2 ^ (Min.min (Int.toNat 8) (IntKind.bits .i64)))))) ||| (BitVec.ofInt (IntKind.bits .i64) (w64 n3))) :Int)) (w64 (n2+1)) Z1) < (μ n1 n2 Z1))) (Qp (.a (iA n1)) Z1))
theorem s_3 (r:D)(n:Int)(σ:Store)(Qp:RV→Store→Prop)(h:t_o r n σ Qp) :DCalls Tryz.prog c_6 [.one r,iA n] σ Qp:=
 a_a mixed (by kernel_rfl) Tryz.func125 q_e (Eq.mp (by kernel_rfl) h)
def u_5:Ann:= { cbs:= [2,3],draws:= [(3,{ ord:= [0,1,2,3,4,6,7,5,8,9,10,11],nb:= [1,2,7],av:= [],dir:= [] }),(5,{ ord:= [0,1,2,3,4,5,6,7],nb:= [1],av:= [],dir:= [] })] }
def y_2 (p0 p1 p2 p3 p4:D)(p5 p6 p7 p8 r0 r1:Int)(r2 r3 r4:D)(r5:Bool)(σ:Store)(Qp:RV→Store→Prop) :Prop:=
 DCalls Tryz.prog i_d [.agg [p0,p1,p2,p3,p4,iD p5,iD p6,iD p7,iD p8], .agg [iD r0,iD r1,r2,r3,r4, .bool r5]] σ (fun r Z=>∃b:Bool,(r=(.a (bA b) :RV))∧a_b (!b) (Qp (.a (iA 9)) Z) (DCalls Tryz.prog c_x [.agg [p0,p1,p2,p3,p4,iD p5,iD p6,iD p7,iD p8], .agg [iD r0,iD r1,r2,r3,r4, .bool r5]] Z (fun r6 Z1=>∃n:Int,(r6=(.a (iA n) :RV))∧DCalls Tryz.prog h_y [.agg [p0,p1,p2,p3,p4,iD p5,iD p6,iD p7,iD p8],iA n, .one r2] Z1 (fun r7 Z2=>∃d:D,(r7=(.a (.one d) :RV))∧DCalls Tryz.prog g_d [.one r3, .one d] Z2 (fun r8 Z3=>∃b1:Bool,(r8=(.a (bA b1) :RV))∧a_b (!b1) (Qp (.a (iA 10)) Z3) (DCalls Tryz.prog g_e [.agg [p0,p1,p2,p3,p4,iD p5,iD p6,iD p7,iD p8], .agg [iD r0,iD r1,r2,r3,r4, .bool r5]] Z3 (fun r9 Z4=>∃d1:D,(r9=(.a (.one d1) :RV))∧DCalls Tryz.prog h_c [.one r4, .one d1] Z4 (fun r10 Z5=>∃b2:Bool,(r10=(.a (bA b2) :RV))∧a_b (!b2) (Qp (.a (iA 11)) Z5) (Qp (.a (iA 0)) Z5)))))))))
theorem x_l (p0 p1 p2 p3 p4:D)(p5 p6 p7 p8 r0 r1:Int)(r2 r3 r4:D)(r5:Bool)(σ:Store)(Qp:RV→Store→Prop)(h:y_2 p0 p1 p2 p3 p4 p5 p6 p7 p8 r0 r1 r2 r3 r4 r5 σ Qp) :DCalls Tryz.prog h_q [.agg [p0,p1,p2,p3,p4,iD p5,iD p6,iD p7,iD p8], .agg [iD r0,iD r1,r2,r3,r4, .bool r5]] σ Qp:=
 a_a mixed (by kernel_rfl) Tryz.func129 u_5 (Eq.mp (by kernel_rfl) h)
def a_n6:Ann:= { loops:= [(2,{ mods:= [(15,s6)],keep:= [1,2,13,14] })] }
def a_p9 (kind in_ out_:Int)(σ:Store)(Qp:RV→Store→Prop) :Prop:=
 DCalls Tryz.prog l_r [iA kind] σ (fun r Z=>∃d:D,(r=(.a (.one d) :RV))∧∃len:Nat,(Len d len)∧∃I:Int→Store→Prop,∃μ:Int→Store→Nat,(I 0 Z)∧∀n:Int,∀Z1,(I n Z1)→a_b (decide (n < (len:Int))) (∃len1:Nat,(Idx Tryz.prog Z1 d 3 len1)∧((0:Int)≤n)∧(n < (len1:Int))∧∃row:List D,(Row Z1 d (Int.toNat n) row)∧∃n1 n2 n3:Int,((List.take 3 row) =([iD n1,iD n2,iD n3]:List D))∧DCalls Tryz.prog i_b [.agg [iD n1,iD n2,iD n3],iA in_] Z1 (fun r1 Z2=>∃n4:Int,∃b:Bool,(r1=(.tup [iA n4,bA b]:RV))∧a_b b (a_b (n4 == out_) (Qp (.tup [iA n3,bA true]) Z2) ((I (w64 (n+1)) Z2)∧((μ (w64 (n+1)) Z2) < (μ n Z1)))) ((I (w64 (n+1)) Z2)∧((μ (w64 (n+1)) Z2) < (μ n Z1))))) (Qp (.tup [iA 0,bA false]) Z1))
theorem a_re (kind in_ out_:Int)(σ:Store)(Qp:RV→Store→Prop)(h:a_p9 kind in_ out_ σ Qp) :DCalls Tryz.prog o_5 [iA kind,iA in_,iA out_] σ Qp:=
 a_a mixed (by kernel_rfl) Tryz.func133 a_n6 (Eq.mp (by kernel_rfl) h)
def a_bi:Ann:= { cbs:= [2],draws:= [(3,{ ord:= [0,1,2,3,4,5,6,7,8],nb:= [],av:= [],dir:= [] })] }
def a_dj (c0 c1 c2 c3 c4:D)(c5 c6 c7 c8 r:Int)(σ:Store)(Qp:RV→Store→Prop) :Prop:=
 a_b (decide (r < 0)) (Qp (.a (iA (-1))) σ) (∃len:Nat,(Len c4 len)∧a_b (decide (r≥(len:Int))) (Qp (.a (iA (-1))) σ) (∃len1:Nat,(Idx Tryz.prog σ c4 6 len1)∧((0:Int)≤r)∧(r < (len1:Int))∧∃row:List D,(Row σ c4 (Int.toNat r) row)∧∃n n1:Int,∃d d1 d2:D,∃b:Bool,((List.take 6 row) =([iD n,iD n1,d,d1,d2, .bool b]:List D))∧DCalls Tryz.prog c_x [.agg [c0,c1,c2,c3,c4,iD c5,iD c6,iD c7,iD c8], .agg [iD n,iD n1,d,d1,d2, .bool b]] σ (fun r1 Z=>∃n2:Int,(r1=(.a (iA n2) :RV))∧Qp (.a (iA n2)) Z)))
theorem a_cl (c0 c1 c2 c3 c4:D)(c5 c6 c7 c8 r:Int)(σ:Store)(Qp:RV→Store→Prop)(h:a_dj c0 c1 c2 c3 c4 c5 c6 c7 c8 r σ Qp) :DCalls Tryz.prog g_s [.agg [c0,c1,c2,c3,c4,iD c5,iD c6,iD c7,iD c8],iA r] σ Qp:=
 a_a mixed (by kernel_rfl) Tryz.func138 a_bi (Eq.mp (by kernel_rfl) h)
def n_m:Ann:= { draws:= [(1,{ ord:= [0,1,2,3,4,5,6,7,8,9,10,11],nb:= [],av:= [],dir:= [] })] }
def n_8 (s:Int)(a1 a2:D)(σ:Store)(Qp:RV→Store→Prop) :Prop:=
 ∃s1:D,∃i off:Nat,(a1=(.el s1 i off:D))∧∃row:List D,(Row σ s1 i row)∧∃d:D,((List.take 1 (List.drop off row)) =([d]:List D))∧(a_f d)∧∃s2:D,∃i1 off1:Nat,(d=(.el s2 i1 off1:D))∧∃row1:List D,(Row σ s2 i1 row1)∧∃d1:D,((List.take 1 (List.drop ((off1+13) +0) row1)) =([d1]:List D))∧∃len:Nat,(Idx Tryz.prog σ d1 1 len)∧((0:Int)≤s)∧(s < (len:Int))∧∃row2:List D,(Row σ d1 (Int.toNat s) row2)∧∃n:Int,((List.take 1 row2) =([iD n]:List D))∧∃s3:D,∃i2 off2:Nat,(a2=(.el s3 i2 off2:D))∧∃row3:List D,(Row σ s3 i2 row3)∧∃n1:Int,((List.take 1 (List.drop off2 row3)) =([iD n1]:List D))∧Qp (.a (.one (.bool (n !=(w64 (n1+1)))))) σ
theorem o_j (s:Int)(a1 a2:D)(σ:Store)(Qp:RV→Store→Prop)(h:n_8 s a1 a2 σ Qp) :DCalls Tryz.prog e_v [iA s, .one a1, .one a2] σ Qp:=
 a_a mixed (by kernel_rfl) Tryz.func142 n_m (Eq.mp (by kernel_rfl) h)
def u_a:Ann:= { loops:= [(1,{ mods:= [(13,s6)],keep:= [0,1,11,12] })] }
def w_i (x:D)(r:Int)(σ:Store)(Qp:RV→Store→Prop) :Prop:=
 (a_f x)∧∃s:D,∃i off:Nat,(x=(.el s i off:D))∧∃row:List D,(Row σ s i row)∧∃d:D,((List.take 1 (List.drop ((off+13) +0) row)) =([d]:List D))∧∃len:Nat,(Len d len)∧∃I:Int→Store→Prop,∃μ:Int→Store→Nat,(I 0 σ)∧∀n:Int,∀Z,(I n Z)→a_b (decide (n < (len:Int))) (∃len1:Nat,(Idx Tryz.prog Z d 1 len1)∧((0:Int)≤n)∧(n < (len1:Int))∧∃row1:List D,(Row Z d (Int.toNat n) row1)∧∃n1:Int,((List.take 1 row1) =([iD n1]:List D))∧a_b (n1 ==(w64 (r+1))) (DCalls Tryz.prog c_7 [.one x,iA n] Z (fun r1 Z1=>(r1=(.tup []:RV))∧(I (w64 (n+1)) Z1)∧((μ (w64 (n+1)) Z1) < (μ n Z)))) ((I (w64 (n+1)) Z)∧((μ (w64 (n+1)) Z) < (μ n Z)))) (DCalls Tryz.prog e_c [.one x,iA r] Z (fun r1 Z1=>∃d1:D,(r1=(.a (.one d1) :RV))∧∃b:Bool,(h_6 .pt d1 b)∧a_b (b != true) ((a_f d1)∧∃s1:D,∃i1 off1:Nat,(d1=(.el s1 i1 off1:D))∧∃row1:List D,(Row Z1 s1 i1 row1)∧∃n1:Int,((List.take 1 (List.drop (off1+0) row1)) =([iD n1]:List D))∧(a_f d1)∧∃s2:D,∃i2 off2:Nat,(d1=(.el s2 i2 off2:D))∧a_j [iD n1] Z1 s2 i2 (off2+1) (fun Z2=>(a_f x)∧∃s3:D,∃i3 off3:Nat,(x=(.el s3 i3 off3:D))∧∃row2:List D,(Row Z2 s3 i3 row2)∧∃d2:D,((List.take 1 (List.drop ((off3+13) +1) row2)) =([d2]:List D))∧∃len1:Nat,(Idx Tryz.prog Z2 d2 4 len1)∧((0:Int)≤r)∧(r < (len1:Int))∧a_j [iD 0,iD 0,iD 0,iD 0] Z2 d2 (Int.toNat r) 0 (fun Z3=>(a_f x)∧∃s4:D,∃i4 off4:Nat,(x=(.el s4 i4 off4:D))∧a_j [.bool true] Z3 s4 i4 ((off4+13) +6) (fun Z4=>Qp (.tup []) Z4)))) ((a_f x)∧∃s1:D,∃i1 off1:Nat,(x=(.el s1 i1 off1:D))∧∃row1:List D,(Row Z1 s1 i1 row1)∧∃d2:D,((List.take 1 (List.drop ((off1+13) +1) row1)) =([d2]:List D))∧∃len1:Nat,(Idx Tryz.prog Z1 d2 4 len1)∧((0:Int)≤r)∧(r < (len1:Int))∧a_j [iD 0,iD 0,iD 0,iD 0] Z1 d2 (Int.toNat r) 0 (fun Z2=>(a_f x)∧∃s2:D,∃i2 off2:Nat,(x=(.el s2 i2 off2:D))∧a_j [.bool true] Z2 s2 i2 ((off2+13) +6) (fun Z3=>Qp (.tup []) Z3)))))
theorem v_m (x:D)(r:Int)(σ:Store)(Qp:RV→Store→Prop)(h:w_i x r σ Qp) :DCalls Tryz.prog g_4 [.one x,iA r] σ Qp:=
 a_a mixed (by kernel_rfl) Tryz.func146 u_a (Eq.mp (by kernel_rfl) h)
def a_dr:Ann:= { }
def a_ei (n lo hi:Int)(σ:Store)(Qp:RV→Store→Prop) :Prop:=
 a_b (decide (lo≤n)) (Qp (.a (.one (.bool (decide (n≤hi))))) σ) (Qp (.a (bA false)) σ)
theorem a_e9 (n lo hi:Int)(σ:Store)(Qp:RV→Store→Prop)(h:a_ei n lo hi σ Qp) :DCalls Tryz.prog d_p [iA n,iA lo,iA hi] σ Qp:=
 a_a mixed (by kernel_rfl) Tryz.func150 a_dr (Eq.mp (by kernel_rfl) h)
def x_d:Ann:= { cbs:= [2,3],loops:= [(7,{ mods:= [(5,SlotSh.bx [Sh.int IntKind.i64,Sh.int IntKind.i64]),(63,s6)],keep:= [2,3,7,8,9,61,62] })],joins:= [(5,{ mods:= [],keep:= [2,3,5,7,8] }),(18,{ mods:= [(5,SlotSh.bx [Sh.int IntKind.i64,Sh.int IntKind.i64])],keep:= [2,3,7,8,9,61,62,63] }),(16,{ mods:= [(20,SlotSh.one (Sh.bool))],keep:= [2,3,5,7,8,9,11,12,13,14,15,18,19,61,62,63] })] }
def a_aw (p0 p1 p2 p3 p4:D)(p5 p6 p7 p8 r0 r1:Int)(r2 r3 r4:D)(r5:Bool)(σ:Store)(Qp:RV→Store→Prop) :Prop:=
 DCalls Tryz.prog c_p [.agg [p0,p1,p2,p3,p4,iD p5,iD p6,iD p7,iD p8],iA r0] σ (fun r Z=>∃n n1:Int,∃b:Bool,(r=(.tup [.agg [iD n,iD n1],bA b]:RV))∧DCalls Tryz.prog c_p [.agg [p0,p1,p2,p3,p4,iD p5,iD p6,iD p7,iD p8],iA r1] Z (fun r6 Z1=>∃n2 n3:Int,∃b1:Bool,(r6=(.tup [.agg [iD n2,iD n3],bA b1]:RV))∧∀R:Store→Prop,(∀Z2,(Fw.newObj Z2 (.mp 0 []) (fun id Z3=>MPut Tryz.prog a_h Z3 (.omap id) (iA n) (iA 1) (fun Z4=>∃len:Nat,(Len r2 len)∧∃I:Int→Int→Int→Store→Prop,∃μ:Int→Int→Int→Store→Nat,(I n n1 0 Z4)∧∀n4 n5 n6:Int,∀Z5,(I n4 n5 n6 Z5)→a_b (decide (n6 < (len:Int))) (∀R1:Int→Int→Store→Prop,(∀n7 n8:Int,∀Z6,((([[iD n2,iD n3]]:List (List D)) =([[iD n2,iD n3]]:List (List D)))∧(I n7 n8 (w64 (n6+1)) Z6)∧((μ n7 n8 (w64 (n6+1)) Z6) < (μ n4 n5 n6 Z5)))→R1 n7 n8 Z6)→∃len1:Nat,(Idx Tryz.prog Z5 r2 3 len1)∧((0:Int)≤n6)∧(n6 < (len1:Int))∧∃row:List D,(Row Z5 r2 (Int.toNat n6) row)∧∃n7 n8 n9:Int,((List.take 3 row) =([iD n7,iD n8,iD n9]:List D))∧DCalls Tryz.prog f_m [.one p1,iA n4,iA n5] Z5 (fun r7 Z6=>∃n10 n11:Int,∃b2:Bool,(r7=(.tup [iA n10,iA n11,bA b2]:RV))∧DCalls Tryz.prog b_v [.agg [p0,p1,p2,p3,p4,iD p5,iD p6,iD p7,iD p8],iA n10] Z6 (fun r8 Z7=>∃n12 n13 n14:Int,∃b3:Bool,(r8=(.tup [.agg [iD n12,iD n13,iD n14],bA b3]:RV))∧DCalls Tryz.prog o_5 [iA n12,iA n8,iA n9] Z7 (fun r9 Z8=>∃n15:Int,∃b4:Bool,(r9=(.tup [iA n15,bA b4]:RV))∧∃r10:Option A,(i_3 Tryz.prog a_h Z8 (.omap id) (iA n10) r10)∧∃n16:Int,((Option.getD r10 (iA 0)) =(iA n16:A))∧MPut Tryz.prog a_h Z8 (.omap id) (iA n10) (.one (iD (w64 (n16+1)))) (fun Z9=>DCalls Tryz.prog d_7 [.one p2, .agg [iD n7,iD n9]] Z9 (fun r11 Z10=>∃b5:Bool,(r11=(.a (bA b5) :RV))∧∀R2:Bool→Store→Prop,(∀b6:Bool,∀Z11,(a_b (!b2) (Qp (.a (bA false)) Z11) (a_b (n10 != n7) (Qp (.a (bA false)) Z11) (a_b (n11 != n8) (Qp (.a (bA false)) Z11) (a_b (!b4) (Qp (.a (bA false)) Z11) (∃r12:Option A,(i_3 Tryz.prog a_h Z11 (.omap id) (iA n10) r12)∧∃n17:Int,((Option.getD r12 (iA 0)) =(iA n17:A))∧a_b (decide (n17 > 1)) (Qp (.a (bA false)) Z11) (a_b b5 (a_b (!b6) (Qp (.a (bA false)) Z11) (a_b r5 (a_b (n14 != 0) (Qp (.a (bA false)) Z11) ((([[iD n2,iD n3]]:List (List D)) =([[iD n2,iD n3]]:List (List D)))∧R1 n7 n9 Z11)) ((([[iD n2,iD n3]]:List (List D)) =([[iD n2,iD n3]]:List (List D)))∧R1 n7 n9 Z11))) (a_b r5 (a_b (n14 != 0) (Qp (.a (bA false)) Z11) ((([[iD n2,iD n3]]:List (List D)) =([[iD n2,iD n3]]:List (List D)))∧R1 n7 n9 Z11)) ((([[iD n2,iD n3]]:List (List D)) =([[iD n2,iD n3]]:List (List D)))∧R1 n7 n9 Z11))))))))→R2 b6 Z11)→∃len2:Nat,(Len r2 len2)∧a_b (n6 ==(w64 ((len2:Int) - 1))) (a_b b1 ((([[iD n7,iD n9],[iD n2,iD n3],[iD n7,iD n8,iD n9],[iD n12,iD n13,iD n14]]:List (List D)) =([[iD n7,iD n9],[iD n2,iD n3],[iD n7,iD n8,iD n9],[iD n12,iD n13,iD n14]]:List (List D)))∧R2 ((n7 == n2) && (n9 == n3)) Z10) ((([[iD n7,iD n9],[iD n2,iD n3],[iD n7,iD n8,iD n9],[iD n12,iD n13,iD n14]]:List (List D)) =([[iD n7,iD n9],[iD n2,iD n3],[iD n7,iD n8,iD n9],[iD n12,iD n13,iD n14]]:List (List D)))∧R2 false Z10)) ((([[iD n7,iD n9],[iD n2,iD n3],[iD n7,iD n8,iD n9],[iD n12,iD n13,iD n14]]:List (List D)) =([[iD n7,iD n9],[iD n2,iD n3],[iD n7,iD n8,iD n9],[iD n12,iD n13,iD n14]]:List (List D)))∧R2 false Z10))))))) (a_b b1 (Qp (.a (.one (.bool ((n4 == n2) && (n5 == n3))))) Z5) (DCalls Tryz.prog f_m [.one p1,iA n4,iA n5] Z5 (fun r7 Z6=>∃n7 n8:Int,∃b2:Bool,(r7=(.tup [iA n7,iA n8,bA b2]:RV))∧Qp (.a (bA (!b2))) Z6))))))→R Z2)→a_b (!b) (Qp (.a (bA false)) Z1) (a_b (!b1) (a_b (r1 !=(-1)) (Qp (.a (bA false)) Z1) (∃len:Nat,(Len r2 len)∧DCalls Tryz.prog c_u [iA (len:Int),iA 1,iA 8] Z1 (fun r7 Z2=>∃b2:Bool,(r7=(.a (bA b2) :RV))∧a_b (!b2) (Qp (.a (bA false)) Z2) ((([[iD n,iD n1],[iD n2,iD n3]]:List (List D)) =([[iD n,iD n1],[iD n2,iD n3]]:List (List D)))∧R Z2)))) (∃len:Nat,(Len r2 len)∧DCalls Tryz.prog c_u [iA (len:Int),iA 1,iA 8] Z1 (fun r7 Z2=>∃b2:Bool,(r7=(.a (bA b2) :RV))∧a_b (!b2) (Qp (.a (bA false)) Z2) ((([[iD n,iD n1],[iD n2,iD n3]]:List (List D)) =([[iD n,iD n1],[iD n2,iD n3]]:List (List D)))∧R Z2))))))
theorem z_v (p0 p1 p2 p3 p4:D)(p5 p6 p7 p8 r0 r1:Int)(r2 r3 r4:D)(r5:Bool)(σ:Store)(Qp:RV→Store→Prop)(h:a_aw p0 p1 p2 p3 p4 p5 p6 p7 p8 r0 r1 r2 r3 r4 r5 σ Qp) :DCalls Tryz.prog i_d [.agg [p0,p1,p2,p3,p4,iD p5,iD p6,iD p7,iD p8], .agg [iD r0,iD r1,r2,r3,r4, .bool r5]] σ Qp:=
 a_a mixed (by kernel_rfl) Tryz.func154 x_d (Eq.mp (by kernel_rfl) h)
def s_6:Ann:= { draws:= [(6,{ ord:= [0,1,2,3,4,5,6,7,8],nb:= [],av:= [],dir:= [] })],loops:= [(4,{ mods:= [(13,s6)],keep:= [0,1,12] })] }
def v_6 (s1 s2:D)(σ:Store)(Qp:RV→Store→Prop) :Prop:=
 ∃len:Nat,(Len s1 len)∧∃len1:Nat,(Len s2 len1)∧a_b ((len:Int) !=(len1:Int)) (Qp (.a (bA false)) σ) (∃len2:Nat,(Len s1 len2)∧∃I:Int→Store→Prop,∃μ:Int→Store→Nat,(I 0 σ)∧∀n:Int,∀Z,(I n Z)→a_b (decide (n < (len2:Int))) (∃len3:Nat,(Idx Tryz.prog Z s1 1 len3)∧((0:Int)≤n)∧(n < (len3:Int))∧∃row:List D,(Row Z s1 (Int.toNat n) row)∧∃n1:Int,((List.take 1 row) =([iD n1]:List D))∧∃len4:Nat,(Idx Tryz.prog Z s2 1 len4)∧((0:Int)≤n)∧(n < (len4:Int))∧∃row1:List D,(Row Z s2 (Int.toNat n) row1)∧∃n2:Int,((List.take 1 row1) =([iD n2]:List D))∧a_b (n1 != n2) (Qp (.a (bA false)) Z) ((I (w64 (n+1)) Z)∧((μ (w64 (n+1)) Z) < (μ n Z)))) (Qp (.a (bA true)) Z))
theorem w_w (s1 s2:D)(σ:Store)(Qp:RV→Store→Prop)(h:v_6 s1 s2 σ Qp) :DCalls Tryz.prog h_c [.one s1, .one s2] σ Qp:=
 a_a mixed (by kernel_rfl) Tryz.func158 s_6 (Eq.mp (by kernel_rfl) h)
def m_d:Ann:= { loops:= [(2,{ mods:= [(8,s6)],keep:= [0,1,7] })] }
def n_w (s f:D)(σ:Store)(Qp:RV→Store→Prop) :Prop:=
 ∃len:Nat,(Len s len)∧∃I:Int→Store→Prop,∃μ:Int→Store→Nat,(I 0 σ)∧∀n:Int,∀Z,(I n Z)→a_b (decide (n < (len:Int))) (∃len1:Nat,(Idx Tryz.prog Z s 3 len1)∧((0:Int)≤n)∧(n < (len1:Int))∧∃row:List D,(Row Z s (Int.toNat n) row)∧∃n1 n2 n3:Int,((List.take 3 row) =([iD n1,iD n2,iD n3]:List D))∧∃f1:FuncId,∃a:List (Bool × (List D)),∃b:List (Bool × (List D)),∃as0':List A,∃bs:List A,(f=(.fn f1 a b:D))∧((f_p a) =(Option.some as0'))∧((f_p b) =(Option.some bs))∧DCalls Tryz.prog f1 (HAppend.hAppend (HAppend.hAppend as0' [.agg [iD n1,iD n2,iD n3]]) bs) Z (fun r Z1=>∃b1:Bool,(r=(.a (bA b1) :RV))∧a_b b1 (Qp (.a (iA n)) Z1) ((I (w64 (n+1)) Z1)∧((μ (w64 (n+1)) Z1) < (μ n Z))))) (Qp (.a (iA (-1))) Z)
theorem n_t (s f:D)(σ:Store)(Qp:RV→Store→Prop)(h:n_w s f σ Qp) :DCalls Tryz.prog e_i [.one s, .one f] σ Qp:=
 a_a mixed (by kernel_rfl) Tryz.func162 m_d (Eq.mp (by kernel_rfl) h)
def u_b:Ann:= { cbs:= [2] }
def v_o (p0 p1 p2 p3 p4:D)(p5 p6 p7 p8 x:Int)(σ:Store)(Qp:RV→Store→Prop) :Prop:=
 a_b (decide (x < 0)) (Qp (.tup [.agg [iD 0,iD 0],bA false]) σ) (∃len:Nat,(Len p2 len)∧a_b (decide (x≥(len:Int))) (Qp (.tup [.agg [iD 0,iD 0],bA false]) σ) (∃len1:Nat,(Idx Tryz.prog σ p2 2 len1)∧((0:Int)≤x)∧(x < (len1:Int))∧∃row:List D,(Row σ p2 (Int.toNat x) row)∧∃n n1:Int,((List.take 2 row) =([iD n,iD n1]:List D))∧Qp (.tup [.agg [iD n,iD n1],bA true]) σ))
theorem v_r (p0 p1 p2 p3 p4:D)(p5 p6 p7 p8 x:Int)(σ:Store)(Qp:RV→Store→Prop)(h:v_o p0 p1 p2 p3 p4 p5 p6 p7 p8 x σ Qp) :DCalls Tryz.prog c_p [.agg [p0,p1,p2,p3,p4,iD p5,iD p6,iD p7,iD p8],iA x] σ Qp:=
 a_a mixed (by kernel_rfl) Tryz.func168 u_b (Eq.mp (by kernel_rfl) h)
def q_y:Ann:= { cbs:= [2] }
def t_0 (n0 n1:Int)(a1:D)(σ:Store)(Qp:RV→Store→Prop) :Prop:=
 ∃s:D,∃i off:Nat,(a1=(.el s i off:D))∧∃row:List D,(Row σ s i row)∧∃n:Int,((List.take 1 (List.drop off row)) =([iD n]:List D))∧Qp (.a (bA (n0 == n))) σ
theorem t_d (n0 n1:Int)(a1:D)(σ:Store)(Qp:RV→Store→Prop)(h:t_0 n0 n1 a1 σ Qp) :DCalls Tryz.prog f_8 [.agg [iD n0,iD n1], .one a1] σ Qp:=
 a_a mixed (by kernel_rfl) Tryz.func172 q_y (Eq.mp (by kernel_rfl) h)
end Go.Proofs.YtdmfnhbmhkgemaaGreat
end
