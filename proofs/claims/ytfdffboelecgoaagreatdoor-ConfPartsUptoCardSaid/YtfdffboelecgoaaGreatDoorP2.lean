/-
  Proofs that the statement of this claim leans on: part 2.
-/
import Derived.Test.YtfdffboelecgoaaGreatDoorP1
set_option linter.unusedVariables false
set_option linter.unusedSimpArgs false
namespace Go.Fw
section
section
variable {df:List Deferred} {P:Program} {k0:Nat→Prop} {β0:Bk} {σ0:Store} {W0:World} {n:Nat} {k:Nat→Prop} {β:Bk} {γ:Nat→Nat}
 {tmps:Array Value} {W W':World} {env:Env} {σ σ':Store} {a:Act} {o:Oper} {Q:Exit→Act→World→Prop} {K:a_4}
theorem EntsOk.mono {k k':Nat→Prop}{β β':Bk}{W W':World}(hk:∀b,k b→k' b)(hb:∀i bi,β i=some bi→β' i=some bi)(hw:Keep k W W'){ents:List MapEntry}{es:List Ent}
   (h:EntsOk k β W ents es) :EntsOk k' β' W' ents es:=
 ⟨h.1,fun r e b ks vs h1 h2=>by obtain ⟨q0,q1,q2⟩:=h.2 r e b ks vs h1 h2;exact ⟨q0,q1.mono hk hb hw,q2.mono hk hb hw⟩⟩
theorem SRel.ents (h:SRel P k β W σ){i:Nat}{bi:BI}{clock:Nat}{es:List Ent}(hi:β i=some bi)(hs:σ i= .mp clock es) :
   ∃ents:Array MapEntry,W.heap[bi.blk]? =some (.map ents clock)∧EntsOk k β W ents.toList es∧bornOk clock es:=by
 obtain ⟨ents,h1,h2,h3,h4,h5⟩:=h.omap i bi clock es hi hs
 exact ⟨ents,h1,⟨by simpa using h2,fun r e b ks vs q1 q2=>h5 r e b ks vs (by simpa using q1) q2⟩,h3,h4⟩
theorem SRel.newMap (h:SRel P k β W σ){id:Nat}(hid:σ id= .free) :
   SRel P k (fun i=>if i=id then some ⟨W.heap.size,0,0⟩ else β i) { W with heap:=W.heap.push (.map #[] 0) } (σ.set id (.mp 0 []))∧
   Ghost k β σ W k (fun i=>if i=id then some ⟨W.heap.size,0,0⟩ else β i) (σ.set id (.mp 0 [])):=by
 have hg:=Grow.push W (.map #[] 0)
 have hβ:β id=none:=by
   cases hb:β id with
   | none=>rfl
   | some bi=>exact absurd hid ((h.dom id).1 (by rw[hb];rfl))
 have hbb:∀i bi,β i=some bi→(if i=id then some (⟨W.heap.size,0,0⟩ :BI) else β i) =some bi:=by
   intro i bi hi
   have:i≠id:=fun e=>by subst e;rw[hβ] at hi;cases hi
   simp[this,hi]
 have hkeep:Keep k W { W with heap:=W.heap.push (.map #[] 0) } :=fun b hb=>hg.block b (h.klt b hb)
 refine ⟨?_,⟨fun _ h=>h,fun _ h=> .inl h,hbb,fun i bi hi=>?_,fun i hi=>?_⟩⟩
 · exact {
     gl:=h.gl.mono (fun _ h=>h) hkeep
     fin:=by
       obtain ⟨N,hN⟩:=h.fin
       refine ⟨max N (id+1),fun i hi=>?_⟩
       rw[Store.set_ne _ _ (by omega)];exact hN i (by omega)
     dom:=fun i=>by
       by_cases he:i=id
       · subst he;rw[Store.set_same];simp
       · rw[Store.set_ne _ _ he];simp only[he,if_false];exact h.dom i
     klt:=fun b hb=>Nat.lt_of_lt_of_le (h.klt b hb) hg.size
     blt:=fun i bi hi=>by
       by_cases he:i=id
       · simp only[he,if_true,Option.some.injEq] at hi;subst hi;simp
       · simp only[he,if_false] at hi;exact Nat.lt_of_lt_of_le (h.blt i bi hi) hg.size
     inj:=fun i j bi bj hi hj hd hd' e=>by
       by_cases he:i=id
       · by_cases he':j=id
         · rw[he,he']
         · simp only[he,if_true,Option.some.injEq] at hi
           simp only[he',if_false] at hj
           subst hi
           have:=h.blt j bj hj
           simp at e;omega
       · simp only[he,if_false] at hi
         by_cases he':j=id
         · simp only[he',if_true,Option.some.injEq] at hj
           subst hj
           have:=h.blt i bi hi
           simp at e;omega
         · simp only[he',if_false] at hj
           rw[Store.set_ne _ _ he] at hd
           rw[Store.set_ne _ _ he'] at hd'
           exact h.inj i j bi bj hi hj hd hd' e
     notk:=fun i bi hi hd=>by
       by_cases he:i=id
       · simp only[he,if_true,Option.some.injEq] at hi;subst hi
         intro hk;have:=h.klt _ hk;simp at this
       · simp only[he,if_false] at hi
         rw[Store.set_ne _ _ he] at hd
         exact h.notk i bi hi hd
     obj:=fun i bi t' rows' hi hs=>by
       have he:i≠id:=by intro e;subst e;rw[Store.set_same] at hs;cases hs
       simp only[he,if_false] at hi
       rw[Store.set_ne _ _ he] at hs
       obtain ⟨arr',g1,g2,g3,g4,g5,g6,g7⟩:=h.obj i bi t' rows' hi hs
       refine ⟨arr',(hg.block _ (h.blt i bi hi)).trans g1,g2,g3,g4,g5,g6,fun r row j d hr' hj=>?_⟩
       obtain ⟨v,hv,hV'⟩:=g7 r row j d hr' hj
       exact ⟨v,hv,hV'.mono (fun _ h=>h) hbb hkeep⟩
     omap:=fun i bi clock es hi hs=>by
       by_cases he:i=id
       · subst he
         simp only[if_true,Option.some.injEq] at hi;subst hi
         rw[Store.set_same] at hs
         injection hs with e1 e2;subst e1 e2
         exact ⟨#[],by simp,rfl,by simp,by simp,fun r e b ks vs hr=>by simp at hr⟩
       · simp only[he,if_false] at hi
         rw[Store.set_ne _ _ he] at hs
         obtain ⟨ents,g1,g2,g3,g4,g5⟩:=h.omap i bi clock es hi hs
         refine ⟨ents,(hg.block _ (h.blt i bi hi)).trans g1,g2,g3,g4,fun r e b ks vs hr' he'=>?_⟩
         obtain ⟨q0,q1,q2⟩:=g5 r e b ks vs hr' he'
         exact ⟨q0,q1.mono (fun _ h=>h) hbb hkeep,q2.mono (fun _ h=>h) hbb hkeep⟩ }
 · by_cases he:i=id
   · simp only[he,if_true,Option.some.injEq] at hi;subst hi;exact .inr (.inl (Nat.le_refl _))
   · simp only[he,if_false] at hi;exact .inl hi
 · have he:i≠id:=by intro e;subst e;rw[hid] at hi;cases hi
   rw[Store.set_ne _ _ he];exact hi
def k_h (W:World)(r:Nat)(o:Obj) :World:= { W with heap:=W.heap.setIfInBounds r o }
theorem n_1 (W:World)(r:Nat)(o:Obj) :(k_h W r o).heap.size=W.heap.size:=by simp[k_h]
theorem i_0 (W:World)(r b:Nat)(o:Obj)(h:b≠r) :(k_h W r o).heap[b]? =W.heap[b]? :=by simp[k_h,Ne.symm h]
theorem a_ef {W:World}{r:Nat}{o':Obj}(o:Obj)(h:W.heap[r]? =some o') :(k_h W r o).heap[r]? =some o:=by
 have hlt:r < W.heap.size:=(Array.getElem?_eq_some_iff.1 h).1
 simp[k_h,hlt]
theorem SRel.setMap (h:SRel P k β W σ){id:Nat}{bi:BI}(hb:β id=some bi){clock clock':Nat}{es es':List Ent}(hl:σ id= .mp clock es){ents':Array MapEntry}
   (he:EntsOk k β W ents'.toList es') (hbo:bornOk clock' es') :SRel P k β (k_h W bi.blk (.map ents' clock')) (σ.set id (.mp clock' es')):=by
 have hnk:=h.notk id bi hb (by rw[hl];intro e;cases e)
 obtain ⟨ents,g1,_,_⟩:=h.ents hb hl
 have hkeep:Keep k W (k_h W bi.blk (.map ents' clock')):=fun b hb=>i_0 _ _ _ _ (fun e=>hnk (e ▸ hb))
 exact {
   gl:=h.gl.mono (fun _ h=>h) hkeep
   fin:=by
     obtain ⟨N,hN⟩:=h.fin
     refine ⟨max N (id+1),fun i hi=>?_⟩
     rw[Store.set_ne _ _ (by omega)];exact hN i (by omega)
   dom:=fun i=>by
     by_cases he:i=id
     · subst he;rw[Store.set_same];simp[hb]
     · rw[Store.set_ne _ _ he];exact h.dom i
   klt:=fun b hb=>by rw[n_1];exact h.klt b hb
   blt:=fun i bi hi=>by rw[n_1];exact h.blt i bi hi
   inj:=fun i j b1 b2 hi hj h1' h2' he=>by
     refine h.inj i j b1 b2 hi hj (fun hd=>h1' ?_) (fun hd=>h2' ?_) he
     · have hne:i≠id:=by intro e;subst e;rw[hl] at hd;cases hd
       rw[Store.set_ne _ _ hne];exact hd
     · have hne:j≠id:=by intro e;subst e;rw[hl] at hd;cases hd
       rw[Store.set_ne _ _ hne];exact hd
   notk:=fun i b1 hi hd=>h.notk i b1 hi (fun hd'=>hd (by
     have hne:i≠id:=by intro e;subst e;rw[hl] at hd';cases hd'
     rw[Store.set_ne _ _ hne];exact hd'))
   obj:=fun i b1 t' rows1 hi hs=>by
     have he:i≠id:=by intro e;subst e;rw[Store.set_same] at hs;cases hs
     rw[Store.set_ne _ _ he] at hs
     obtain ⟨arr2,g1,g2,g3,g4,g5,g6,g7⟩:=h.obj i b1 t' rows1 hi hs
     have hne:b1.blk≠bi.blk:=fun e=>he (h.inj i id b1 bi hi hb (by rw[hs];intro e;cases e) (by rw[hl];intro e;cases e) e)
     refine ⟨arr2,by rw[i_0 _ _ _ _ hne];exact g1,g2,g3,g4,g5,g6,fun q row' j d hq hj=>?_⟩
     obtain ⟨v,hv,hV⟩:=g7 q row' j d hq hj
     exact ⟨v,hv,hV.mono (fun _ h=>h) (fun _ _ h=>h) hkeep⟩
   omap:=fun i b1 clock1 es1 hi hs=>by
     by_cases hei:i=id
     · subst hei
       rw[Store.set_same] at hs
       injection hs with hs1 hs2
       subst hs1 hs2
       rw[hb] at hi;injection hi with hi;subst hi
       have he':=he.mono (fun _ h=>h) (fun _ _ h=>h) hkeep
       exact ⟨ents',a_ef _ g1,by simpa using he'.1,hbo.1,hbo.2,fun r e b ks vs q1 q2=>he'.2 r e b ks vs (by simpa using q1) q2⟩
     · rw[Store.set_ne _ _ hei] at hs
       obtain ⟨ents,g1,g2,g3,g4,g5⟩:=h.omap i b1 clock1 es1 hi hs
       have hne:b1.blk≠bi.blk:=fun e=>hei (h.inj i id b1 bi hi hb (by rw[hs];intro e;cases e) (by rw[hl];intro e;cases e) e)
       refine ⟨ents,by rw[i_0 _ _ _ _ hne];exact g1,g2,g3,g4,fun q e b ks vs hq he=>?_⟩
       obtain ⟨hbo,ha,hv⟩:=g5 q e b ks vs hq he
       exact ⟨hbo,ha.mono (fun _ h=>h) (fun _ _ h=>h) hkeep,hv.mono (fun _ h=>h) (fun _ _ h=>h) hkeep⟩ }
theorem RelX.setMap (h:RelX P k0 β0 σ0 W0 n k β γ tmps W env σ){id:Nat}{bi:BI}(hb:β id=some bi){clock clock':Nat}{es es':List Ent}(hl:σ id= .mp clock es){ents':Array MapEntry}
   (he:EntsOk k β W ents'.toList es') (hbo:bornOk clock' es') :RelX P k0 β0 σ0 W0 n k β γ tmps (k_h W bi.blk (.map ents' clock')) env (σ.set id (.mp clock' es')):=
 h.step (h.srel.setMap hb hl he hbo) ⟨fun _ h => h, fun _ h => .inl h, fun _ _ h => h, fun _ _ h => .inl h, fun j hj => by
     rw[Store.set_ne _ _ (by intro e;subst e;rw[hl] at hj;cases hj)];exact hj⟩
   ⟨rfl,rfl,rfl,by rw[n_1];exact Nat.le_refl _,fun b hbl hn=>i_0 _ _ _ _ (fun e=>hn id bi hb (by rw[hl];intro e;cases e) e.symm)⟩
theorem i_9 {r:Nat}{ents:Array MapEntry}{clock:Nat}(hb:W.heap[r]? =some (.map ents clock)) :(getObj r).run P W= .ok (.map ents clock) W:=MapKept.run_getObj_map hb
theorem l_v {r:Nat}{ents:Array MapEntry}{clock:Nat}(o:Obj)(hb:W.heap[r]? =some (.map ents clock)) :(setObj r o).run P W= .ok () (k_h W r o):=MapKept.run_setObj_map o hb
theorem s_i {t:TypeId}{x y:A}{v u:Value}(hx:f_c P t x=true)(hy:f_c P t y=true)(hv:VA k β W v x)(hu:VA k β W u y)(he:eqA x y=true) :v=u:=by
 have cell:∀{t:TypeId} {d d':D} {v u:Value},k_s P t d=true→k_s P t d'=true→V k β W v d→V k β W u d'→d_x d d'=true→v=u:=by
   intro t d d' v u h1 h2 hv hu he
   unfold k_s at h1 h2
   split at h1
   · rename_i hut
     rw[hut] at h2
     split at h2
     · rename_i e;injection e with e;injection e with e;subst e
       have h1:=of_decide_eq_true h1
       have h2:=of_decide_eq_true h2
       subst h1 h2
       rw[hv.inv_int,hu.inv_int]
       simp only[d_x,beq_iff_eq] at he
       rw[he]
     · rename_i e;cases e
     · rename_i e;cases e
     · cases h2
   · rename_i hut
     rw[hut] at h2
     split at h2
     · rename_i e;cases e
     · rw[hv.inv_bool,hu.inv_bool]
       simp only[d_x,beq_iff_eq] at he
       rw[he]
     · rename_i e;cases e
     · cases h2
   · rename_i hut
     rw[hut] at h2
     split at h2
     · rename_i e;cases e
     · rename_i e;cases e
     · rw[hv.inv_str,hu.inv_str]
       have h3:=he
       simp only[d_x] at h3
       rw[(MapKept.bytes_beq _ _).1 h3]
     · cases h2
   · cases h1
 rcases d_f hx with ⟨fs,cs,hut,rfl,hst,l1,kx⟩ | ⟨td,d,hut,hn,_,rfl,kx⟩ <;> rcases d_f hy with ⟨fs',ds,hu',rfl,hst',l2,ky⟩ | ⟨td',d',hu',hn',_,rfl,ky⟩
 · rw[hut] at hu';injection hu' with hu';injection hu' with hu';subst hu'
   obtain ⟨vs,rfl,hvl⟩:=hv
   obtain ⟨us,rfl,hul⟩:=hu
   congr 1
   apply Array.ext'
   have main:∀(L:List Field) (i:Nat) (as0 bs:List D) (vs us:List Value),l_e P L i as0=true→l_e P L i bs=true→VL k β W vs as0→VL k β W us bs→b_p as0 bs=true→vs=us:=by
     intro L
     induction L with
     | nil=>
       intro i as0 bs vs us h1 h2 hv hu _
       cases as0 with
       | cons=>simp[l_e] at h1
       | nil=>cases bs with
         | cons=>simp[l_e] at h2
         | nil=>
           have e1:=hv.1;have e2:=hu.1
           simp at e1 e2
           rw[e1,e2]
     | cons f L ih=>
       intro i as0 bs vs us h1 h2 hv hu he
       obtain ⟨x,xr,rfl,_,_,_,k1,r1⟩:=i_p h1
       obtain ⟨y,yr,rfl,_,_,_,k2,r2⟩:=i_p h2
       cases vs with
       | nil=>have:=hv.1;simp at this
       | cons v vs=>cases us with
         | nil=>have:=hu.1;simp at this
         | cons u us=>
           simp only[b_p,Bool.and_eq_true] at he
           have e1:=cell k1 k2 (hv.2 0 v x rfl rfl) (hu.2 0 u y rfl rfl) he.1
           have e2:=ih (i+1) xr yr vs us r1 r2 ⟨by simpa using hv.1,fun j w d q1 q2=>hv.2 (j+1) w d (by simpa using q1) (by simpa using q2)⟩ ⟨by simpa using hu.1,fun j w d q1 q2=>hu.2 (j+1) w d (by simpa using q1) (by simpa using q2)⟩ he.2
           rw[e1,e2]
   exact main fs.toList 0 cs ds _ _ kx ky hvl hul he
 · rw[hut] at hu';injection hu' with hu';exact absurd hu'.symm (hn' _)
 · rw[hut] at hu';injection hu' with hu';exact absurd hu' (hn _)
 · exact cell kx ky hv hu (by simpa[eqA,b_p,b_j] using he)
theorem a_ae {v:Value}(h:Instr.sameBits 10000 v v=true) :(Instr.keyThatStays v v).run P W= .ok v W:=by simp[Instr.keyThatStays,h]
theorem p_v {t:TypeId}{d:D}{v:Value}(m:Nat)(h:k_s P t d=true)(hv:V k β W v d) :Instr.sameBits m v v=true:=by
 unfold k_s at h
 split at h
 · rw[hv.inv_int];cases m <;> simp[Instr.sameBits]
 · rw[hv.inv_bool];cases m <;> simp[Instr.sameBits]
 · rw[hv.inv_str]
   have:∀s:ByteArray,(s == s) =true:=fun s=>(MapKept.bytes_beq s s).2 rfl
   cases m <;> simp[Instr.sameBits,this]
 · cases h
theorem p_q {t:TypeId}{x:A}{v:Value}(hx:f_c P t x=true)(hv:VA k β W v x) :Instr.sameBits 10000 v v=true:=by
 rcases d_f hx with ⟨fs,cs,hut,rfl,hst,l1,kx⟩ | ⟨td,d,hut,hn,_,rfl,kx⟩
 · obtain ⟨vs,rfl,hvl⟩:=hv
   rw[show (10000:Nat) =9999+1 from rfl]
   unfold Instr.sameBits
   simp only[beq_self_eq_true,Bool.true_and]
   have main:∀(L:List Field) (i:Nat) (as0:List D) (vs:List Value),l_e P L i as0=true→VL k β W vs as0→(vs.zip vs).all (fun x=>Instr.sameBits 9999 x.1 x.2) =true:=by
     intro L
     induction L with
     | nil=>
       intro i as0 vs h1 hv
       cases as0 with
       | cons=>simp[l_e] at h1
       | nil=>have e1:=hv.1;simp at e1;rw[e1];rfl
     | cons f L ih=>
       intro i as0 vs h1 hv
       obtain ⟨x,xr,rfl,_,_,_,k1,r1⟩:=i_p h1
       cases vs with
       | nil=>have:=hv.1;simp at this
       | cons v vs=>
         have e1:=p_v 9999 k1 (hv.2 0 v x rfl rfl)
         have e2:=ih (i+1) xr vs r1 ⟨by simpa using hv.1,fun j w d q1 q2=>hv.2 (j+1) w d (by simpa using q1) (by simpa using q2)⟩
         simp only[List.zip_cons_cons,List.all_cons,e1,Bool.true_and];exact e2
   exact main fs.toList 0 cs _ kx hvl
 · exact p_v 10000 kx hv
theorem l_c {t kt et:TypeId}(h:mapT P t=some (kt,et)) :P.underlying t=some (.map kt et):=by
 unfold mapT at h
 split at h
 · rename_i hu;simp only[Option.some.injEq,Prod.mk.injEq] at h;rw[h.1,h.2] at hu;exact hu
 · cases h
theorem a_nk {v:Value}{x:A}(h:aOfV v=some x) :VA k β W v x:=by
 cases v with
 | agg vs=>
   simp only[aOfV] at h
   cases hd:d_y vs.toList with
   | none=>rw[hd] at h;cases h
   | some ds=>rw[hd] at h;injection h with h;subst h;exact ⟨vs,rfl,g_h hd⟩
 | _=>
   simp only[aOfV,Option.map_eq_some_iff] at h
   obtain ⟨d,hd,rfl⟩:=h
   exact a_g2 hd
theorem z_n {t:TypeId}{z:A}(h:a_al P t=some z) :∃zv,(∀W:World,(zeroValue t).run P W= .ok zv W)∧∀(k:Nat→Prop) (β:Bk) (W:World),VA k β W zv z:=by
 unfold a_al at h
 split at h
 · rename_i i hi
   split at h
   · rename_i zv hz
     exact ⟨zv,fun W=>by simp[zeroValue,typeInfo,hi,hz],fun k β W=>a_nk h⟩
   · cases h
 · cases h
theorem a_f2 (hS:SRel P k β W σ){t kt et:TypeId}(hu:P.underlying t=some (.map kt et)){z:A}(hz:a_al P et=some z){m:D}{x:A}{r:Option A}(h:h_e P kt σ m x r){mv kv:Value}
   (hm:V k β W mv m) (hk:VA k β W kv x) (ok:Bool) :
   ∃u,(Instr.lookup t mv kv ok).run P W= .ok (if ok then .tuple #[u, .bool r.isSome] else u) W∧VA k β W u (r.getD z):=by
 obtain ⟨hko,hm'⟩:=h
 obtain ⟨zv,hzr,hzv⟩:=z_n hz
 have hchk:=fun em=>o_v (P:=P) (W:=W) hko hk em
 have hzr:=hzr W
 rcases hm' with ⟨rfl,rfl⟩ | ⟨id,clock,es,rfl,hs,hks,rfl⟩
 · cases hm with
   | nilm=>
     have hf:=(h_g hko hk (ents:= []) (es:= []) ⟨rfl,fun r e b ks vs h=>by simp at h⟩ (fun e he=>by cases he)).1 (by simp)
     refine ⟨zv,?_,hzv _ _ _⟩
     simp[Instr.lookup,run_underlying hu,hchk,hf,hzr]
 · cases hm with
   | omap _ bi hb=>
     obtain ⟨ents,g1,g2,g3⟩:=hS.ents hb hs
     have hg:=i_9 (P:=P) g1
     obtain ⟨f1,f2⟩:=h_g hko hk g2 hks
     rcases j_u x es with hn | ⟨j,e,hf⟩
     · have hf:=f1 hn
       refine ⟨zv,?_,by simp only[b_x,k_u hn];exact hzv _ _ _⟩
       simp only[b_x,k_u hn]
       simp[Instr.lookup,run_underlying hu,hg,hchk,hf,hzr]
     · obtain ⟨me,q1,q2⟩:=f2 j e hf
       refine ⟨me.val,?_,by simp only[b_x,i_8 hf];exact (g2.2 j me e.1 e.2.1 e.2.2 q1 hf.1).2.2⟩
       simp only[b_x,i_8 hf]
       simp[Instr.lookup,run_underlying hu,hg,hchk,q2]
theorem tup2 {u:Value}{b:Bool}{v:A}(hu:VA k β W u v) :VR k β W (.tuple #[u, .bool b]) (.tup [v, .one (.bool b)]):=by
 refine ⟨_,rfl,rfl,fun i w y hi hy=>?_⟩
 match i,hi,hy with
 | 0,hi,hy=>
   have e1:u=w:=by simpa using hi
   have e2:v=y:=by simpa using hy
   subst e1 e2;exact hu
 | 1,hi,hy=>
   have e1:Value.bool b=w:=by simpa using hi
   have e2:A.one (.bool b) =y:=by simpa using hy
   subst e1 e2;exact V.bool _
 | i+2,hi,hy=>simp at hi
theorem a_j1 (hd:∀d,o.dst=some d→d < n)(hdef:a.defers=df)(h:RelX P k0 β0 σ0 W0 n k β γ a.tmps W env σ)(t:TypeId)(m x:Operand)(ok:Bool)
   (hop:o.op= .lookup t m x ok) (hs:i_e P t ok (opE env m) (opE env x) σ fun e=>K (a_n env o.dst e) σ) :
   o.wp P a W (Out df P k0 β0 σ0 W0 n (Dst o) env K) Q:=by
 obtain ⟨hm,_⟩:=a_o h a rfl m 0
 obtain ⟨hx,_⟩:=a_o h a rfl x 0
 unfold i_e at hs
 split at hs
 · rename_i kt et md kd hmt hme hke
   rw[hme] at hm
   have hm:V k β W (a.eval m) md:=hm
   have hkv:=h_o hx hke
   split at hs
   · rename_i z hz
     obtain ⟨r,hl,hp⟩:=hs
     obtain ⟨v,hrv,hput⟩:=p_z hp
     obtain ⟨u,hrun,hval⟩:=a_f2 h.srel (l_c hmt) hz hl hm hkv ok
     rw[hrv] at hval
     have hrun':(execOp a.eval o).run P W= .ok (.value (if ok then .tuple #[u, .bool r.isSome] else u)) W:=by
       simp only[execOp,hop,Sem.run_bind,hrun];rfl
     cases ok with
     | false=>exact a_v (e:= .val v) hd hdef h hrun' (by rintro cs (h | h) <;> cases h) hval hput
     | true=>exact a_v (e:= .tup [v, .one (.bool r.isSome)]) hd hdef h hrun' (by rintro cs (h | h) <;> cases h) (tup2 hval) hput
   · exact hs.elim
 · exact hs.elim
theorem a_gb (hd:∀d,o.dst=some d→d < n)(hdef:a.defers=df)(h:RelX P k0 β0 σ0 W0 n k β γ a.tmps W env σ)(t:TypeId)(m:Option Operand)
   (hop:o.op= .makeMap t m) (hs:r_5 P t (m.toArray.toList.map (opE env)) σ fun e σ'=>K (a_n env o.dst e) σ') :
   o.wp P a W (Out df P k0 β0 σ0 W0 n (Dst o) env K) Q:=by
 have fin : (execOp a.eval o).run P W = .ok (.value (.map (some W.heap.size))) { W with heap := W.heap.push (.map #[] 0) } → (newObj σ (.mp 0 []) fun id σ' => K (a_n env o.dst (.val (.one (.omap id)))) σ') →
     o.wp P a W (Out df P k0 β0 σ0 W0 n (Dst o) env K) Q:=by
   intro hrun hK
   obtain ⟨id,hid⟩:=h.srel.someFree
   obtain ⟨hS,hG⟩:=h.srel.newMap hid
   have hX:=h.step hS hG (k_p β σ W _)
   refine c_u hrun (c_f (e:= .val (.one (.omap id))) hd hdef hX (by rintro cs (h | h) <;> cases h) ?_ (hK id hid))
   exact V.omap id ⟨W.heap.size,0,0⟩ (by simp)
 unfold r_5 at hs
 split at hs
 · rename_i p hmt hl
   cases m with
   | none=>
     refine fin ?_ hs
     simp[execOp,hop,Instr.makeMap] <;> rfl
   | some y=>simp at hl
 · rename_i p q i hmt hl
   cases m with
   | none=>simp at hl
   | some y=>
     have he:opE env y= .val (.one (.int q i)):=by simpa using hl
     obtain ⟨hy,_⟩:=a_o h a rfl y 0
     rw[he] at hy
     have hy:=V.inv_int hy
     obtain ⟨kt,et⟩:=p
     refine fin ?_ hs
     simp[execOp,hop,Instr.makeMap,run_underlying (l_c hmt),hy,asInt] <;> rfl
 · exact hs.elim
theorem bornOk.set {clock:Nat}{es:List Ent}(h:bornOk clock es){j:Nat}{e:Ent}(hj:es[j]? =some e)(x v:A) :bornOk clock (es.set j (e.1,x,v)):=by
 obtain ⟨h1,h2⟩:=h
 have hm:(es.set j (e.1,x,v)).map (·.1) =es.map (·.1):=by
   apply List.ext_getElem?
   intro i
   rw[List.map_set]
   by_cases hi:j=i
   · subst hi
     rw[List.getElem?_set]
     have hlt:=(List.getElem?_eq_some_iff.1 hj).1
     rw[List.getElem?_map,hj]
     simp[hlt]
   · rw[List.getElem?_set_ne hi]
 refine ⟨fun y hy=>?_,by rw[hm];exact h2⟩
 have:y.1 ∈ (es.set j (e.1,x,v)).map (·.1):=List.mem_map.2 ⟨y,hy,rfl⟩
 rw[hm] at this
 obtain ⟨w,hw,e1⟩:=List.mem_map.1 this
 rw[←e1];exact h1 w hw
theorem bornOk.push {clock:Nat}{es:List Ent}(h:bornOk clock es)(x v:A) :bornOk (clock+1) (es ++ [(clock,x,v)]):=by
 obtain ⟨h1,h2⟩:=h
 refine ⟨fun y hy=>?_,?_⟩
 · rcases List.mem_append.1 hy with hy | hy
   · exact Nat.lt_succ_of_lt (h1 y hy)
   · simp at hy;subst hy;exact Nat.lt_succ_self _
 · rw[List.map_append]
   refine List.nodup_append.2 ⟨h2,by simp,?_⟩
   intro b hb c hc
   obtain ⟨y,hy,rfl⟩:=List.mem_map.1 hb
   simp at hc;subst hc
   exact Nat.ne_of_lt (h1 y hy)
theorem EntsOk.set {ents:Array MapEntry}{es:List Ent}(h:EntsOk k β W ents.toList es){j:Nat}{me:MapEntry}{e:Ent}(hj:es[j]? =some e){x v:A}{kv u:Value}
   (hm:ents.toList[j]? =some me) (hk:VA k β W kv x) (hu:VA k β W u v) {f:MapEntry→MapEntry} (hf:f me= { key:=kv,val:=u,born:=me.born }) :
   EntsOk k β W (ents.modify j f).toList (es.set j (e.1,x,v)):=by
 refine ⟨by simpa using h.1,fun r m b ks vs h1 h2=>?_⟩
 rw[Array.getElem?_toList,Array.getElem?_modify] at h1
 rw[List.getElem?_set] at h2
 by_cases hr:j=r
 · subst hr
   have hlt:=(List.getElem?_eq_some_iff.1 hj).1
   have hm':ents[j]? =some me:=by simpa using hm
   simp only[if_true,hlt,Option.some.injEq,Prod.mk.injEq] at h2
   simp only[hm',if_true,Option.map_some,Option.some.injEq,hf] at h1
   obtain ⟨q1,q2,q3⟩:=h2
   subst h1 q1 q2 q3
   exact ⟨(h.2 j me e.1 e.2.1 e.2.2 hm hj).1,hk,hu⟩
 · simp only[hr,if_false] at h1 h2
   exact h.2 r m b ks vs (by simpa using h1) h2
theorem EntsOk.push {ents:Array MapEntry}{es:List Ent}(h:EntsOk k β W ents.toList es){x v:A}{kv u:Value}(c:Nat)(hk:VA k β W kv x)(hu:VA k β W u v) :
   EntsOk k β W (ents.push { key:=kv,val:=u,born:=c }).toList (es ++ [(c,x,v)]):=by
 refine ⟨by simp[h.1],fun r m b ks vs h1 h2=>?_⟩
 rw[Array.toList_push] at h1
 by_cases hr:r < es.length
 · rw[List.getElem?_append_left (by rw[h.1];exact hr)] at h1
   rw[List.getElem?_append_left hr] at h2
   exact h.2 r m b ks vs h1 h2
 · rw[List.getElem?_append_right (by rw[h.1];omega),h.1] at h1
   rw[List.getElem?_append_right (by omega)] at h2
   have h0:r - es.length=0:=by
     have:=(List.getElem?_eq_some_iff.1 h2).1
     simp at this;omega
   rw[h0] at h1 h2
   simp at h1 h2
   obtain ⟨q1,q2,q3⟩:=h2
   subst h1 q1 q2 q3
   exact ⟨rfl,hk,hu⟩
theorem a_ai (hd:∀d,o.dst=some d→d < n)(hdef:a.defers=df)(h:RelX P k0 β0 σ0 W0 n k β γ a.tmps W env σ)(t:TypeId)(m x y:Operand)
   (hrun:∀w',(Instr.mapUpdate t (a.eval m) (a.eval x) (a.eval y)).run P W= .ok () w'→(execOp a.eval o).run P W= .ok .skip w')
   (hs:c_l P t (opE env m) (opE env x) (opE env y) σ fun e σ'=>K (a_n env o.dst e) σ') :
   o.wp P a W (Out df P k0 β0 σ0 W0 n (Dst o) env K) Q:=by
 obtain ⟨hm,_⟩:=a_o h a rfl m 0
 obtain ⟨hx,_⟩:=a_o h a rfl x 0
 obtain ⟨hy,_⟩:=a_o h a rfl y 0
 unfold c_l at hs
 split at hs
 · rename_i kt et md kd vd hmt hme hke hve
   rw[hme] at hm
   have hm:V k β W (a.eval m) md:=hm
   have hkv:=h_o hx hke
   have hvv:=h_o hy hve
   obtain ⟨id,clock,es,⟨hko,rfl,hl,hks⟩,hK⟩:=hs.old
   generalize a.eval m=mv at hm hrun
   generalize a.eval x=kv at hkv hrun
   generalize a.eval y=yv at hvv hrun
   cases hm with
   | omap _ bi hb=>
     obtain ⟨ents,g1,g2,g3⟩:=h.srel.ents hb hl
     have hg:=i_9 (P:=P) g1
     have hst:=fun o=>l_v (P:=P) o g1
     have hchk:=o_v (P:=P) (W:=W) hko hkv false
     obtain ⟨f1,f2⟩:=h_g hko hkv g2 hks
     have hu:=l_c hmt
     rcases k_6 clock es kd vd with ⟨hn,e1,_,_⟩ | ⟨j,e,hf,e1,_,_⟩
     · rw[e1] at hK
       have hX:=h.setMap hb hl (g2.push clock hkv hvv) (g3.push kd vd)
       refine n_0 (hrun _ ?_) (c_f (e:= .undef) hd hdef hX (by rintro cs (h | h) <;> cases h) trivial hK)
       simp[Instr.mapUpdate,run_underlying hu,hg,hchk,f1 hn,hst]
     · rw[e1] at hK
       obtain ⟨me,q1,q2⟩:=f2 j e hf
       obtain ⟨b0,b1,b2⟩:=g2.2 j me e.1 e.2.1 e.2.2 q1 hf.1
       have hsame:=s_i hko (hks e (List.mem_of_getElem? hf.1)) hkv b1 hf.2.1
       have hstay:=a_ae (P:=P) (W:=W) (p_q hko hkv)
       have hX:=h.setMap hb hl (g2.set (f:=fun e=> { e with key:=kv,val:=yv }) hf.1 q1 hkv hvv rfl) (g3.set hf.1 kd vd)
       have q1':ents[j]? =some me:=by simpa using q1
       refine n_0 (hrun _ ?_) (c_f (e:= .undef) hd hdef hX (by rintro cs (h | h) <;> cases h) trivial hK)
       simp[Instr.mapUpdate,run_underlying hu,hg,hchk,q2,q1',←hsame,hstay,hst]
 · exact hs.elim
theorem a_de (hd:∀d,o.dst=some d→d < n)(hdef:a.defers=df)(h:RelX P k0 β0 σ0 W0 n k β γ a.tmps W env σ)(t:TypeId)(m x:Operand)
   (hop:o.op= .mapEntry t m x) (hs:o_q P t (opE env m) (opE env x) σ fun e σ'=>K (a_n env o.dst e) σ') :
   o.wp P a W (Out df P k0 β0 σ0 W0 n (Dst o) env K) Q:=by
 obtain ⟨hm,_⟩:=a_o h a rfl m 0
 obtain ⟨hx,_⟩:=a_o h a rfl x 0
 unfold o_q at hs
 split at hs
 · rename_i kt et md kd hmt hme hke
   rw[hme] at hm
   have hm:V k β W (a.eval m) md:=hm
   have hkv:=h_o hx hke
   split at hs
   · rename_i z hz
     obtain ⟨id,clock,es,⟨hko,rfl,hl,hks⟩,hK⟩:=hs
     obtain ⟨zv,hzr,hzv⟩:=z_n hz
     have hzr:=hzr W
     have hrun:∀u w',(Instr.mapEntry t (a.eval m) (a.eval x)).run P W= .ok u w'→(execOp a.eval o).run P W= .ok (.value u) w':=by
       intro u w' hr;simp only[execOp,hop,Sem.run_bind,hr];rfl
     generalize a.eval m=mv at hm hrun
     generalize a.eval x=kv at hkv hrun
     cases hm with
     | omap _ bi hb=>
       obtain ⟨ents,g1,g2,g3⟩:=h.srel.ents hb hl
       have hK:=hK g3
       have hg:=i_9 (P:=P) g1
       have hst:=fun o=>l_v (P:=P) o g1
       have hchk:=o_v (P:=P) (W:=W) hko hkv false
       obtain ⟨f1,f2⟩:=h_g hko hkv g2 hks
       have hu:=l_c hmt
       have tup:∀{k:Nat→Prop} {β:Bk} {W:World} {u:Value} {v:A} {b:Nat},VA k β W u v→VR k β W (.tuple #[u,goInt b]) (.tup [v, .one (.int .i64 b)]):=by
         intro k β W u v b hu
         refine ⟨_,rfl,rfl,fun i w y hi hy=>?_⟩
         match i,hi,hy with
         | 0,hi,hy=>
           have e1:u=w:=by simpa using hi
           have e2:v=y:=by simpa using hy
           subst e1 e2;exact hu
         | 1,hi,hy=>
           have e1:goInt b=w:=by simpa using hi
           have e2:A.one (.int .i64 b) =y:=by simpa using hy
           subst e1 e2;exact V.int _ _
         | i+2,hi,hy=>simp at hi
       rcases k_6 clock es kd ((b_x kd es).getD z) with ⟨hn,e1,e2,e3⟩ | ⟨j,e,hf,e1,e2,e3⟩
       · rw[e1,e2,e3] at hK
         have hX:=h.setMap hb hl (g2.push (v:=z) clock hkv (hzv _ _ _)) (g3.push kd z)
         refine c_u (hrun _ _ ?_) (c_f (v:= .tuple #[zv,goInt clock]) (e:= .tup [z, .one (.int .i64 clock)]) hd hdef hX (by rintro cs (h | h) <;> cases h) (tup (hzv _ _ _)) hK)
         simp[Instr.mapEntry,run_underlying hu,hg,hchk,f1 hn,hst,hzr]
       · rw[e1,e2,e3] at hK
         obtain ⟨me,q1,q2⟩:=f2 j e hf
         obtain ⟨b0,b1,b2⟩:=g2.2 j me e.1 e.2.1 e.2.2 q1 hf.1
         have hsame:=s_i hko (hks e (List.mem_of_getElem? hf.1)) hkv b1 hf.2.1
         have hstay:=a_ae (P:=P) (W:=W) (p_q hko hkv)
         have hX:=h.setMap hb hl (g2.set (f:=fun e=> { e with key:=kv }) hf.1 q1 hkv b2 rfl) (g3.set hf.1 kd e.2.2)
         have q1':ents[j]? =some me:=by simpa using q1
         refine c_u (hrun _ _ ?_) (c_f (v:= .tuple #[me.val,goInt e.1]) (e:= .tup [e.2.2, .one (.int .i64 e.1)]) hd hdef hX (by rintro cs (h | h) <;> cases h) (tup (b2.mono (fun _ h=>h) (fun _ _ h=>h) (fun b hkb=>i_0 _ _ _ _ (fun e=>by subst e;exact h.srel.notk id bi hb (by rw[hl];intro e;cases e) hkb)))) hK)
         simp[Instr.mapEntry,run_underlying hu,hg,hchk,q2,q1',←hsame,hstay,hst,b0]
   · exact hs.elim
 · exact hs.elim
theorem t_k {nn:Int}{v:A}{es:List Ent}(hnd:(es.map (·.1)).Nodup){j:Nat}{e:Ent}(hj:es[j]? =some e)(he:(e.1:Int) =nn) :n_c nn v es=es.set j (e.1,e.2.1,v):=by
 apply List.ext_getElem?
 intro i
 simp only[n_c,List.getElem?_map,List.getElem?_set]
 have hlt:=(List.getElem?_eq_some_iff.1 hj).1
 by_cases hi:j=i
 · subst hi
   simp only[hj,Option.map_some,if_true,hlt,he]
 · simp only[hi,if_false]
   cases hei:es[i]? with
   | none=>rfl
   | some e'=>
     have hne:(e'.1:Int)≠nn:=by
       intro hc
       have h1:(es.map (·.1))[j]? =some e.1:=by simp[hj]
       have h2:(es.map (·.1))[i]? =some e'.1:=by simp[hei]
       have hl1:j < (es.map (·.1)).length:=by simpa using hlt
       have hee:e'.1=e.1:=by omega
       rw[hee,←h1] at h2
       exact hi ((List.getElem?_inj hl1 hnd).1 h2.symm)
     simp[hne]
theorem y_w (hd:∀d,o.dst=some d→d < n)(hdef:a.defers=df)(h:RelX P k0 β0 σ0 W0 n k β γ a.tmps W env σ)(t:TypeId)(m s y:Operand)
   (hop:o.op= .entryStore t m s y) (hs:j_p (opE env m) (opE env s) (opE env y) σ fun e σ'=>K (a_n env o.dst e) σ') :
   o.wp P a W (Out df P k0 β0 σ0 W0 n (Dst o) env K) Q:=by
 obtain ⟨hm,_⟩:=a_o h a rfl m 0
 obtain ⟨hx,_⟩:=a_o h a rfl s 0
 obtain ⟨hy,_⟩:=a_o h a rfl y 0
 unfold j_p at hs
 split at hs
 · rename_i md nn vd hme hse hve
   rw[hme] at hm
   rw[hse] at hx
   have hm:V k β W (a.eval m) md:=hm
   have hx:=V.inv_int hx
   have hvv:=h_o hy hve
   obtain ⟨id,clock,es,rfl,hl,⟨e,hmem,hen⟩,hK⟩:=hs
   have hrun:∀w',(Instr.entryStore t (a.eval m) (a.eval s) (a.eval y)).run P W= .ok () w'→(execOp a.eval o).run P W= .ok .skip w':=by
     intro w' hr;simp only[execOp,hop,Sem.run_bind,hr];rfl
   generalize a.eval m=mv at hm hrun
   generalize a.eval y=yv at hvv hrun
   cases hm with
   | omap _ bi hb=>
     obtain ⟨ents,g1,g2,g3⟩:=h.srel.ents hb hl
     have hg:=i_9 (P:=P) g1
     have hst:=fun o=>l_v (P:=P) o g1
     obtain ⟨j,hj⟩:=List.mem_iff_getElem?.1 hmem
     have hjl:=(List.getElem?_eq_some_iff.1 hj).1
     have hjl':j < ents.toList.length:=by rw[g2.1];exact hjl
     have hme:ents.toList[j]? =some ents.toList[j]:=List.getElem?_eq_getElem hjl'
     generalize ents.toList[j]=me at hme
     obtain ⟨b0,b1,b2⟩:=g2.2 j me e.1 e.2.1 e.2.2 hme hj
     have hX:=h.setMap hb hl (g2.set (f:=fun e=> { e with val:=yv }) hj hme b1 hvv rfl) (g3.set hj e.2.1 vd)
     have hfind:ents.findIdx? (fun e=>(e.born:Int) == nn) =some j:=by
       rw[Array.findIdx?_eq_some_iff_getElem]
       have hjs:j < ents.size:=by simpa using hjl'
       have e0:ents[j]=me:=by
         have:ents[j]? =some me:=by simpa using hme
         rw[Array.getElem?_eq_getElem hjs] at this;injection this
       refine ⟨hjs,by rw[e0,b0];simpa using hen,fun i hi=>?_⟩
       have his:i < es.length:=by omega
       have hei:=List.getElem?_eq_getElem his
       have hmi:ents.toList[i]? =some ents[i]:=by simp[show i < ents.size by omega]
       obtain ⟨c0,_,_⟩:=g2.2 i ents[i] es[i].1 es[i].2.1 es[i].2.2 hmi hei
       rw[c0]
       simp only[beq_eq_false_iff_ne,ne_eq,Bool.not_eq_true]
       intro hc
       have h1:(es.map (·.1))[j]? =some e.1:=by simp[hj]
       have h2:(es.map (·.1))[i]? =some es[i].1:=by simp[his]
       have hl1:j < (es.map (·.1)).length:=by simpa using hjl
       have hee:es[i].1=e.1:=by omega
       rw[hee,←h1] at h2
       have:=(List.getElem?_inj hl1 g3.2).1 h2.symm
       omega
     rw[t_k g3.2 hj hen] at hK
     refine n_0 (hrun _ ?_) (c_f (e:= .undef) hd hdef hX (by rintro cs (h | h) <;> cases h) trivial hK)
     rw[hx]
     simp[Instr.entryStore,hg,asInt,asIntOf,hfind,hst]
 · exact hs.elim
theorem EntsOk.erase {ents:Array MapEntry}{es:List Ent}(h:EntsOk k β W ents.toList es)(j:Nat)(hj:j < es.length) :
   EntsOk k β W (ents.eraseIdxIfInBounds j).toList (es.eraseIdx j):=by
 have hjs:j < ents.size:=by have:=h.1;simp at this;omega
 have e1:(ents.eraseIdxIfInBounds j).toList=ents.toList.eraseIdx j:=by
   unfold Array.eraseIdxIfInBounds;simp[hjs]
 rw[e1]
 refine ⟨by rw[List.length_eraseIdx,List.length_eraseIdx,h.1],fun r m b ks vs h1 h2=>?_⟩
 rw[List.getElem?_eraseIdx] at h1 h2
 split at h1
 · rename_i hr;simp only[hr,if_true] at h2;exact h.2 r m b ks vs h1 h2
 · rename_i hr;simp only[hr,if_false] at h2;exact h.2 _ m b ks vs h1 h2
theorem bornOk.erase {clock:Nat}{es:List Ent}(h:bornOk clock es)(j:Nat) :bornOk clock (es.eraseIdx j):=by
 have hs:=List.eraseIdx_sublist es j
 exact ⟨fun y hy=>h.1 y (hs.subset hy),(hs.map _).nodup h.2⟩
theorem a_jg (hd:∀d,o.dst=some d→d < n)(hdef:a.defers=df)(h:RelX P k0 β0 σ0 W0 n k β γ a.tmps W env σ)(t t':TypeId)(m x:Operand)
   (hrun:∀v w',(Builtin.delete_ #[t,t'] o.type #[a.eval m,a.eval x]).run P W= .ok v w'→(execOp a.eval o).run P W= .ok (.value v) w')
   (hs:v_8 P t (opE env m) (opE env x) σ fun e σ'=>K (a_n env o.dst e) σ') :
   o.wp P a W (Out df P k0 β0 σ0 W0 n (Dst o) env K) Q:=by
 obtain ⟨hm,_⟩:=a_o h a rfl m 0
 obtain ⟨hx,_⟩:=a_o h a rfl x 0
 unfold v_8 at hs
 split at hs
 · rename_i kt et md kd hmt hme hke
   rw[hme] at hm
   have hm:V k β W (a.eval m) md:=hm
   have hkv:=h_o hx hke
   obtain ⟨id,clock,es,⟨hko,rfl,hl,hks⟩,hK⟩:=hs
   generalize a.eval m=mv at hm hrun
   generalize a.eval x=kv at hkv hrun
   cases hm with
   | omap _ bi hb=>
     obtain ⟨ents,g1,g2,g3⟩:=h.srel.ents hb hl
     have hg:=i_9 (P:=P) g1
     have hst:=fun o=>l_v (P:=P) o g1
     have hchk:=fun em=>o_v (P:=P) (W:=W) hko hkv em
     obtain ⟨f1,f2⟩:=h_g hko hkv g2 hks
     have hu:=l_c hmt
     have htup:∀(k:Nat→Prop) (β:Bk) (W:World),VR k β W (.tuple #[]) (.tup []):=fun k β W=>⟨#[],rfl,rfl,fun i u y hu=>by simp at hu⟩
     rcases j_u kd es with hn | ⟨j,e,hf⟩
     · rw[y_a hn] at hK
       have hX:=h.setMap hb hl g2 g3
       refine c_u (hrun _ _ ?_) (c_f (v:= .tuple #[]) (e:= .tup []) hd hdef hX (by rintro cs (h | h) <;> cases h) (htup _ _ _) hK)
       simp[Builtin.delete_,run_underlying hu,hg,hchk,f1 hn,hst]
     · rw[u_f hf] at hK
       obtain ⟨me,q1,q2⟩:=f2 j e hf
       have hX:=h.setMap hb hl (g2.erase j (List.getElem?_eq_some_iff.1 hf.1).1) (g3.erase j)
       refine c_u (hrun _ _ ?_) (c_f (v:= .tuple #[]) (e:= .tup []) hd hdef hX (by rintro cs (h | h) <;> cases h) (htup _ _ _) hK)
       simp[Builtin.delete_,run_underlying hu,hg,hchk,q2,hst]
 · exact hs.elim
theorem a_o2 (hd:∀d,o.dst=some d→d < n)(hdef:a.defers=df)(h:RelX P k0 β0 σ0 W0 n k β γ a.tmps W env σ)(t:TypeId)(x:Operand)
   (hrun:∀v w',(Builtin.cap_ #[t] o.type #[a.eval x]).run P W= .ok v w'→(execOp a.eval o).run P W= .ok (.value v) w')
   (hs:dCap P t (opE env x) fun e=>K (a_n env o.dst e) σ) :
   o.wp P a W (Out df P k0 β0 σ0 W0 n (Dst o) env K) Q:=by
 obtain ⟨hx,_⟩:=a_o h a rfl x 0
 unfold dCap at hs
 split at hs
 · rename_i el hu he
   rw[he] at hx
   have hx:V k β W (a.eval x) .nils:=hx
   refine a_v (e:= .val (.one (.int .i64 0))) (v:= .int .i64 0) hd hdef h (hrun _ _ ?_) (by rintro cs (h | h) <;> cases h) (V.int _ _) hs
   generalize a.eval x=xv at hx
   cases hx
   simp[Builtin.cap_,run_underlying hu,goInt]
 · rename_i el hu he
   rw[he] at hx
   have hx:V k β W (a.eval x) .zsl:=hx
   refine a_v (e:= .val (.one (.int .i64 0))) (v:= .int .i64 0) hd hdef h (hrun _ _ ?_) (by rintro cs (h | h) <;> cases h) (V.int _ _) hs
   generalize a.eval x=xv at hx
   cases hx
   simp[Builtin.cap_,run_underlying hu,goInt]
 · exact hs.elim
theorem SRel.over (h:SRel P k β W σ){id:Nat}{bi:BI}(hb:β id=some bi){tt:TypeId}{rows ns:List (List D)}(hlive:σ id= .live tt rows){arr:Array Value}(g1:W.heap[bi.blk]? =some (.cells arr tt (0,0)))
   {vx:List Value} (p:Nat) (hp:p≤rows.length) (hes:0 < bi.es) (hlx:vx.length=ns.length * bi.es) (hVx:VL k β W vx ns.flatten) (hlenx:∀(i:Nat) r,ns[i]? =some r→r.length=bi.es)
   (hend:p * bi.es+vx.length≤arr.size) :
   SRel P k β (W.setRow bi.blk (arr.toList.take (p * bi.es) ++ vx ++ arr.toList.drop (p * bi.es+vx.length)).toArray) (σ.set id (.live tt (rows.take p ++ ns ++ rows.drop (p+ns.length)))):=by
 obtain ⟨arr',g1',g2,g3,g4,g5,g6,g7⟩:=h.obj id bi tt rows hb hlive
 have e1:arr'=arr:=by rw[g1] at g1';injection g1' with g1';injection g1' with g1';exact g1'.symm
 subst e1
 have hclen:(arr'.toList.take (p * bi.es) ++ vx ++ arr'.toList.drop (p * bi.es+vx.length)).length=arr'.size:=by simp;omega
 have hrowlen : ∀ (r : Nat) row, (rows.take p ++ ns ++ rows.drop (p + ns.length))[r]? = some row →
     (r < p∧rows[r]? =some row)∨(p≤r∧r < p+ns.length∧ns[r - p]? =some row)∨(p+ns.length≤r∧rows[r]? =some row):=by
   intro r row hr
   have htl:(rows.take p).length=p:=by simp;omega
   by_cases c1:r < p
   · rw[List.getElem?_append_left (by simp;omega),List.getElem?_append_left (by rw[htl];exact c1),List.getElem?_take,if_pos c1] at hr
     exact .inl ⟨c1,hr⟩
   · by_cases c2:r < p+ns.length
     · rw[List.getElem?_append_left (by simp;omega),List.getElem?_append_right (by rw[htl];omega),htl] at hr
       exact .inr (.inl ⟨by omega,c2,hr⟩)
     · rw[List.getElem?_append_right (by simp;omega),List.getElem?_drop] at hr
       have e1:p+ns.length+ (r - (List.take p rows ++ ns).length) =r:=by simp;omega
       rw[e1] at hr
       exact .inr (.inr ⟨by omega,hr⟩)
 have hrows_le:(rows.take p ++ ns ++ rows.drop (p+ns.length)).length * bi.es≤arr'.size:=by
   have hl2:(rows.take p ++ ns ++ rows.drop (p+ns.length)).length=max rows.length (p+ns.length):=by simp;omega
   rw[hl2]
   rcases Nat.le_total rows.length (p+ns.length) with c | c
   · rw[Nat.max_eq_right c,Nat.add_mul];rw[hlx] at hend;exact hend
   · rw[Nat.max_eq_left c];exact g4
 have hget : ∀ m, (arr'.toList.take (p * bi.es) ++ vx ++ arr'.toList.drop (p * bi.es + vx.length)).toArray[m]? =
     if m < p * bi.es then arr'[m]? else if m < p * bi.es+vx.length then vx[m - p * bi.es]? else arr'[m]? :=by
   intro m
   simp only[List.getElem?_toArray]
   by_cases c1:m < p * bi.es
   · rw[if_pos c1,List.getElem?_append_left (by simp;omega),List.getElem?_append_left (by simp;omega),List.getElem?_take,if_pos c1];simp
   · rw[if_neg c1]
     by_cases c2:m < p * bi.es+vx.length
     · rw[if_pos c2,List.getElem?_append_left (by simp;omega),List.getElem?_append_right (by simp;omega)]
       congr 1;simp;omega
     · rw[if_neg c2,List.getElem?_append_right (by simp;omega),List.getElem?_drop]
       have:p * bi.es+vx.length+ (m - (List.take (p * bi.es) arr'.toList ++ vx).length) =m:=by simp;omega
       rw[this];simp
 exact h.setObj hb hlive (rows':=rows.take p ++ ns ++ rows.drop (p+ns.length)) (c:=(arr'.toList.take (p * bi.es) ++ vx ++ arr'.toList.drop (p * bi.es+vx.length)).toArray) g1
   (by simp only[List.size_toArray];exact hclen) hrows_le
   (fun v hv=>by
     simp only[List.mem_toArray,List.mem_append] at hv
     rcases hv with (hv | hv) | hv
     · exact g5 v (by have:=List.mem_of_mem_take hv;simpa using this)
     · exact c_2 hVx v hv
     · exact g5 v (by have:=List.mem_of_mem_drop hv;simpa using this))
   (fun r row hr=>by
     rcases hrowlen r row hr with ⟨_,q⟩ | ⟨_,_,q⟩ | ⟨_,q⟩
     · exact g6 _ row q
     · exact hlenx _ row q
     · exact g6 _ row q)
   (fun r row j d hr hj=>by
     have hjl:∀l,row.length=l→j < l:=fun l hl=>by rw[←hl];exact (List.getElem?_eq_some_iff.1 hj).1
     rw[hget]
     rcases hrowlen r row hr with ⟨c,q⟩ | ⟨c,c2,q⟩ | ⟨c,q⟩
     · have hjs:=hjl _ (g6 _ row q)
       have:=f_p hjs c
       rw[if_pos this]
       exact g7 _ row j d q hj
     · have hjs:=hjl _ (hlenx _ row q)
       have e1:r * bi.es=p * bi.es+ (r - p) * bi.es:=by rw[←Nat.add_mul];congr 1;omega
       have hlt:(r - p) * bi.es+j < vx.length:=by rw[hlx];exact f_p hjs (by omega)
       rw[if_neg (by omega),if_pos (by omega)]
       have e2:r * bi.es+j - p * bi.es=(r - p) * bi.es+j:=by omega
       rw[e2]
       have hfd:ns.flatten[(r - p) * bi.es+j]? =some d:=by
         have hidx':(r - p) * bi.es+j < ns.flatten.length:=by rw[←hVx.1];exact hlt
         obtain ⟨row',q1,q2⟩:=d_1 hes ns hlenx _ _ (List.getElem?_eq_getElem hidx')
         have e1:((r - p) * bi.es+j) / bi.es=r - p:=by
           rw[Nat.mul_comm,Nat.mul_add_div hes,Nat.div_eq_of_lt hjs];rfl
         have e2:((r - p) * bi.es+j) % bi.es=j:=by rw[Nat.mul_comm,Nat.mul_add_mod,Nat.mod_eq_of_lt hjs]
         rw[e1,q] at q1;injection q1 with q1;subst q1
         rw[e2,hj] at q2
         rw[List.getElem?_eq_getElem hidx',←q2]
       exact ⟨_,List.getElem?_eq_getElem hlt,hVx.2 _ _ d (List.getElem?_eq_getElem hlt) hfd⟩
     · have hjs:=hjl _ (g6 _ row q)
       have:(p+ns.length) * bi.es≤r * bi.es:=Nat.mul_le_mul_right _ c
       rw[Nat.add_mul,←hlx] at this
       rw[if_neg (by omega),if_neg (by omega)]
       exact g7 _ row j d q hj)
theorem a_kh {t t' ty el:TypeId}{i:TypeInfo}(hu:P.underlying t=some (.slice el))(hi:P.info? el=some i){g o':Nat}{cur:Array Value}{tt:TypeId}(hg:W.heap[g]? =some (.cells cur tt (0,0)))
   {k_2 dCap sLen sCap:Nat} {ad:Addr} {cs:List Value} (hn:cs.length=min sLen k_2 * i.size) (hsrc:∀j v,cs[j]? =some v→W.cell? (ad.add j) =some v) (hfit:o'+cs.length≤cur.size) (h1:∀v ∈ cs,v.oneCell'=true) :
   (Builtin.copy_ #[t,t'] ty #[.slice (some ⟨g,o',none⟩) k_2 dCap, .slice (some ad) sLen sCap]).run P W =
     .ok (goInt (min sLen k_2:Nat)) (W.setRow g (cur.toList.take o' ++ cs ++ cur.toList.drop (o'+cs.length)).toArray):=by
 have hl:=run_loadCells_list (P:=P) W ad cs hsrc
 have hst:=run_storeCells_at P g o' tt cs 0 cur W hg (by simpa using hfit) h1
 have hm:Nat.min sLen k_2=min sLen k_2:=rfl
 simp[Builtin.copy_,run_underlying hu,Builtin.lenOf,Builtin.firstCells,sizeOf,typeInfo,hi,hm,←hn,hl,hst]
theorem a_jt {t t' ty el:TypeId}{i:TypeInfo}(hu:P.underlying t=some (.slice el))(hi:P.info? el=some i){k_2 dCap sLen sCap:Nat}{ad ad':Option Addr}(hn:min sLen k_2=0) :
   (Builtin.copy_ #[t,t'] ty #[.slice ad k_2 dCap, .slice ad' sLen sCap]).run P W= .ok (goInt (0:Nat)) W:=by
 have hm:Nat.min sLen k_2=0:=hn
 have hl:∀a,(loadCells a 0).run P W= .ok #[] W:=fun a=>run_loadCells_list (P:=P) W a [] (by simp)
 cases ad <;> cases ad' <;> simp[Builtin.copy_,run_underlying hu,Builtin.lenOf,Builtin.firstCells,sizeOf,typeInfo,hi,hm,hl,storeCells]
theorem a_mz (hd:∀d,o.dst=some d→d < n)(hdef:a.defers=df)(h:RelX P k0 β0 σ0 W0 n k β γ a.tmps W env σ)(t:TypeId)(x y:Operand)
   (hrun:∀v w',(Builtin.copy_ #[t,t] o.type #[a.eval x,a.eval y]).run P W= .ok v w'→(execOp a.eval o).run P W= .ok (.value v) w')
   (hs:a_hv P t (opE env x) (opE env y) σ fun e σ'=>K (a_n env o.dst e) σ') :
   o.wp P a W (Out df P k0 β0 σ0 W0 n (Dst o) env K) Q:=by
 obtain ⟨hx,_⟩:=a_o h a rfl x 0
 obtain ⟨hy,_⟩:=a_o h a rfl y 0
 unfold a_hv at hs
 split at hs
 · rename_i el xd yd hu hxe hye
   rw[hxe] at hx
   rw[hye] at hy
   have hx:V k β W (a.eval x) xd:=hx
   have hy:V k β W (a.eval y) yd:=hy
   split at hs
   · rename_i hpos
     have hpos:0 < P.cellsOf el:=of_decide_eq_true hpos
     obtain ⟨i,hi,hsz⟩:=m_1 hpos
     obtain ⟨rd,rs,hrd,hrs,hs⟩:=hs
     generalize a.eval x=xv at hx hrun
     generalize a.eval y=yv at hy hrun
     obtain ⟨adx,cx,ex,hcx⟩:=l_2 hx hrd
     obtain ⟨ady,cy,ey,hcy⟩:=l_2 hy hrs
     by_cases hmin:min rs.length rd.length=0
     · have hK : K (a_n env o.dst (.val (.one (.int .i64 0)))) σ := by
         rcases hs with ⟨_,hs⟩ | ⟨id,i0,len,tt,rows,rfl,hl,hs⟩
         · exact hs
         · rw[hmin] at hs
           have:rows.take i0 ++ rs.take 0 ++ rows.drop (i0+0) =rows:=by simp
           rw[this] at hs
           have hset:σ.set id (.live tt rows) =σ:=by
             funext j
             by_cases hj:j=id
             · subst hj;rw[Store.set_same,hl]
             · rw[Store.set_ne _ _ hj]
           rw[hset] at hs
           have e0:min (rs.length:Int) (rd.length:Int) =0:=by omega
           rw[e0] at hs;exact hs
       refine a_v (e:= .val (.one (.int .i64 0))) (v:= .int .i64 0) hd hdef h (hrun _ _ ?_) (by rintro cs (h | h) <;> cases h) (V.int _ _) hK
       rw[ex,ey]
       exact a_jt hu hi hmin
     · rcases hs with ⟨h0,_⟩ | ⟨id,i0,len,tt,rows,rfl,hl,hK⟩
       · exact absurd h0 hmin
       · have hne:rs≠[]:=by intro e;subst e;simp at hmin
         obtain ⟨adv,cv,vx,exx,hcv,hspx,hlx,hVx,hcellx,hlenx⟩:=o_r h.srel hy hrs hpos hne
         have hrd':=hrd
         obtain ⟨tt',rows',hl',het,hfit,hrde⟩:=hrd
         rw[hl] at hl'
         injection hl' with q1 q2
         subst q1 q2
         cases hx with
         | osl _ _ _ cap ad bi hb ha hc hcap hcm=>
           obtain ⟨arr,g1,g2,g3,g4,g5,g6,g7⟩:=h.srel.obj id bi tt rows hb hl
           have hlen:rd.length=len:=by rw[hrde];simp;omega
           have hbe:bi.es=i.size:=by rw[←g3,het,hsz]
           have hlen0:0 < len:=by omega
           have ha:=ha (by omega)
           subst ha
           have hcl:((rs.take (min rs.length rd.length)).flatten).length=min rs.length rd.length * i.size:=by
             rw[h_a (es:=i.size) _ (fun j r hr=>by
               rw[List.getElem?_take] at hr
               split at hr
               · rw[hlenx j r hr,hsz]
               · cases hr)]
             simp
           have htake:(vx.take (min rs.length rd.length * i.size)).length=min rs.length rd.length * i.size:=by
             rw[List.length_take,hlx,←hsz]
             exact Nat.min_eq_left (Nat.mul_le_mul_right _ (Nat.min_le_left _ _))
           have hfl:(rs.take (min rs.length rd.length)).flatten=rs.flatten.take (min rs.length rd.length * i.size):=by
             have h1:rs.flatten=(rs.take (min rs.length rd.length)).flatten ++ (rs.drop (min rs.length rd.length)).flatten:=by rw[←List.flatten_append,List.take_append_drop]
             rw[h1,←hcl,List.take_left'];rfl
           have hVt:VL k β W (vx.take (min rs.length rd.length * i.size)) (rs.take (min rs.length rd.length)).flatten:=by rw[hfl];exact hVx.take _
           have hlt:∀(j:Nat) r,(rs.take (min rs.length rd.length))[j]? =some r→r.length=bi.es:=fun j r hr=>by
             rw[List.getElem?_take] at hr
             split at hr
             · rw[hlenx j r hr,hbe,hsz]
             · cases hr
           have hend:i0 * bi.es+ (vx.take (min rs.length rd.length * i.size)).length≤arr.size:=by
             rw[htake,←hbe,←Nat.add_mul]
             exact Nat.le_trans (Nat.mul_le_mul_right _ (by omega)) g4
           have hS:=h.srel.over hb hl g1 (ns:=rs.take (min rs.length rd.length)) (vx:=vx.take (min rs.length rd.length * i.size)) i0 (by omega) (by omega) (by rw[htake];simp[hbe]) hVt hlt hend
           have hX := h.step hS ⟨fun _ h => h, fun _ h => .inl h, fun _ _ h => h, fun _ _ h => .inl h, fun j hj => by
               rw[Store.set_ne _ _ (by intro e;subst e;rw[hl] at hj;cases hj)];exact hj⟩
             ⟨rfl,rfl,rfl,by rw[setRow_size];exact Nat.le_refl _,fun b hbl hn=>a_z _ _ _ _ (fun e=>hn id bi hb (by rw[hl];intro e;cases e) e.symm)⟩
           have hnl:(rs.take (min rs.length rd.length)).length=min rs.length rd.length:=by simp
           rw[hnl] at hX
           refine c_u (hrun _ _ ?_) (c_f (v:= .int .i64 (min rs.length rd.length:Nat)) (e:= .val (.one (.int .i64 (min rs.length rd.length:Nat)))) hd hdef hX (by rintro cs (h | h) <;> cases h) (V.int _ _) (by
             have e1:((min rs.length rd.length:Nat) :Int) =min (rs.length:Int) (rd.length:Int):=by omega
             rw[e1];exact hK))
           rw[exx]
           have hr:=a_kh (P:=P) (W:=W) (t:=t) (t':=t) (ty:=o.type) (k_2:=len) (dCap:=cap) (sLen:=rs.length) (sCap:=cv) (ad:=adv) (cs:=vx.take (min rs.length rd.length * i.size)) hu hi g1 (by rw[htake,hlen]) (fun j v hv=>hcellx j v (by
             rw[List.getElem?_take] at hv
             split at hv
             · exact hv
             · cases hv)) hend (fun v hv=>c_2 hVx v (List.mem_of_mem_take hv))
           rw[hlen]
           rw[hlen] at hr
           exact hr
   · exact hs.elim
 · exact hs.elim
theorem a_mo (hd:∀d,o.dst=some d→d < n)(hdef:a.defers=df)(h:RelX P k0 β0 σ0 W0 n k β γ a.tmps W env σ)(t:TypeId)(x:Operand)
   (hrun:∀v w',(Builtin.clear_ #[t] o.type #[a.eval x]).run P W= .ok v w'→(execOp a.eval o).run P W= .ok (.value v) w')
   (hs:a_ck P t (opE env x) σ fun e σ'=>K (a_n env o.dst e) σ') :
   o.wp P a W (Out df P k0 β0 σ0 W0 n (Dst o) env K) Q:=by
 obtain ⟨hx,_⟩:=a_o h a rfl x 0
 have htup:∀(k:Nat→Prop) (β:Bk) (W:World),VR k β W (.tuple #[]) (.tup []):=fun k β W=>⟨#[],rfl,rfl,fun i u y hu=>by simp at hu⟩
 unfold a_ck at hs
 split at hs
 · rename_i el xd hu hxe
   rw[hxe] at hx
   have hx:V k β W (a.eval x) xd:=hx
   split at hs
   · rename_i info z hinf hz
     split at hs
     · rename_i hdec
       obtain ⟨hzl,hsz⟩:=of_decide_eq_true hdec
       have hce:P.cellsOf el=info.size:=by simp[Program.cellsOf,hinf]
       obtain ⟨zv,hzz,hzsz,hzc,hzV⟩ :∃zv,info.zero=some zv∧zv.cells.size=info.size∧(∀v ∈ zv.cells.toList,cell1 v=true)∧VL k β W zv.cells.toList z:=by
         cases hzs:zeroCells P el with
         | none=>rw[hzs] at hz;cases hz
         | some zs=>
           rw[hzs] at hz
           obtain ⟨i,zv,hi,hzz,rfl⟩:=c_z hzs
           rw[hinf] at hi;injection hi with hi;subst hi
           have hVL:=g_h (k:=k) (β:=β) (W:=W) hz
           exact ⟨zv,hzz,by have:=hVL.1;simp at this;omega,c_2 hVL,hVL⟩
       obtain ⟨rd,hrd,hs⟩:=hs
       generalize a.eval x=xv at hx hrun
       obtain ⟨adx,cx,ex,hcx⟩:=l_2 hx hrd
       by_cases hn:rd=[]
       · have hK : K (a_n env o.dst (.tup [])) σ := by
           rcases hs with ⟨_,hs⟩ | ⟨id,i0,len,tt,rows,rfl,hl,hs⟩
           · exact hs
           · obtain ⟨tt',rows',hl',het,hfit,hrde⟩:=hrd
             rw[hl] at hl';injection hl' with q1 q2;subst q1 q2
             have hlen:len=0:=by
               have:=congrArg List.length hrde
               rw[hn] at this
               simp at this;omega
             subst hlen
             have e:rows.take i0 ++ List.replicate 0 z ++ rows.drop (i0+0) =rows:=by simp
             rw[e] at hs
             have hset:σ.set id (.live tt rows) =σ:=by
               funext j
               by_cases hj:j=id
               · subst hj;rw[Store.set_same,hl]
               · rw[Store.set_ne _ _ hj]
             rw[hset] at hs;exact hs
         refine c_u (hrun _ _ ?_) (c_f (v:= .tuple #[]) (e:= .tup []) hd hdef h (by rintro cs (h | h) <;> cases h) (htup _ _ _) hK)
         rw[ex,hn]
         cases adx <;> simp[Builtin.clear_,run_underlying hu]
       · rcases hs with ⟨h0,_⟩ | ⟨id,i0,len,tt,rows,rfl,hl,hK⟩
         · exact absurd h0 hn
         · obtain ⟨tt',rows',hl',het,hfit,hrde⟩:=hrd
           rw[hl] at hl';injection hl' with q1 q2;subst q1 q2
           have hlen:rd.length=len:=by rw[hrde];simp;omega
           have hlen0:0 < len:=by rw[←hlen];exact List.length_pos_iff.2 hn
           cases hx with
           | osl _ _ _ cap ad bi hb ha hc hcap hcm=>
             obtain ⟨arr,g1,g2,g3,g4,g5,g6,g7⟩:=h.srel.obj id bi tt rows hb hl
             have hbe:bi.es=info.size:=by rw[←g3,het,hce]
             have ha:=ha (by omega)
             subst ha
             have hzl2:(Builtin.zeroCells zv.cells len).toList.length=len * bi.es:=by rw[Array.length_toList,size_zeroCells,hzsz,hbe]
             have hVx:VL k β W (Builtin.zeroCells zv.cells len).toList (List.replicate len z).flatten:=by
               have:=w_q hzV len
               simpa using this
             have hend:i0 * bi.es+ (Builtin.zeroCells zv.cells len).toList.length≤arr.size:=by
               rw[hzl2,←Nat.add_mul]
               exact Nat.le_trans (Nat.mul_le_mul_right _ hfit) g4
             have hS:=h.srel.over hb hl g1 (ns:=List.replicate len z) (vx:=(Builtin.zeroCells zv.cells len).toList) i0 (by omega) (by omega) (by rw[hzl2,List.length_replicate]) hVx (fun i r hr=>by
               rw[List.getElem?_replicate] at hr
               split at hr
               · injection hr with hr;rw[←hr,hzl,hbe]
               · cases hr) hend
             have hX := h.step hS ⟨fun _ h => h, fun _ h => .inl h, fun _ _ h => h, fun _ _ h => .inl h, fun j hj => by
                 rw[Store.set_ne _ _ (by intro e;subst e;rw[hl] at hj;cases hj)];exact hj⟩
               ⟨rfl,rfl,rfl,by rw[setRow_size];exact Nat.le_refl _,fun b hbl hn=>a_z _ _ _ _ (fun e=>hn id bi hb (by rw[hl];intro e;cases e) e.symm)⟩
             rw[List.length_replicate] at hX
             refine c_u (hrun _ _ ?_) (c_f (v:= .tuple #[]) (e:= .tup []) hd hdef hX (by rintro cs (h | h) <;> cases h) (htup _ _ _) hK)
             have hst:=run_storeCells_at P bi.blk (i0 * bi.es) tt (Builtin.zeroCells zv.cells len).toList 0 arr W g1 (by simpa using hend) (n_7 hzc _)
             obtain ⟨m,rfl⟩ :∃m,len=m+1:=⟨len - 1,by omega⟩
             simp only[Nat.add_zero] at hst
             simp[Builtin.clear_,run_underlying hu,zeroValue,run_typeInfo W hinf,hzz,hst]
     · exact hs.elim
   · exact hs.elim
 · exact hs.elim
end
end
section
section
variable {df:List Deferred} {P:Program} {k0:Nat→Prop} {β0:Bk} {σ0:Store} {W0:World} {n:Nat} {k:Nat→Prop} {β:Bk} {γ:Nat→Nat}
 {tmps:Array Value} {W W':World} {env:Env} {σ σ':Store} {a:Act} {o:Oper} {Q:Exit→Act→World→Prop} {K:a_4}
theorem map1 {α β:Type}{f:α→β}{l:List α}{x:β}(h:l.map f=[x]) :∃a,l=[a]∧x=f a:=by
 cases l with
 | nil=>simp at h
 | cons a r=>cases r with
   | nil=>simp at h;exact ⟨a,rfl,h.symm⟩
   | cons=>simp at h
theorem map2 {α β:Type}{f:α→β}{l:List α}{x y:β}(h:l.map f=[x,y]) :∃a b,l=[a,b]∧x=f a∧y=f b:=by
 cases l with
 | nil=>simp at h
 | cons a r=>cases r with
   | nil=>simp at h
   | cons b r=>cases r with
     | nil=>simp at h;exact ⟨a,b,rfl,h.1.symm,h.2.symm⟩
     | cons=>simp at h
theorem a_ms (hd:∀d,o.dst=some d→d < n)(hdef:a.defers=df)(h:RelX P k0 β0 σ0 W0 n k β γ a.tmps W env σ)(c:Call)
   (hop:o.op= .call c) (hs:u_l P o c env σ fun e σ'=>K (a_n env o.dst e) σ') :
   o.wp P a W (Out df P k0 β0 σ0 W0 n (Dst o) env K) Q:=by
 obtain ⟨callee,cargs,ctypes⟩:=c
 unfold u_l at hs
 simp only at hs
 have hargs:∀as0,k_i env cargs.toList=some as0→(cargs.map a.eval).size=as0.length∧∀(i:Nat) v x,(cargs.map a.eval)[i]? =some v→as0[i]? =some x→VA k β W v x:=by
   intro as0 ha
   obtain ⟨hl,hv⟩:=a_as h a rfl cargs.toList as0 ha
   refine ⟨by simpa using hl,fun i v x hvi hxi=>hv i v x ?_ hxi⟩
   rw[←Array.toList_map,Array.getElem?_toList];exact hvi
 split at hs
 · split at hs
   · rename_i x t hx ht
     refine a_ow hd hdef h t x (fun v hv=>?_) hs
     have e1:cargs= #[x]:=by apply Array.ext';rw[hx]
     have e2:ctypes= #[t]:=by apply Array.ext';rw[ht]
     subst e1 e2
     simp[execOp,hop,resolve,invoke,builtin,hv]
   · exact hs.elim
 · split at hs
   · rename_i s x t t' hx ht
     split at hs
     · rename_i hb
       have hb:=Nat.eq_of_beq_eq_true hb
       subst hb
       refine a_i9 hd hdef h t s x (fun v w' hv=>?_) hs
       have e1:cargs= #[s,x]:=by apply Array.ext';rw[hx]
       have e2:ctypes= #[t,t]:=by apply Array.ext';rw[ht]
       subst e1 e2
       simp[execOp,hop,resolve,invoke,builtin,hv]
     · refine a_g3 hd hdef h t t' s x (fun v w' hv=>?_) hs
       have e1:cargs= #[s,x]:=by apply Array.ext';rw[hx]
       have e2:ctypes= #[t,t']:=by apply Array.ext';rw[ht]
       subst e1 e2
       simp[execOp,hop,resolve,invoke,builtin,hv]
   · exact hs.elim
 · split at hs
   · rename_i vs hv
     refine g_i hd hdef h (fun v hr=>?_) hs
     have he:cargs.map a.eval=vs.toArray:=by apply Array.ext';rw[Array.toList_map,q_2 h rfl _ _ hv]
     simp[execOp,hop,resolve,invoke,builtin,he,hr]
   · exact hs.elim
 · split at hs
   · rename_i vs hv
     refine g_i hd hdef h (fun v hr=>?_) hs
     have he:cargs.map a.eval=vs.toArray:=by apply Array.ext';rw[Array.toList_map,q_2 h rfl _ _ hv]
     simp[execOp,hop,resolve,invoke,builtin,he,hr]
   · exact hs.elim
 · rename_i b hb1 hb2 hb3 hb4
   unfold a_d7 at hs
   split at hs
   · rename_i t t' x' y' ht hl
     split at hs
     · rename_i hb
       have hb:=Nat.eq_of_beq_eq_true hb
       subst hb
       obtain ⟨x,y,hc,rfl,rfl⟩:=map2 hl
       refine a_mz hd hdef h t x y (fun v w' hv=>?_) hs
       have e1:cargs= #[x,y]:=by apply Array.ext';rw[hc]
       have e2:ctypes= #[t,t]:=by apply Array.ext';rw[ht]
       subst e1 e2
       simp[execOp,hop,resolve,invoke,builtin,hv]
     · exact hs.elim
   · rename_i t x' ht hl
     obtain ⟨x,hc,rfl⟩:=map1 hl
     refine a_o2 hd hdef h t x (fun v w' hv=>?_) hs
     have e1:cargs= #[x]:=by apply Array.ext';rw[hc]
     have e2:ctypes= #[t]:=by apply Array.ext';rw[ht]
     subst e1 e2
     simp[execOp,hop,resolve,invoke,builtin,hv]
   · rename_i t t' x' y' ht hl
     obtain ⟨x,y,hc,rfl,rfl⟩:=map2 hl
     refine a_jg hd hdef h t t' x y (fun v w' hv=>?_) hs
     have e1:cargs= #[x,y]:=by apply Array.ext';rw[hc]
     have e2:ctypes= #[t,t']:=by apply Array.ext';rw[ht]
     subst e1 e2
     simp[execOp,hop,resolve,invoke,builtin,hv]
   · rename_i t x' ht hl
     obtain ⟨x,hc,rfl⟩:=map1 hl
     refine a_mo hd hdef h t x (fun v w' hv=>?_) hs
     have e1:cargs= #[x]:=by apply Array.ext';rw[hc]
     have e2:ctypes= #[t]:=by apply Array.ext';rw[ht]
     subst e1 e2
     simp[execOp,hop,resolve,invoke,builtin,hv]
   · exact hs.elim
 · exact hs.elim
 · rename_i f
   split at hs
   · rename_i as0 ha
     obtain ⟨h1,h2⟩:=hargs as0 ha
     refine a_ek hd hdef h f as0 _ h1 h2 hs (fun hok=>?_)
     simp[execOp,hop,resolve,Deferred.ofValue,invoke,Act.eval,l_s hok]
   · exact hs.elim
 · rename_i x hne
   split at hs
   · rename_i as0 ha
     obtain ⟨h1,h2⟩:=hargs as0 ha
     obtain ⟨hx,_⟩:=a_o h a rfl x 0
     unfold w_y at hs
     split at hs
     · rename_i d he
       rw[he] at hx
       obtain ⟨f,da,db,as0',bs,rfl,hca,hcb,hs⟩:=hs
       have hx:V k β W (a.eval x) (.fn f da db):=hx
       generalize hxe:a.eval x=v at hx
       cases hx with
       | fn _ first caps _ _ g g' e1 f1 v1 e2 f2 v2=>
         obtain ⟨s1,w1⟩:=a_fo da as0' hca f1 v1
         obtain ⟨s2,w2⟩:=a_fo db bs hcb f2 v2
         refine a_ek hd hdef h f _ (first ++ cargs.map a.eval ++ caps) ?_ ?_ hs (fun hok=>?_)
         · simp only[Array.size_append,List.length_append,e1,e2,s1,s2,h1]
         · subst e1 e2
           exact a_ko (a_ko w1 h2 s1) w2 (by simp only[Array.size_append,List.length_append,s1,h1])
         · simp[execOp,hop,resolve,Deferred.ofValue,invoke,hxe,l_s hok]
     · exact hs.elim
   · exact hs.elim
theorem a_o3 (hd:∀d,o.dst=some d→d < n)(hdef:a.defers=df)(h:RelX P k0 β0 σ0 W0 n k β γ a.tmps W env σ)(hs:xop P o.op (o.op.operands.toList.map (opE env)) σ fun e σ'=>K (a_n env o.dst e) σ') :
   o.wp P a W (Out df P k0 β0 σ0 W0 n (Dst o) env K) Q:=by
 generalize hl:o.op.operands.toList.map (opE env) =es at hs
 generalize hop:o.op=op at hs
 rw[hop] at hl
 unfold xop at hs
 split at hs
 · rename_i t m
   subst hl
   exact a_gb hd hdef h t m hop hs
 · rename_i t om ox oy m x y
   have hl: [opE env om,opE env ox,opE env oy]=[m,x,y]:=hl
   injection hl with e1 hl;injection hl with e2 hl;injection hl with e3 _
   subst e1 e2 e3
   exact a_ai hd hdef h t om ox oy (fun w' hr=>by simp only[execOp,hop,Sem.run_bind,hr];rfl) hs
 · rename_i t om ox oy m x y
   have hl: [opE env om,opE env ox,opE env oy]=[m,x,y]:=hl
   injection hl with e1 hl;injection hl with e2 hl;injection hl with e3 _
   subst e1 e2 e3
   exact a_ai hd hdef h t om ox oy (fun w' hr=>by simp only[execOp,hop,Sem.run_bind,hr];rfl) hs
 · rename_i t om ox m x
   have hl: [opE env om,opE env ox]=[m,x]:=hl
   injection hl with e1 hl;injection hl with e2 _
   subst e1 e2
   exact a_de hd hdef h t om ox hop hs
 · rename_i t om ox oy m x y
   have hl: [opE env om,opE env ox,opE env oy]=[m,x,y]:=hl
   injection hl with e1 hl;injection hl with e2 hl;injection hl with e3 _
   subst e1 e2 e3
   exact y_w hd hdef h t om ox oy hop hs
 · exact hs.elim
theorem a_k2 (hnd:ND env)(hnb:boxDst env o=false)(hd:∀d,o.dst=some d→d < n)(hdef:a.defers=df)(h:RelX P k0 β0 σ0 W0 n k β γ a.tmps W env σ)(an:Ann)(hs:c_p P an o env σ K) :
   o.wp P a W (Out df P k0 β0 σ0 W0 n (Dst o) env K) Q:=by
 unfold c_p at hs
 split at hs
 · rename_i x hop;exact a_ir hd hdef h x (.inl hop) hs
 · rename_i x hop;exact a_ir hd hdef h x (.inr hop) hs
 · rename_i c x y hop;exact a_ns hd hdef h c x y hop hs
 · rename_i t hop;exact a_f8 hnd hnb hd hdef h an t hop hs
 · rename_i t x hop;exact a_lr hnd hnb hd hdef h an t x hop hs
 · rename_i t parts hop;exact a_lk hd hdef h t parts hop hs
 · rename_i t len parts hop;exact y_n hd hdef h t len parts hop hs
 · rename_i t x hop;exact a_m1 hd hdef h t x hop hs
 · rename_i t p x hop;exact a_ma hd hdef h t p x hop hs
 · rename_i t x f hop;exact a_bc hd hdef h t x f hop hs
 · rename_i t x f hop;exact a_km hd hdef h t x f hop hs
 · rename_i t x ix hop;exact a_cm hd hdef h t x ix hop hs
 · rename_i b t x y u hop;exact a_kz hd hdef h b t u x y hop hs
 · rename_i u t x hop
   split at hs
   · rename_i v hv;exact a_m4 hd hdef h u t x hop v hv hs
   · exact hs.elim
 · rename_i s t x hop
   split at hs
   · rename_i v hv;exact a_hc hd hdef h s t x hop v hv hs
   · exact hs.elim
 · rename_i x i hop;exact a_gi hd hdef h x i hop hs
 · rename_i x hop;exact a_d3 hd hdef h x hop hs
 · rename_i f xs ys hop;exact a_eh hd hdef h f xs ys hop hs
 · rename_i t l c hop;exact a_cw hd hdef h t l c hop hs
 · rename_i t x lo hi hop;exact a_j7 hd hdef h t x lo hi hop hs
 · rename_i c hop;exact a_ms hd hdef h c hop hs
 · rename_i t m x ok hop;exact a_j1 hd hdef h t m x ok hop hs
 · rename_i t x ix hop
   unfold w_e at hs
   split at hs
   · rename_i s q i ht hx hi
     obtain ⟨m,hb,hK⟩:=hs
     exact a_c9 hd hdef h hop ht hx hi hb hK
   · exact hs.elim
 · exact a_o3 hd hdef h hs
end
end
section
section
variable {P:Program} {env env':Env} {σ σ':Store} {o:Oper} {K K':a_4}
def NBe (env:Env)(e:E) :Prop:=d_v e=false∧∀d off,e= .bp d off→d_v (get env d) =true
def ExF (env:Env)(F:(E→Prop)→Prop) :Prop:=∀put,F put→∃e,NBe env e∧put e∧∀put',put' e→F put'
theorem NBe.val {env:Env}(x:A) :NBe env (.val x):=⟨rfl,fun d off h=>by cases h⟩
theorem NBe.el {env:Env}(s:D)(i off:Nat) :NBe env (.el s i off):=⟨rfl,fun d off h=>by cases h⟩
theorem NBe.sk {env:Env} :NBe env .sk:=⟨rfl,fun d off h=>by cases h⟩
theorem NBe.undef {env:Env} :NBe env .undef:=⟨rfl,fun d off h=>by cases h⟩
theorem z_0 (v:Value) :NBe env (q_x v):=by
 unfold q_x
 cases h:eOfV v with
 | none=>exact .undef
 | some e=>
   unfold eOfV at h
   split at h
   · injection h with h;subst h;exact .val _
   · rename_i vs
     cases hd:d_y vs.toList with
     | none=>simp[hd] at h
     | some ds=>simp[hd] at h;subst h;exact .val _
   · cases hd:dOfV v with
     | none=>simp[hd] at h
     | some d=>simp[hd] at h;subst h;exact .val _
theorem a_nv {v:Value}{e:E}(h:eOfV v=some e) :NBe env e:=by
 have:=z_0 (env:=env) v
 unfold q_x at this;rw[h] at this;exact this
theorem k_b (hnd:ND env)(x:Operand) :NBe env (opE env x):=by
 cases x with
 | tmp t=>
   cases hg:get env t with
   | bx cs=>
     have e1:opE env (.tmp t) = .bp t 0:=by simp[opE,hg]
     rw[e1];exact ⟨rfl,fun d off h=>by injection h with h _;subst h;rw[hg];rfl⟩
   | cb cs=>
     have e1:opE env (.tmp t) = .bp t 0:=by simp[opE,hg]
     rw[e1];exact ⟨rfl,fun d off h=>by injection h with h _;subst h;rw[hg];rfl⟩
   | bp s off=>
     have e1:opE env (.tmp t) = .bp s off:=by simp[opE,hg]
     rw[e1];exact ⟨rfl,fun d off' h=>by injection h with h _;subst h;exact hnd t _ _ hg⟩
   | undef => have e1 : opE env (.tmp t) = .undef := by simp [opE, hg]
              rw[e1];exact .undef
   | sk => have e1 : opE env (.tmp t) = .sk := by simp [opE, hg]
           rw[e1];exact .sk
   | el s i off => have e1 : opE env (.tmp t) = .el s i off := by simp [opE, hg]
                   rw[e1];exact .el _ _ _
   | val x => have e1 : opE env (.tmp t) = .val x := by simp [opE, hg]
              rw[e1];exact .val _
   | tup x => have e1 : opE env (.tmp t) = .tup x := by simp [opE, hg]
              rw[e1];exact ⟨rfl,fun d off h=>by cases h⟩
 | const v=>exact z_0 v
 | global g=>exact .undef
 | func f=>exact .val _
theorem b_7 {e:E}(h:NBe env e) :ExF env fun put=>put e:=fun put hp=>⟨e,h,hp,fun _ h=>h⟩
theorem a_k:ExF env fun _=>False:=fun _ h=>h.elim
theorem b_s {p:Prop}{F:(E→Prop)→Prop}(h:p→ExF env F) :ExF env fun put=>p∧F put:=fun put ⟨h1,h2⟩=>by
 obtain ⟨e,q1,q2,q3⟩:=h h1 put h2
 exact ⟨e,q1,q2,fun put' hp=>⟨h1,q3 put' hp⟩⟩
theorem m_i {α:Type}{F:α→(E→Prop)→Prop}(h:∀x,ExF env (F x)) :ExF env fun put=>∃x,F x put:=fun put ⟨x,h2⟩=>by
 obtain ⟨e,q1,q2,q3⟩:=h x put h2
 exact ⟨e,q1,q2,fun put' hp=>⟨x,q3 put' hp⟩⟩
theorem s_h {e:E}(h:NBe env e) :ExF env fun put=>h_u e put:=fun put hp=>⟨e,h,forceE_iff.1 hp,fun put' hp=>forceE_iff.2 hp⟩
theorem a_ci {zs:List Value} :∀{f:List D→List D} {F:List D→(E→Prop)→Prop},(∀cs,ExF env (F cs))→ExF env fun put=>t_b zs f fun cs=>F cs put:=by
 induction zs with
 | nil=>intro f F h;exact h _
 | cons z zs ih=>intro f F h;cases z <;> exact m_i fun x=>ih h
theorem a_nj {c a b:E}(ha:NBe env a)(hb:NBe env b) :ExF env fun put=>a_am c a b fun e=>h_u e put:=by
 unfold a_am
 cases c with
 | val x=>
   cases x with
   | one d=>
     cases d with
     | bool t=>cases t <;> (simp only[a_c];first | exact s_h ha | exact s_h hb)
     | _=>exact a_k
   | agg=>exact a_k
 | _=>exact a_k
theorem a_kw {t:TypeId}{cs:Option (List D)}{ps:Option (List (Nat × List D))} :ExF env fun put=>t_f P t cs ps put:=by
 unfold t_f
 repeat' split
 all_goals first | exact a_k | exact b_7 (.val _)
theorem a_oy {agg:Bool}{cs:List D}{e:E}(h:mkE agg cs=some e) :NBe env e:=by
 unfold mkE at h
 split at h <;> first | (injection h with h;subst h;exact .val _) | cases h
theorem a_ho {agg:Bool}{cs:List D} :ExF env fun put=>(match mkE agg cs with | some e=>put e | none=>False):=by
 cases h:mkE agg cs with
 | none=>exact a_k
 | some e=>exact b_7 (a_oy h)
theorem a_bg {e:E}(he:NBe env e){F:E→(E→Prop)→Prop}(h1:∀s off,d_v (get env s) =true→ExF env (F (.bp s off)))(h2:∀s i off,ExF env (F (.el s i off))) :
   ExF env fun put=>k_l e fun e=>F e put:=by
 unfold k_l
 split
 · exact h1 _ _ (he.2 _ _ rfl)
 · exact h2 _ _ _
 · exact m_i fun s=>m_i fun i=>m_i fun off=>b_s fun _=>h2 _ _ _
 · exact a_k
theorem z_o {agg:Bool}{n off:Nat}{cs:List D} :ExF env fun put=>o_i agg n cs off put:=by
 unfold o_i
 split
 · exact a_ho
 · exact a_k
theorem a_mw {t:TypeId}{x:E}(hx:NBe env x) :ExF env fun put=>j_c P t x env σ put:=by
 unfold j_c
 split
 · refine a_bg hx (F := fun e put => match e with
     | .bp s off=>match get env s with
       | .bx cs=>o_i _ _ cs off put
       | .cb cs=>o_i _ _ cs off put
       | _=>False
     | .el s i off=>p_x _ _ σ s i off put
     | _=>False) (fun s off _=>?_) (fun s i off=>?_)
   · simp only[]
     cases get env s with
     | bx cs=>exact z_o
     | cb cs=>exact z_o
     | _=>exact a_k
   · simp only[p_x]
     exact m_i fun row=>b_s fun _=>a_ci fun cs=>b_s fun _=>a_ho
 · exact a_k
theorem a_b6 {t:TypeId}{x:E}(hx:NBe env x){f:Nat} :ExF env fun put=>g_3 P t x f put:=by
 unfold g_3
 split
 · split
   · split
     · rename_i fd _ _ _
       refine a_bg hx (F:=fun e put=>match e with
         | .bp s off=>put (.bp s (off+_))
         | .el s i off=>put (.el s i (off+_))
         | _=>False) (fun s off hb=>?_) (fun s i off=>?_)
       · exact b_7 ⟨rfl,fun d off h=>by injection h with h _;subst h;exact hb⟩
       · exact b_7 (.el _ _ _)
     · exact a_k
   · exact a_k
 · exact a_k
theorem a_mk {t:TypeId}{x:E}{f:Nat} :ExF env fun put=>s_0 P t x f put:=by
 unfold s_0
 split
 · split
   · split
     · split
       · exact a_ho
       · exact a_k
     · exact a_k
   · exact a_k
 · exact a_k
theorem a_cs {t:TypeId}{x ix:E}(hx:NBe env x) :ExF env fun put=>e_k P t x ix σ put:=by
 unfold e_k
 split
 · split
   · exact m_i fun len=>b_s fun _=>b_s fun _=>b_s fun _=>b_7 (.el _ _ _)
   · exact a_k
 · rename_i len el q m _
   split
   · refine a_bg hx (F := fun e put => match e with
       | .bp s off=>0≤m∧m < (len:Int)∧put (.bp s (off+m.toNat * P.cellsOf el))
       | .el s i off=>0≤m∧m < (len:Int)∧put (.el s i (off+m.toNat * P.cellsOf el))
       | _=>False) (fun s off hb=>?_) (fun s i off=>?_)
     · exact b_s fun _=>b_s fun _=>b_7 ⟨rfl,fun d off h=>by injection h with h _;subst h;exact hb⟩
     · exact b_s fun _=>b_s fun _=>b_7 (.el _ _ _)
   · exact a_k
 · exact a_k
theorem z_k {nk:NK}{neq:Bool}{x:E} :ExF env fun put=>t_6 nk neq x put:=by
 unfold t_6
 split
 · split
   · exact b_7 (.val _)
   · exact a_k
 · split
   · exact b_7 (.val _)
   · exact a_k
 · exact m_i fun b=>b_s fun _=>b_7 (.val _)
 · exact a_k
theorem w_7 {nk:NK}{bop:BinOp}{x:E}{y:Operand} :ExF env fun put=>dNil nk bop x y put:=by
 unfold dNil
 split
 · split
   · exact z_k
   · exact a_k
 · split
   · exact z_k
   · exact a_k
 · exact a_k
theorem a_d5 {neq:Bool}{t:TypeId}{x y:E} :ExF env fun put=>s_3 P neq t x y put:=by
 unfold s_3
 split
 · split
   · cases neq <;> exact b_7 (.val _)
   · exact a_k
 · exact a_k
theorem f_e {s:Option Value} :ExF env fun put=>b_q s put:=by
 unfold b_q
 split
 · split
   · rename_i e h;exact b_7 (a_nv h)
   · exact a_k
 · exact a_k
theorem a_j0 {bop:BinOp}{t:TypeId}{x y:Operand}{a b:Value} :ExF env fun put=>k_8 P bop t x y a b put:=by
 unfold k_8
 split
 · exact f_e
 · split
   · exact b_s fun _=>f_e
   · exact a_k
 · split
   · exact b_s fun _=>f_e
   · exact a_k
 · exact b_s fun _=>f_e
 · exact b_s fun _=>f_e
 · exact f_e
theorem a_mm {bop:BinOp}{t:TypeId}{x y:Operand}{a b:Value} :ExF env fun put=>l_a P bop t x y a b put:=by
 unfold l_a
 split
 · exact b_s fun _=>b_7 (.val _)
 · exact a_j0
theorem a_ks {bop:BinOp}{t:TypeId}{x y:Operand} :ExF env fun put=>q_0 P bop t x y env put:=by
 unfold q_0
 simp only[]
 split
 · exact w_7
 · exact w_7
 · exact w_7
 · exact w_7
 · exact w_7
 · split
   · exact a_d5
   · exact a_d5
   · exact a_k
 · split
   · exact a_mm
   · exact a_k
theorem a_f5 {x:E}{i:Nat} :ExF env fun put=>k_x x i put:=by
 unfold k_x
 split
 · split
   · exact b_7 (.val _)
   · exact a_k
 · exact a_k
theorem a_dr {x:E}(hx:NBe env x) :ExF env fun put=>i_i x put:=by
 unfold i_i
 split
 · exact b_7 ⟨rfl,fun d off h=>by injection h with h _;subst h;exact hx.2 _ _ rfl⟩
 · exact b_7 (.el _ _ _)
 · exact b_s fun _=>b_7 (.val _)
 · exact a_k
theorem a_e9 {f:FuncId}{a b:Option (List A)} :ExF env fun put=>i_k f a b put:=by
 unfold i_k
 split
 · exact b_7 (.val _)
 · exact a_k
theorem a_ky {t:TypeId}{x lo:E}{hi:Option E} :ExF env fun put=>j_4 P t x lo hi σ put:=by
 unfold j_4
 split
 · split
   · exact m_i fun len=>b_s fun _=>b_s fun _=>b_s fun _=>b_7 (.val _)
   · exact m_i fun len=>b_s fun _=>b_s fun _=>b_s fun _=>b_s fun _=>b_7 (.val _)
   · exact a_k
 · unfold z_3
   split
   · exact b_s fun _=>b_s fun _=>b_7 (.val _)
   · exact b_s fun _=>b_s fun _=>b_s fun _=>b_7 (.val _)
   · exact a_k
 · exact a_k
theorem a_k1 {t:TypeId}{x i:E} :ExF env fun put=>w_e P t x i put:=by
 unfold w_e
 split
 · exact m_i fun n=>b_s fun _=>b_7 (.val _)
 · exact a_k
theorem a_on {t:TypeId}{x:E} :ExF env fun put=>k_2 P t x put:=by
 unfold k_2
 split
 · split
   · exact m_i fun len=>b_s fun _=>b_7 (.val _)
   · exact a_k
 · split
   · exact b_7 (.val _)
   · exact a_k
 · exact b_7 (.val _)
 · exact a_k
theorem a_hu {t:TypeId}{F:A→(E→Prop)→Prop}(h:∀x,ExF env (F x)) :ExF env fun put=>x_c P t fun x=>F x put:=by
 unfold x_c
 split
 · exact a_ci fun cs=>h _
 · refine a_ci fun cs=>?_
   split
   · exact h _
   · exact a_k
 · exact a_k
theorem NBe.tup {env:Env}(xs:List A) :NBe env (.tup xs):=⟨rfl,fun d off h=>by cases h⟩
theorem a_iz {t:TypeId}{ok:Bool}{m k:E} :ExF env fun put=>i_e P t ok m k σ put:=by
 unfold i_e
 split
 · split
   · refine m_i fun r=>b_s fun _=>a_hu fun v=>b_s fun _=>?_
     cases ok
     · exact b_7 (.val _)
     · exact b_7 (.tup _)
   · exact a_k
 · exact a_k
/-! ### the operations that yield a value alone -/
def a_ik (P:Program)(o:Oper)(c:Call)(env:Env)(put:E→Prop) :Prop:=
 match c.callee with
 | .builtin .len=>match c.args.toList,c.argTypes.toList with
   | [x],[t]=>k_2 P t (opE env x) put
   | _,_=>False
 | .builtin .min=>match e_z env c.args.toList with | some vs=>b_q (c_9 P (Builtin.min_ c.argTypes o.type vs.toArray)) put | none=>False
 | .builtin .max=>match e_z env c.args.toList with | some vs=>b_q (c_9 P (Builtin.max_ c.argTypes o.type vs.toArray)) put | none=>False
 | _=>False
def f_4 (P:Program)(o:Oper)(env:Env)(σ:Store)(put:E→Prop) :Prop:=
 match o.op with
 | .move x=>h_u (opE env x) put
 | .assign x=>h_u (opE env x) put
 | .pick c a b=>a_am (opE env c) (opE env a) (opE env b) fun e=>h_u e put
 | .build t parts=>t_f P t ((zeroCells P t).bind d_y) (e_t env parts.toList) put
 | .load t x=>j_c P t (opE env x) env σ put
 | .fieldAddr t x f=>g_3 P t (opE env x) f put
 | .field t x f=>s_0 P t (opE env x) f put
 | .indexAddr t x ix=>e_k P t (opE env x) (opE env ix) σ put
 | .binOp bop t x y _=>q_0 P bop t x y env put
 | .unOp uop _ x=>match u_c (opE env x) with | some a=>b_q (c_9 P (Op.unary uop a)) put | none=>False
 | .convert s t x=>match u_c (opE env x) with | some a=>b_q (c_9 P (convert s t a)) put | none=>False
 | .extract x i=>k_x (opE env x) i put
 | .nilCheck x=>i_i (opE env x) put
 | .makeFunc (.func f) first caps=>i_k f (k_i env first.toList) (k_i env caps.toList) put
 | .slice t x lo hi none=>j_4 P t (opE env x) ((lo.map (opE env)).getD (.val (.one (.int .i64 0)))) (hi.map (opE env)) σ put
 | .call c=>a_ik P o c env put
 | .lookup t m k ok=>i_e P t ok (opE env m) (opE env k) σ put
 | .index t x i=>w_e P t (opE env x) (opE env i) put
 | _=>False
theorem f_i {an:Ann}(h:e_s o.op=true) :c_p P an o env σ K↔f_4 P o env σ fun e=>K (a_n env o.dst e) σ:=by
 unfold c_p f_4
 cases hop:o.op <;> rw[hop] at h <;> first | exact Iff.rfl | (simp[e_s] at h;done) | skip
 · rename_i f _ _;cases f <;> exact Iff.rfl
 · rename_i mx;cases mx <;> exact Iff.rfl
 · rename_i c
   obtain ⟨callee,args,types⟩:=c
   simp only[u_l,a_ik]
   cases callee with
   | builtin b=>
     cases b <;> first | (simp[e_s] at h;done) | skip
     · rcases hargs:args.toList with _ | ⟨x,_ | ⟨y,r⟩⟩ <;> rcases ht:types.toList with _ | ⟨t,_ | ⟨t',r'⟩⟩ <;> exact Iff.rfl
     · cases e_z env args.toList <;> exact Iff.rfl
     · cases e_z env args.toList <;> exact Iff.rfl
   | _=>simp[e_s] at h
theorem k_5 (hnd:ND env) :ExF env fun put=>f_4 P o env σ put:=by
 unfold f_4
 split
 · exact s_h (k_b hnd _)
 · exact s_h (k_b hnd _)
 · exact a_nj (k_b hnd _) (k_b hnd _)
 · exact a_kw
 · exact a_mw (k_b hnd _)
 · exact a_b6 (k_b hnd _)
 · exact a_mk
 · exact a_cs (k_b hnd _)
 · exact a_ks
 · split
   · exact f_e
   · exact a_k
 · split
   · exact f_e
   · exact a_k
 · exact a_f5
 · exact a_dr (k_b hnd _)
 · exact a_e9
 · exact a_ky
 · unfold a_ik
   split
   · split
     · exact a_on
     · exact a_k
   · split
     · exact f_e
     · exact a_k
   · split
     · exact f_e
     · exact a_k
   · exact a_k
 · exact a_iz
 · exact a_k1
 · exact a_k
end
end
section
section
variable {P:Program} {an:Ann} {env env':Env} {σ σ':Store} {o:Oper} {K K':a_4} {d:Nat} {e:E}
theorem k_3 {d d':Nat}(h:d≠d')(e e':E) :a_t (a_t env d e) d' e'=a_t (a_t env d' e') d e:=by
 funext s
 show get (a_t (a_t env d e) d' e') s=get (a_t (a_t env d' e') d e) s
 by_cases h1:s=d
 · subst h1;rw[a_0 _ _ h,b_f,b_f]
 · by_cases h2:s=d'
   · subst h2;rw[b_f,a_0 _ _ h1,b_f]
   · rw[a_0 _ _ h2,a_0 _ _ h1,a_0 _ _ h1,a_0 _ _ h2]
theorem c_j {dst:Option Tmp}(h:dst≠some d)(e e':E) :a_n (a_t env d e) dst e'=a_t (a_n env dst e') d e:=by
 cases dst with
 | none=>rfl
 | some d'=>exact k_3 (fun he=>h (by rw[he])) e e'
theorem a_ja {d:Nat}{e:E}(h:get env d=e) :a_t env d e=env:=by
 funext s
 show get (a_t env d e) s=get env s
 by_cases h1:s=d
 · subst h1;rw[b_f,h]
 · rw[a_0 _ _ h1]
theorem o_s {x:Operand}(hx:x≠ .tmp d) :opE (a_t env d e) x=opE env x:=by
 cases x with
 | tmp t=>
   have:t≠d:=fun h=>hx (by rw[h])
   simp only[opE,a_0 _ _ this]
 | _=>rfl
theorem i_v:∀{l:List Operand},(∀x ∈ l,opE env' x=opE env x)→k_i env' l=k_i env l
 | [],_=>rfl
 | x::l,h=>by simp only[k_i,h x (by simp),i_v (l:=l) fun y hy=>h y (by simp[hy])]
theorem j_6:∀{l:List Operand},(∀x ∈ l,opE env' x=opE env x)→e_z env' l=e_z env l
 | [],_=>rfl
 | x::l,h=>by simp only[e_z,h x (by simp),j_6 (l:=l) fun y hy=>h y (by simp[hy])]
theorem h_7:∀{l:List (Nat × Operand)},(∀x ∈ l,opE env' x.2=opE env x.2)→e_t env' l=e_t env l
 | [],_=>rfl
 | (i,x) ::l,h=>by simp only[e_t,show opE env' x=opE env x from h (i,x) (by simp),h_7 (l:=l) fun y hy=>h y (by simp[hy])]
def s_q (P:Program)(o:Oper)(env:Env) :Prop:=
 match o.op with
 | .load _ x=>∃s off,opE env x= .bp s off
 | .indexAddr _ _ _=>False
 | .slice t _ _ _ _=>P.underlying t=some .string
 | .lookup _ _ _ _=>False
 | _=>True
def MExt (P:Program)(t:TypeId)(σ s':Store) :Prop:=
 s'=σ∨∃kt et z id clock es k,mapT P t=some (kt,et)∧a_al P et=some z∧σ id= .mp clock es∧f_c P kt k=true∧h_l P kt es∧s'=σ.set id (w_j clock es k ((b_x k es).getD z))
theorem a_do {x:A} :∀{es:List Ent} {j:Nat} {e:Ent} {y:A},es[j]? =some e→eqA y e.2.1=true→((es.set j (e.1,y,e.2.2)).find? fun e=>eqA x e.2.1).map (·.2.2) =(es.find? fun e=>eqA x e.2.1).map (·.2.2)
 | [],j,e,y,h,_=>by simp at h
 | e0::es,0,e,y,h,he=>by
   have h0:e0=e:=by simpa using h
   subst h0
   have:=i_o he x
   simp only[List.set_cons_zero,List.find?_cons,this]
   cases eqA x e0.2.1 <;> simp
 | e0::es,j+1,e,y,h,he=>by
   have ih:=a_do (x:=x) (es:=es) (j:=j) (by simpa using h) he
   simp only[List.set_cons_succ,List.find?_cons]
   cases eqA x e0.2.1 <;> simp[ih]
theorem a_gp {t:TypeId}{m k:E}{σ s':Store}{put:E→Prop}(hx:MExt P t σ s')(h:i_e P t false m k σ put) :i_e P t false m k s' put:=by
 rcases hx with rfl | ⟨kt,et,z,id,clock,es,y,hmt,hz,hs,hky,hks,rfl⟩
 · exact h
 unfold i_e at h ⊢
 rw[hmt] at h ⊢
 split at h
 · rename_i kt1 et1 md kd e2 e3
   injection e2 with e2
   injection e2 with q1 q2
   subst q1 q2
   rw[hz] at h
   obtain ⟨r,⟨hko,hl⟩,hp⟩:=h
   rw[hz]
   suffices hr:∃r',h_e P kt (σ.set id (w_j clock es y ((b_x y es).getD z))) md kd r'∧r'.getD z=r.getD z by
     obtain ⟨r',h1,h2⟩:=hr
     exact ⟨r',h1,by rw[h2];exact hp⟩
   rcases hl with ⟨rfl,rfl⟩ | ⟨id',clock',es',rfl,hs',hks',rfl⟩
   · exact ⟨none,⟨hko, .inl ⟨rfl,rfl⟩⟩,rfl⟩
   · by_cases hid:id'=id
     · subst hid
       rw[hs] at hs';injection hs' with q1 q2;subst q1 q2
       rcases k_6 clock es y ((b_x y es).getD z) with ⟨hn,e1,e2,_⟩ | ⟨j,e,hf,e1,e2,_⟩
       · refine ⟨b_x kd (es ++ [(clock,y,(b_x y es).getD z)]),⟨hko, .inr ⟨id',clock+1,_,rfl,by rw[Store.set_same,e1],fun w hw=>?_,rfl⟩⟩,?_⟩
         · rcases List.mem_append.1 hw with hw | hw
           · exact hks w hw
           · simp at hw;subst hw;exact hky
         · rw[e2]
           simp only[b_x,List.find?_append,Option.getD_none]
           cases es.find? (fun e=>eqA kd e.2.1) with
           | some w=>rfl
           | none=>
             simp only[Option.none_or,List.find?_cons,List.find?_nil]
             cases eqA kd y <;> rfl
       · refine ⟨b_x kd (es.set j (e.1,y,(b_x y es).getD z)),⟨hko, .inr ⟨id',clock,_,rfl,by rw[Store.set_same,e1],fun w hw=>?_,rfl⟩⟩,?_⟩
         · rcases List.mem_or_eq_of_mem_set hw with hw | hw
           · exact hks w hw
           · subst hw;exact hky
         · rw[e2]
           have:=a_do (x:=kd) hf.1 hf.2.1
           simp only[b_x,Option.getD_some]
           rw[this]
     · exact ⟨_,⟨hko, .inr ⟨id',clock',es',rfl,by rw[Store.set_ne _ _ hid];exact hs',hks',rfl⟩⟩,rfl⟩
 · exact h.elim
theorem a_es {t:TypeId}{x:E}{put:E→Prop}(hroot:∀s off,x= .bp s off→d_v (get env' s) =true→get env s=get env' s)(hσ:σ'=σ∨∃s off,x= .bp s off)
   (h:j_c P t x env' σ' put) :j_c P t x env σ put:=by
 unfold j_c at h ⊢
 split at h
 · rename_i agg zs _ _
   cases x with
   | bp s off=>
     simp only[k_l] at h ⊢
     have hr:=hroot s off rfl
     split at h
     · rename_i cs hg;rw[hr (by rw[hg];rfl),hg];exact h
     · rename_i cs hg;rw[hr (by rw[hg];rfl),hg];exact h
     · exact h.elim
   | val z=>
     rcases hσ with rfl | ⟨s,off,hx⟩
     · cases z with
       | one w=>simp only[k_l] at h ⊢;exact h
       | agg w=>exact h
     · cases hx
   | _=>
     rcases hσ with rfl | ⟨s,off,hx⟩
     · exact h
     · cases hx
 · exact h.elim
theorem f_u {put:E→Prop}(hop:∀x ∈ o.op.operands,opE env' x=opE env x)
   (hroot:∀t x s off,o.op= .load t x→opE env x= .bp s off→d_v (get env' s) =true→get env s=get env' s)
   (hσ:(σ'=σ∨s_q P o env)∨∃t m k,o.op= .lookup t m k false∧MExt P t σ' σ) (h:f_4 P o env' σ' put) :f_4 P o env σ put:=by
 by_cases hlk:∃t m k ok,o.op= .lookup t m k ok
 · obtain ⟨t,m,k,ok,ho⟩:=hlk
   unfold f_4 at h ⊢
   simp only[ho] at h ⊢
   rw[hop m (by rw[ho];simp[Op.operands]),hop k (by rw[ho];simp[Op.operands])] at h
   rcases hσ with (rfl | hσ) | ⟨t',m',k',ho',hx⟩
   · exact h
   · unfold s_q at hσ;rw[ho] at hσ;exact hσ.elim
   · rw[ho] at ho';injection ho' with e1 e2 e3 e4
     subst e1 e2 e3 e4
     exact a_gp hx h
 have hσ:σ'=σ∨s_q P o env:=hσ.resolve_right fun ⟨t,m,k,ho,_⟩=>hlk ⟨t,m,k,_,ho⟩
 unfold f_4 at h ⊢
 cases ho:o.op <;> simp only[ho,Op.operands] at h hop ⊢ <;> first | exact h.elim | skip
 case move x=>rw[←hop x (by simp)];exact h
 case assign x=>rw[←hop x (by simp)];exact h
 case pick c a b=>rw[←hop c (by simp),←hop a (by simp),←hop b (by simp)];exact h
 case build t ps=>
   rw[←h_7 (env':=env') (l:=ps.toList) fun x hx=>hop x.2 (by simp only[List.mem_toArray,List.mem_map];exact ⟨x,hx,rfl⟩)];exact h
 case load t x=>
   rw[hop x (by simp)] at h
   refine a_es (fun s off hx=>hroot t x s off ho hx) ?_ h
   rcases hσ with hσ | hσ
   · exact .inl hσ
   · right;unfold s_q at hσ;rw[ho] at hσ;exact hσ
 case fieldAddr t x f=>rw[←hop x (by simp)];exact h
 case field t x f=>rw[←hop x (by simp)];exact h
 case indexAddr t x ix=>
   rw[←hop x (by simp),←hop ix (by simp)]
   rcases hσ with rfl | hσ
   · exact h
   · unfold s_q at hσ;rw[ho] at hσ;exact hσ.elim
 case binOp b t x y u=>
   have h1:=hop x (by simp)
   have h2:=hop y (by simp)
   unfold q_0 at h ⊢
   rw[h1,h2] at h;exact h
 case unOp u t x=>rw[←hop x (by simp)];exact h
 case convert s t x=>rw[←hop x (by simp)];exact h
 case extract x i=>rw[←hop x (by simp)];exact h
 case nilCheck x=>rw[←hop x (by simp)];exact h
 case makeFunc f first caps=>
   cases f <;> simp only[] at h ⊢ <;> first | exact h.elim | skip
   rw[←i_v (env':=env') (l:=first.toList) fun x hx=>hop x (by simp at hx;simp[hx]),←i_v (env':=env') (l:=caps.toList) fun x hx=>hop x (by simp at hx;simp[hx])]
   exact h
 case slice t x lo hi mx=>
   cases mx <;> simp only[] at h ⊢ <;> first | exact h.elim | skip
   have h:j_4 P t (opE env x) ((lo.map (opE env)).getD (.val (.one (.int .i64 0)))) (hi.map (opE env)) σ' put:=by
     rw[hop x (by simp)] at h
     cases lo with
     | none=>
       cases hi with
       | none=>exact h
       | some y=>simp only[Option.map_some] at h ⊢;rw[hop y (by simp)] at h;exact h
     | some z=>
       simp only[Option.map_some,Option.getD_some] at h ⊢
       rw[hop z (by simp)] at h
       cases hi with
       | none=>exact h
       | some y=>simp only[Option.map_some] at h ⊢;rw[hop y (by simp)] at h;exact h
   rcases hσ with rfl | hσ
   · exact h
   · unfold s_q at hσ;rw[ho] at hσ
     have hσ:P.underlying t=some .string:=hσ
     unfold j_4 at h ⊢
     split at h
     · rename_i hu hx hl;rw[hσ] at hu;cases hu
     · exact h
     · exact h.elim
 case index t x i=>rw[←hop x (by simp),←hop i (by simp)];exact h
 case lookup t m k ok=>exact absurd ⟨t,m,k,ok,ho⟩ hlk
 case call c=>
   obtain ⟨callee,args,types⟩:=c
   have ha:∀x ∈ args.toList,opE env' x=opE env x:=fun x hx=>hop x (by simp at hx;simp[Call.operands,hx])
   unfold a_ik at h ⊢
   cases callee with
   | builtin b=>
     cases b <;> (try simp only[] at h ⊢) <;> first | exact h.elim | skip
     · have h':(match args.toList,types.toList with | [x],[t]=>k_2 P t (opE env' x) put | _,_=>False):=h
       show (match args.toList,types.toList with | [x],[t]=>k_2 P t (opE env x) put | _,_=>False)
       clear h hop
       generalize args.toList=l at h' ha ⊢
       generalize types.toList=m at h' ⊢
       rcases l with _ | ⟨x,_ | ⟨y,r⟩⟩ <;> rcases m with _ | ⟨t,_ | ⟨t',r'⟩⟩ <;> first | exact h'.elim | skip
       show k_2 P t (opE env x) put
       rw[←ha x (by simp)];exact h'
     · rw[j_6 ha] at h;exact h
     · rw[j_6 ha] at h;exact h
   | _=>exact h.elim
theorem Row.ext' {s:D}{i:Nat}{row:List D}(hx:∀i,σ i≠ .free→σ' i=σ i)(h:Row σ s i row) :Row σ' s i row:=by
 cases s <;> try exact h
 obtain ⟨h1,t,rows,h2,h3⟩:=h
 exact ⟨h1,t,rows,(hx _ (by rw[h2];intro e;cases e)).trans h2,h3⟩
theorem Idx.ext' {s:D}{e n:Nat}(hx:∀i,σ i≠ .free→σ' i=σ i)(h:Idx P σ s e n) :Idx P σ' s e n:=by
 cases s <;> try exact h
 obtain ⟨h1,t,rows,h2,h3⟩:=h
 exact ⟨h1,t,rows,(hx _ (by rw[h2];intro e;cases e)).trans h2,h3⟩
theorem IdxN.ext' {s:D}{e n:Nat}(hx:∀i,σ i≠ .free→σ' i=σ i)(h:IdxN P σ s e n) :IdxN P σ' s e n:=h.imp (fun h=>h.ext' hx) id
theorem a_js {t:TypeId}{x:E}{put:E→Prop}(hx:∀i,σ i≠ .free→σ' i=σ i)(h:j_c P t x env σ put) :j_c P t x env σ' put:=by
 unfold j_c at h ⊢
 split at h
 · have key:∀zs agg s i off,p_x zs agg σ s i off put→p_x zs agg σ' s i off put:=fun zs agg s i off ⟨row,h1,h2⟩=>⟨row,h1.ext' hx,h2⟩
   cases x with
   | bp s off=>exact h
   | el s i off=>exact key _ _ _ _ _ h
   | val z=>
     cases z with
     | one w=>obtain ⟨s,i,off,e,h⟩:=h;exact ⟨s,i,off,e,key _ _ _ _ _ h⟩
     | agg w=>exact h
   | _=>exact h
 · exact h.elim
theorem a_gu {t:TypeId}{x:E}{put:E→Prop}(hx:∀i t rows,σ i= .live t rows→σ' i= .live t rows)(h:j_c P t x env σ put) :j_c P t x env σ' put:=by
 unfold j_c at h ⊢
 split at h
 · have key : ∀ zs agg s i off, p_x zs agg σ s i off put → p_x zs agg σ' s i off put := fun zs agg s i off ⟨row, h1, h2⟩ => ⟨row, by
     cases s <;> first | exact h1 | skip
     obtain ⟨hlt,t,rows,g1,g2⟩:=h1
     exact ⟨hlt,t,rows,hx _ _ _ g1,g2⟩,h2⟩
   cases x with
   | bp s off=>exact h
   | el s i off=>exact key _ _ _ _ _ h
   | val z=>
     cases z with
     | one w=>obtain ⟨s,i,off,e,h⟩:=h;exact ⟨s,i,off,e,key _ _ _ _ _ h⟩
     | agg w=>exact h
   | _=>exact h
 · exact h.elim
theorem z_9 {put:E→Prop}(hlk:isLk o.op=false)(hx:∀i,σ i≠ .free→σ' i=σ i)(h:f_4 P o env σ put) :f_4 P o env σ' put:=by
 unfold f_4 at h ⊢
 cases ho:o.op <;> simp only[ho] at h ⊢ <;> first | exact h.elim | exact h | skip
 case load t x=>exact a_js hx h
 case indexAddr t x ix=>
   unfold e_k at h ⊢
   split at h
   · split at h
     · obtain ⟨len,h1,h2⟩:=h;exact ⟨len,h1.ext' hx,h2⟩
     · exact h.elim
   · exact h
   · exact h.elim
 case slice t x lo hi mx=>
   cases mx <;> simp only[] at h ⊢ <;> first | exact h.elim | skip
   unfold j_4 at h ⊢
   split at h
   · split at h
     · obtain ⟨len,h1,h2⟩:=h;exact ⟨len,h1.ext' hx,h2⟩
     · obtain ⟨len,h1,h2⟩:=h;exact ⟨len,h1.ext' hx,h2⟩
     · exact h.elim
   · exact h
   · exact h.elim
 case lookup t m k ok=>rw[ho] at hlk;cases hlk
 case makeFunc f first caps=>cases f <;> simp only[] at h ⊢ <;> first | exact h.elim | exact h
def Shape (σ s':Store) :Prop:=∀id t rows,σ id= .live t rows→∃rows',s' id= .live t rows'
theorem Shape.refl (σ:Store) :Shape σ σ:=fun _ _ rows h=>⟨rows,h⟩
theorem Idx.shape {s:D}{e n:Nat}(hx:Shape σ σ')(h:Idx P σ s e n) :Idx P σ' s e n:=by
 cases s <;> try exact h
 obtain ⟨h1,t,rows,h2,h3⟩:=h
 obtain ⟨rows',h4⟩:=hx _ _ _ h2
 exact ⟨h1,t,rows',h4,h3⟩
theorem IdxN.shape {s:D}{e n:Nat}(hx:Shape σ σ')(h:IdxN P σ s e n) :IdxN P σ' s e n:=h.imp (fun h=>h.shape hx) id
theorem n_3 {put:E→Prop}(hix:isIx o.op=true)(hx:Shape σ σ')(h:f_4 P o env σ put) :f_4 P o env σ' put:=by
 unfold f_4 at h ⊢
 cases ho:o.op <;> rw[ho] at hix <;> simp only[isIx,Bool.false_eq_true] at hix <;> simp only[ho] at h ⊢
 case indexAddr t x ix=>
   unfold e_k at h ⊢
   split at h
   · split at h
     · obtain ⟨len,h1,h2⟩:=h;exact ⟨len,h1.shape hx,h2⟩
     · exact h.elim
   · exact h
   · exact h.elim
 case slice t x lo hi mx=>
   cases mx <;> simp only[] at h ⊢ <;> first | exact h.elim | skip
   unfold j_4 at h ⊢
   split at h
   · split at h
     · obtain ⟨len,h1,h2⟩:=h;exact ⟨len,h1.shape hx,h2⟩
     · obtain ⟨len,h1,h2⟩:=h;exact ⟨len,h1.shape hx,h2⟩
     · exact h.elim
   · exact h
   · exact h.elim
theorem a_gz {put:E→Prop}(hlk:isLk o.op=false)(hx:∀i t rows,σ i= .live t rows→σ' i= .live t rows)(h:f_4 P o env σ put) :f_4 P o env σ' put:=by
 have hsh:Shape σ σ':=fun id t rows h=>⟨rows,hx _ _ _ h⟩
 cases ho:o.op
 case indexAddr t x ix=>exact n_3 (by rw[ho];rfl) hsh h
 case slice t x lo hi mx=>exact n_3 (by rw[ho];rfl) hsh h
 case load t x=>
   unfold f_4 at h ⊢
   simp only[ho] at h ⊢
   exact a_gu hx h
 case lookup t m k ok=>rw[ho] at hlk;cases hlk
 case makeFunc f first caps=>
   unfold f_4 at h ⊢
   simp only[ho] at h ⊢
   cases f <;> simp only[] at h ⊢ <;> first | exact h.elim | exact h
 all_goals
   unfold f_4 at h ⊢
   simp only[ho] at h ⊢ <;> first | exact h.elim | exact h
theorem a_c7 {op:Op}(h:isIx op=true) :e_s op=true:=by
 unfold isIx at h;split at h <;> first | rfl | cases h
theorem a_fb (hnd:ND env)(hnb:d_v (get env d) =false)(hops:Operand.tmp d ∉ o.op.operands)(hdst:o.dst≠some d)(h:c_p P an o (a_t env d e) σ K) :
   c_p P an o env σ (fun e' s'=>K (a_t e' d e) s'):=by
 have hop:∀x ∈ o.op.operands,opE (a_t env d e) x=opE env x:=fun x hx=>o_s (fun he=>hops (he ▸ hx))
 have hroot:∀x s off,opE env x= .bp s off→get env s=get (a_t env d e) s:=fun x s off hx=>by
   have h1:=(k_b hnd x).2 s off hx
   have h2:s≠d:=fun he=>by subst he;rw[h1] at hnb;cases hnb
   rw[a_0 _ _ h2]
 have hne:∀x s off,opE env x= .bp s off→s≠d:=fun x s off hx he=>by
   have h1:=(k_b hnd x).2 s off hx
   subst he;rw[h1] at hnb;cases hnb
 by_cases hv:e_s o.op=true
 · rw[f_i hv] at h ⊢
   have h:=f_u hop (fun t x s off _ hx _=>hroot x s off hx) (.inl (.inl rfl)) h
   simpa only[c_j hdst] using h
 · have al : ∀ t cs, c_x an o.dst t cs (a_t env d e) σ K → c_x an o.dst t cs env σ (fun e' s' => K (a_t e' d e) s') := by
     intro t cs h
     unfold c_x at h ⊢
     cases hd':o.dst with
     | none=>rw[hd'] at h;exact h
     | some d'=>
       have hdd:d≠d':=fun he=>hdst (by rw[hd',he])
       cases cs with
       | none=>rw[hd'] at h;exact h
       | some cs=>
         rw[hd'] at h
         show (match an.esc.contains d' with
           | true=>newObj σ (.live t [cs]) fun id σ'=>K (a_t (a_t env d' (.el (.osl id 0 1) 0 0)) d e) σ'
           | false=>match an.cbs.contains d' with
             | true=>K (a_t (a_t env d' (.cb cs)) d e) σ
             | false=>K (a_t (a_t env d' (.bx cs)) d e) σ)
         have h:(match an.esc.contains d' with
           | true=>newObj σ (.live t [cs]) fun id σ'=>K (a_t (a_t env d e) d' (.el (.osl id 0 1) 0 0)) σ'
           | false=>match an.cbs.contains d' with
             | true=>K (a_t (a_t env d e) d' (.cb cs)) σ
             | false=>K (a_t (a_t env d e) d' (.bx cs)) σ):=h
         cases hesc:an.esc.contains d' with
         | true=>rw[hesc] at h;simp only[newObj,k_3 hdd] at h ⊢;exact h
         | false=>
           rw[hesc] at h
           cases hcb:an.cbs.contains d' with
           | true=>rw[hcb] at h;simp only[k_3 hdd] at h ⊢;exact h
           | false=>rw[hcb] at h;simp only[k_3 hdd] at h ⊢;exact h
   have hmap:o.op.operands.toList.map (opE (a_t env d e)) =o.op.operands.toList.map (opE env):=List.map_congr_left fun x hx=>hop x (by simpa using hx)
   unfold c_p at h ⊢
   cases ho:o.op <;> simp only[ho,Op.operands,e_s] at h hop hv hmap ⊢ <;> first | exact h.elim | exact absurd trivial hv | skip
   case alloc t=>exact al t _ h
   case box t x=>rw[hop x (by simp)] at h;exact al t _ h
   case buildSlice t len ps=>
     rw[h_7 (l:=ps.toList) fun x hx=>hop x.2 (by simp only[List.mem_toArray,List.mem_map];exact ⟨x,hx,rfl⟩)] at h
     simpa only[c_j hdst] using h
   case makeSlice t l c=>
     rw[hop l (by simp),hop c (by simp)] at h
     simpa only[c_j hdst] using h
   case store t p x=>
     rw[hop p (by simp),hop x (by simp)] at h
     unfold x_k at h ⊢
     cases hy:toA (opE env x) with
     | none=>rw[hy] at h;exact h
     | some y=>
       rw[hy] at h
       simp only[] at h ⊢
       split at h
       · cases hp:opE env p with
         | bp s off=>
           rw[hp] at h
           simp only[k_l] at h ⊢
           have hs:=hne p s off hp
           rw[a_0 _ _ hs] at h
           cases hg:get env s with
           | bx cs=>
             rw[hg] at h
             simp only[] at h ⊢
             split at h
             · rw[k_3 (Ne.symm hs),c_j hdst] at h;exact h
             · exact h.elim
           | _=>rw[hg] at h;exact h.elim
         | el s i off=>
           rw[hp] at h
           simp only[k_l,c_j hdst] at h;exact h
         | val z=>
           rw[hp] at h
           cases z with
           | one w=>
             obtain ⟨s,i,off,e1,h⟩:=h
             refine ⟨s,i,off,e1,?_⟩
             simp only[c_j hdst] at h;exact h
           | agg w=>exact h
         | _=>rw[hp] at h;exact h.elim
       · exact h.elim
   case call c=>
     obtain ⟨callee,args,types⟩:=c
     have ha:∀x ∈ args.toList,opE (a_t env d e) x=opE env x:=fun x hx=>hop x (by simp at hx;simp[Call.operands,hx])
     unfold u_l at h ⊢
     cases callee with
     | builtin b=>
       cases b <;> (try simp only[] at h hv ⊢) <;> first | exact h.elim | exact absurd trivial hv | skip
       case cap=>rw[List.map_congr_left ha] at h;simpa only[c_j hdst] using h
       case copy=>rw[List.map_congr_left ha] at h;simpa only[c_j hdst] using h
       case delete=>rw[List.map_congr_left ha] at h;simpa only[c_j hdst] using h
       case clear=>rw[List.map_congr_left ha] at h;simpa only[c_j hdst] using h
       have h':(match args.toList,types.toList with
         | [s,x],[t,t']=>match Nat.beq t t' with
           | true=>h_4 P t (opE (a_t env d e) s) (opE (a_t env d e) x) σ fun e1 σ'=>K (a_n (a_t env d e) o.dst e1) σ'
           | false=>f_6 P t t' (opE (a_t env d e) s) (opE (a_t env d e) x) σ fun e1 σ'=>K (a_n (a_t env d e) o.dst e1) σ'
         | _,_=>False):=h
       show (match args.toList,types.toList with
         | [s,x],[t,t']=>match Nat.beq t t' with
           | true=>h_4 P t (opE env s) (opE env x) σ fun e1 σ'=>K (a_t (a_n env o.dst e1) d e) σ'
           | false=>f_6 P t t' (opE env s) (opE env x) σ fun e1 σ'=>K (a_t (a_n env o.dst e1) d e) σ'
         | _,_=>False)
       clear h hop
       simp only[c_j hdst] at h'
       generalize args.toList=l at h' ha ⊢
       generalize types.toList=m at h' ⊢
       rcases l with _ | ⟨s,_ | ⟨x,_ | ⟨y,r⟩⟩⟩ <;> rcases m with _ | ⟨t,_ | ⟨t',_ | ⟨t2,r'⟩⟩⟩ <;> first | exact h'.elim | skip
       show (match Nat.beq t t' with
           | true=>h_4 P t (opE env s) (opE env x) σ fun e1 σ'=>K (a_t (a_n env o.dst e1) d e) σ'
           | false=>f_6 P t t' (opE env s) (opE env x) σ fun e1 σ'=>K (a_t (a_n env o.dst e1) d e) σ')
       rw[←ha s (by simp),←ha x (by simp)];exact h'
     | invoke r m=>exact h.elim
     | value f=>
       have hf:opE (a_t env d e) f=opE env f:=hop f (by simp[Call.operands])
       cases f <;> simp only[i_v ha,hf,c_j hdst] at h ⊢ <;> exact h
   all_goals (rw[hmap] at h;simpa only[c_j hdst] using h)
end
end
section
section
variable {P:Program} {an:Ann} {env env':Env} {σ σ':Store} {o:Oper} {K K':a_4} {d:Nat} {e:E}
theorem DCalls.mono {f:FuncId}{as0:List A}{Q Q':RV→Store→Prop}(hq:∀r s,Q r s→Q' r s)(h:DCalls P f as0 σ Q) :DCalls P f as0 σ Q':=by
 refine ⟨h.1,fun k β W vs h1 h2 h3=>(h.2 k β W vs h1 h2 h3).mono fun e W' ⟨v,r,σ',k',β',q1,q2,q3⟩=>⟨v,r,σ',k',β',q1,hq _ _ q2,q3⟩⟩
theorem z_v {zs:List Value} :∀{f:List D→List D} {p q:List D→Prop},(∀cs,p cs→q cs)→t_b zs f p→t_b zs f q:=by
 induction zs with
 | nil=>intro f p q hk h;exact hk _ h
 | cons z zs ih=>intro f p q hk h;cases z <;> (obtain ⟨m,h⟩:=h;exact ⟨m,ih hk h⟩)
theorem o_u {t:TypeId}{K K':A→Prop}(hk:∀x,K x→K' x)(h:x_c P t K) :x_c P t K':=by
 unfold x_c at h ⊢
 split at h
 · exact z_v (fun cs hc=>hk _ hc) h
 · refine z_v (fun cs hc=>?_) h
   split at hc
   · exact hk _ hc
   · exact hc.elim
 · exact h.elim
theorem q_1:∀{ts:List TypeId} {f:List A→List A} {K K':List A→Prop},(∀xs,K xs→K' xs)→z_4 P ts f K→z_4 P ts f K'
 | [],f,K,K',hk,h=>hk _ h
 | t::ts,f,K,K',hk,h=>o_u (fun x hx=>q_1 hk hx) h
theorem l_d {t:TypeId}{r:RV}{K K':E→Prop}(hk:∀e,NBe env e→K e→K' e)(h:v_l P t r K) :v_l P t r K':=by
 unfold v_l at h ⊢
 split at h
 · exact q_1 (fun xs ⟨h1,h2⟩=>⟨h1,hk _ ⟨rfl,fun d off h=>by cases h⟩ h2⟩) h
 · exact o_u (fun x ⟨h1,h2⟩=>⟨h1,hk _ (.val _) h2⟩) h
theorem a_bo {t:TypeId}{s x:E}{K K':E→Store→Prop}(hk:∀d s,(s=σ∨∃id so,s=σ.set id so)→K (.val (.one d)) s→K' (.val (.one d)) s)(h:h_4 P t s x σ K) :h_4 P t s x σ K':=by
 unfold h_4 at h ⊢
 split at h
 · split at h
   · split at h
     · obtain ⟨rs,ns,q1,q2,q3,q4,q5⟩:=h
       refine ⟨rs,ns,q1,q2,q3,q4,fun d σ' hd=>hk _ _ ?_ (q5 d σ' hd)⟩
       rcases hd with ⟨_,_,h3⟩ | ⟨_,id,_,_,h3⟩ | ⟨_,id,_,_,_,_,_,_,_,h3⟩
       · exact .inl h3
       · exact .inr ⟨_,_,h3⟩
       · exact .inr ⟨_,_,h3⟩
     · exact h.elim
   · exact h.elim
 · exact h.elim
theorem y_7 {t t':TypeId}{s x:E}{K K':E→Store→Prop}(hk:∀d s,(s=σ∨∃id so,s=σ.set id so)→K (.val (.one d)) s→K' (.val (.one d)) s)(h:f_6 P t t' s x σ K) :f_6 P t t' s x σ K':=by
 unfold f_6 at h ⊢
 split at h
 · split at h
   · split at h
     · refine ⟨h.1,h.2.1,?_⟩
       have h3:=h.2.2
       unfold a_c at h3 ⊢
       split
       · rename_i hb;rw[hb] at h3;exact hk _ _ (.inl rfl) h3
       · rename_i hb;rw[hb] at h3;exact fun id hid=>hk _ _ (.inr ⟨_,_,rfl⟩) (h3 id hid)
     · exact h.elim
   · exact h.elim
 · exact h.elim
theorem Fin.set {σ:Store}(h:Fin σ)(id:Nat)(so:SO) :Fin (σ.set id so):=by
 obtain ⟨N,hN⟩:=h
 refine ⟨max N (id+1),fun i hi=>?_⟩
 rw[Store.set_ne _ _ (by omega)];exact hN i (by omega)
theorem DCalls.fin {f:FuncId}{as0:List A}{Q:RV→Store→Prop}(h:DCalls P f as0 σ Q) :DCalls P f as0 σ fun r s=>Fin s∧Q r s:=
 ⟨h.1,fun k β W vs h1 h2 h3=>(h.2 k β W vs h1 h2 h3).mono fun e W' ⟨v,r,σ',k',β',q1,q2,q3,q4,q5⟩=>⟨v,r,σ',k',β',q1,⟨q4.fin,q2⟩,q3,q4,q5⟩⟩
def LiveKeep (σ s':Store) :Prop:=∀i t rows,σ i= .live t rows→s' i= .live t rows
theorem LiveKeep.refl (σ:Store) :LiveKeep σ σ:=fun _ _ _ h=>h
theorem LiveKeep.new {id:Nat}(h:σ id= .free)(so:SO) :LiveKeep σ (σ.set id so):=fun i t rows hi=>by
 rw[Store.set_ne _ _ (fun e=>by rw[e,h] at hi;cases hi)];exact hi
theorem LiveKeep.mp {id c:Nat}{es:List Ent}(h:σ id= .mp c es)(so:SO) :LiveKeep σ (σ.set id so):=fun i t rows hi=>by
 rw[Store.set_ne _ _ (fun e=>by rw[e,h] at hi;cases hi)];exact hi
inductive Eff (P:Program) (an:Ann) (o:Oper) (env:Env) (σ:Store) (e':Env) (s':Store) :Prop
 | val (e : E) (h : NBe env e) (he : e' = a_n env o.dst e) (hs : e_s o.op = true ∨ e_x an o = true → s' = σ) (hst : ∀ t p x, o.op = .store t p x → Shape σ s' ∧ ∀ s off, opE env p ≠ .bp s off) (hf : Fin σ → Fin s')
     (hm:∀t m k,o.op= .mapEntry t m k→MExt P t σ s') (hl:isMp o.op=true→LiveKeep σ s')
 | st (t : TypeId) (p x : Operand) (s off : Nat) (cs cs' : List D) (ho : o.op = .store t p x) (hp : opE env p = .bp s off) (hg : get env s = .bx cs)
     (he:e'=a_n (a_t env s (.bx cs')) o.dst .undef) (hs:s'=σ)
 | al (d:Nat) (e:E) (cs:List D) (hd:o.dst=some d) (hb:f_f e cs) (he:e'=a_t env d e) (hs:s'=σ) (ha:e_x an o=true)
theorem l_9 {t:TypeId}{m k v:E}{K K':E→Store→Prop}(hk:∀s',(Fin σ→Fin s')→LiveKeep σ s'→K .undef s'→K' .undef s')(h:c_l P t m k v σ K) :c_l P t m k v σ K':=by
 unfold c_l at h ⊢
 split at h
 · obtain ⟨id,clock,es,h1,h2⟩:=h
   exact ⟨id,clock,es,h1,fun c' es' q1 q2=>hk _ (fun hf=>hf.set _ _) (.mp h1.2.2.1 _) (h2 c' es' q1 q2)⟩
 · exact h.elim
theorem a_k5 {op:Op}{es:List E}{K K':E→Store→Prop}
   (hk:∀e s',NBe env e→(Fin σ→Fin s')→(∀t m k,op= .mapEntry t m k→MExt P t σ s')→(isMp op=true→LiveKeep σ s')→K e s'→K' e s') (h:xop P op es σ K) :xop P op es σ K':=by
 unfold xop at h ⊢
 split at h
 · unfold r_5 at h ⊢
   split at h
   · exact fun id hid=>hk _ _ (.val _) (fun hf=>hf.set _ _) (fun t m k hc=>by cases hc) (fun _=> .new hid _) (h id hid)
   · exact fun id hid=>hk _ _ (.val _) (fun hf=>hf.set _ _) (fun t m k hc=>by cases hc) (fun _=> .new hid _) (h id hid)
   · exact h.elim
 · exact l_9 (fun s' hf hl=>hk _ _ .undef hf (fun t m k hc=>by cases hc) (fun _=>hl)) h
 · exact l_9 (fun s' hf hl=>hk _ _ .undef hf (fun t m k hc=>by cases hc) (fun _=>hl)) h
 · unfold o_q at h ⊢
   split at h
   · rename_i t om ok _ _ kt et md kd h1 h2
     split at h
     · rename_i z hz
       obtain ⟨id,clock,es,q1,q2⟩:=h
       refine ⟨id,clock,es,q1,fun hb=>hk _ _ (.tup _) (fun hf=>hf.set _ _) (fun t' m' k' hc=>?_) (fun hc=>by cases hc) (q2 hb)⟩
       injection hc with e1
       subst e1
       exact .inr ⟨kt,et,z,id,clock,es,kd,h1,hz,q1.2.2.1,q1.1,q1.2.2.2,rfl⟩
     · exact h.elim
   · exact h.elim
 · unfold j_p at h ⊢
   split at h
   · obtain ⟨id,clock,es,q1,q2,q3,q4⟩:=h
     exact ⟨id,clock,es,q1,q2,q3,hk _ _ .undef (fun hf=>hf.set _ _) (fun t m k hc=>by cases hc) (fun hc=>by cases hc) q4⟩
   · exact h.elim
 · exact h.elim
theorem l_u {b:Builtin}{ts:List TypeId}{es:List E}{K K':E→Store→Prop}
   (hk:∀e s',NBe env e→(Fin σ→Fin s')→K e s'→K' e s') (h:a_d7 P b ts es σ K) :a_d7 P b ts es σ K':=by
 unfold a_d7 at h ⊢
 split at h
 · split at h
   · unfold a_hv at h ⊢
     split at h
     · split at h
       · obtain ⟨rd,rs,q1,q2,q3⟩:=h
         refine ⟨rd,rs,q1,q2,?_⟩
         rcases q3 with ⟨q3,q4⟩ | ⟨id,i0,len,tt,rows,q3,q4,q5⟩
         · exact .inl ⟨q3,hk _ _ (.val _) id q4⟩
         · exact .inr ⟨id,i0,len,tt,rows,q3,q4,hk _ _ (.val _) (fun hf=>hf.set _ _) q5⟩
       · exact h.elim
     · exact h.elim
   · exact h.elim
 · unfold dCap at h ⊢
   split at h
   · exact hk _ _ (.val _) id h
   · exact hk _ _ (.val _) id h
   · exact h.elim
 · unfold v_8 at h ⊢
   split at h
   · obtain ⟨id,clock,es,q1,q2⟩:=h
     exact ⟨id,clock,es,q1,hk _ _ (.tup _) (fun hf=>hf.set _ _) q2⟩
   · exact h.elim
 · unfold a_ck at h ⊢
   split at h
   · split at h
     · split at h
       · obtain ⟨rd,q1,q3⟩:=h
         refine ⟨rd,q1,?_⟩
         rcases q3 with ⟨q3,q4⟩ | ⟨id,i0,len,tt,rows,q3,q4,q5⟩
         · exact .inl ⟨q3,hk _ _ (.tup _) id q4⟩
         · exact .inr ⟨id,i0,len,tt,rows,q3,q4,hk _ _ (.tup _) (fun hf=>hf.set _ _) q5⟩
       · exact h.elim
     · exact h.elim
   · exact h.elim
 · exact h.elim
theorem a_aa (hnd:ND env)(h:c_p P an o env σ K)(hk:∀e' s',Eff P an o env σ e' s'→K e' s'→K' e' s') :c_p P an o env σ K':=by
 by_cases hv:e_s o.op=true
 · rw[f_i hv] at h ⊢
   obtain ⟨e,h1,h2,h3⟩:=k_5 hnd _ h
   exact h3 _ (hk _ _ (.val e h1 rfl (fun _=>rfl) (fun t p x ho=>by rw[ho] at hv;cases hv) id (fun _ _ _ _=> .inl rfl) (fun _=> .refl _)) h2)
 · have hput:∀e s',e_x an o=false→(∀t p x,o.op= .store t p x→Shape σ s'∧∀s off,opE env p≠ .bp s off)→(Fin σ→Fin s')→(∀t m k,o.op= .mapEntry t m k→MExt P t σ s')→(isMp o.op=true→LiveKeep σ s')→NBe env e→K (a_n env o.dst e) s'→K' (a_n env o.dst e) s':=fun e s' hna hst hf hm hl hn hK=>hk _ _ (.val e hn rfl (fun hc=>hc.elim (fun hc=>absurd hc hv) (fun hc=>by rw[hna] at hc;cases hc)) hst hf hm hl) hK
   have al:∀t cs,((∃t',o.op= .alloc t')∨∃t' x,o.op= .box t' x)→c_x an o.dst t cs env σ K→c_x an o.dst t cs env σ K':=by
     intro t cs hal h
     unfold c_x at h ⊢
     cases hd':o.dst with
     | none=>rw[hd'] at h;exact h
     | some d'=>
       cases cs with
       | none=>rw[hd'] at h;exact h
       | some cs=>
         rw[hd'] at h
         show (match an.esc.contains d' with
           | true=>newObj σ (.live t [cs]) fun id σ'=>K' (a_t env d' (.el (.osl id 0 1) 0 0)) σ'
           | false=>match an.cbs.contains d' with
             | true=>K' (a_t env d' (.cb cs)) σ
             | false=>K' (a_t env d' (.bx cs)) σ)
         have h:(match an.esc.contains d' with
           | true=>newObj σ (.live t [cs]) fun id σ'=>K (a_t env d' (.el (.osl id 0 1) 0 0)) σ'
           | false=>match an.cbs.contains d' with
             | true=>K (a_t env d' (.cb cs)) σ
             | false=>K (a_t env d' (.bx cs)) σ):=h
         have hal':an.esc.contains d'=false→e_x an o=true:=fun he=>by
           unfold e_x;rcases hal with ⟨t',ho⟩ | ⟨t',x,ho⟩ <;> simp only[ho,hd',he] <;> rfl
         cases hesc:an.esc.contains d' with
         | true=>
           rw[hesc] at h
           intro id hid
           have:=hput (.el (.osl id 0 1) 0 0) (σ.set id (.live t [cs])) (by unfold e_x;rcases hal with ⟨t',ho⟩ | ⟨t',y,ho⟩ <;> simp only[ho,hd',hesc] <;> rfl) (fun t p x hs=>by rcases hal with ⟨t',ho⟩ | ⟨t',y,ho⟩ <;> rw[ho] at hs <;> cases hs) (fun hf=>hf.set _ _) (fun t m k hs=>by rcases hal with ⟨t',ho⟩ | ⟨t',y,ho⟩ <;> rw[ho] at hs <;> cases hs) (fun hs=>by rcases hal with ⟨t',ho⟩ | ⟨t',y,ho⟩ <;> rw[ho] at hs <;> cases hs) (.el _ _ _)
           rw[hd'] at this
           exact this (h id hid)
         | false=>
           rw[hesc] at h
           cases hcb:an.cbs.contains d' with
           | true=>rw[hcb] at h;exact hk _ _ (.al d' _ cs hd' (.inr rfl) rfl rfl (hal' hesc)) h
           | false=>rw[hcb] at h;exact hk _ _ (.al d' _ cs hd' (.inl rfl) rfl rfl (hal' hesc)) h
   have fcall:(∃c,o.op= .call c)→∀f as0,u_a P o f as0 σ (fun e s'=>K (a_n env o.dst e) s')→u_a P o f as0 σ (fun e s'=>K' (a_n env o.dst e) s'):=fun hc f as0 h=>
     h.fin.mono fun r s hr=>l_d (fun e hn hK=>hput e s (by obtain ⟨c,ho⟩:=hc;unfold e_x;rw[ho]) (fun t p x hs=>by obtain ⟨c,ho⟩:=hc;rw[ho] at hs;cases hs) (fun _=>hr.1) (fun t m k hs=>by obtain ⟨c,ho⟩:=hc;rw[ho] at hs;cases hs) (fun hs=>by obtain ⟨c,ho⟩:=hc;rw[ho] at hs;cases hs) hn hK) hr.2
   unfold c_p at h ⊢
   cases ho:o.op <;> simp only[ho,e_s] at h hv ⊢ <;> first | exact h.elim | exact absurd trivial hv | skip
   case alloc t=>exact al t _ (.inl ⟨t,ho⟩) h
   case box t x=>exact al t _ (.inr ⟨t,x,ho⟩) h
   case buildSlice t len ps=>
     unfold c_m at h ⊢
     split at h
     · split at h
       · split at h
         · split at h
           · exact fun id hid=>hput _ _ (by unfold e_x;rw[ho]) (fun t p x hs=>by rw[ho] at hs;cases hs) (fun hf=>hf.set _ _) (fun t m k hs=>by rw[ho] at hs;cases hs) (fun hs=>by rw[ho] at hs;cases hs) (.val _) (h id hid)
           · exact h.elim
         · exact h.elim
       · exact h.elim
     · exact h.elim
   case makeSlice t l c=>
     unfold c_0 at h ⊢
     split at h
     · split at h
       · split at h
         · exact ⟨h.1,h.2.1,h.2.2.1,fun id hid=>hput _ _ (by unfold e_x;rw[ho]) (fun t p x hs=>by rw[ho] at hs;cases hs) (fun hf=>hf.set _ _) (fun t m k hs=>by rw[ho] at hs;cases hs) (fun hs=>by rw[ho] at hs;cases hs) (.val _) (h.2.2.2 id hid)⟩
         · exact h.elim
       · exact h.elim
     · exact h.elim
   case store t p x=>
     unfold x_k at h ⊢
     cases hy:toA (opE env x) with
     | none=>rw[hy] at h;exact h
     | some y=>
       rw[hy] at h
       simp only[] at h ⊢
       have hel:(∀s off,opE env p≠ .bp s off)→∀s i off,a_d (b_j y) σ s i off (fun σ'=>K (a_n env o.dst .undef) σ')→a_d (b_j y) σ s i off (fun σ'=>K' (a_n env o.dst .undef) σ'):=by
         rintro hnp s i off ⟨id,i0,len,t',rows,row,q1,q2,q3,q4,q5,q6⟩
         exact ⟨id,i0,len,t',rows,row,q1,q2,q3,q4,q5,hput _ _ (by unfold e_x;rw[ho]) (fun t1 p1 x1 hs=>by
           rw[ho] at hs;injection hs with _ hs _;subst hs
           refine ⟨fun id' t2 rows2 hl=>?_,hnp⟩
           by_cases e:id'=id
           · subst e;rw[q3] at hl;injection hl with e1 e2;subst e1 e2;exact ⟨_,Store.set_same _ _ _⟩
           · exact ⟨rows2,by rw[Store.set_ne _ _ e];exact hl⟩) (fun hf=>hf.set _ _) (fun t m k hs=>by rw[ho] at hs;cases hs) (fun hs=>by rw[ho] at hs;cases hs) .undef q6⟩
       split at h
       · cases hp:opE env p with
         | bp s off=>
           rw[hp] at h
           simp only[k_l] at h ⊢
           cases hg:get env s with
           | bx cs=>
             rw[hg] at h
             simp only[] at h ⊢
             split at h
             · exact hk _ _ (.st t p x s off cs _ ho hp hg rfl rfl) h
             · exact h.elim
           | _=>rw[hg] at h;exact h.elim
         | el s i off=>rw[hp] at h;exact hel (fun s off hc=>by rw[hp] at hc;cases hc) s i off h
         | val z=>
           rw[hp] at h
           cases z with
           | one w=>
             obtain ⟨s,i,off,e1,h⟩:=h
             exact ⟨s,i,off,e1,hel (fun s off hc=>by rw[hp] at hc;cases hc) s i off h⟩
           | agg w=>exact h
         | _=>rw[hp] at h;exact h.elim
       · exact h.elim
   case call c=>
     obtain ⟨callee,args,types⟩:=c
     unfold u_l at h ⊢
     cases callee with
     | builtin b=>
       cases b <;> (try simp only[] at h hv ⊢) <;> first | exact h.elim | exact absurd trivial hv | skip
       case cap=>exact l_u (env:=env) (fun e s' hn hf hK=>hput e s' (by unfold e_x;rw[ho]) (fun t p x hs=>by rw[ho] at hs;cases hs) hf (fun t m k hs=>by rw[ho] at hs;cases hs) (fun hs=>by rw[ho] at hs;cases hs) hn hK) h
       case copy=>exact l_u (env:=env) (fun e s' hn hf hK=>hput e s' (by unfold e_x;rw[ho]) (fun t p x hs=>by rw[ho] at hs;cases hs) hf (fun t m k hs=>by rw[ho] at hs;cases hs) (fun hs=>by rw[ho] at hs;cases hs) hn hK) h
       case delete=>exact l_u (env:=env) (fun e s' hn hf hK=>hput e s' (by unfold e_x;rw[ho]) (fun t p x hs=>by rw[ho] at hs;cases hs) hf (fun t m k hs=>by rw[ho] at hs;cases hs) (fun hs=>by rw[ho] at hs;cases hs) hn hK) h
       case clear=>exact l_u (env:=env) (fun e s' hn hf hK=>hput e s' (by unfold e_x;rw[ho]) (fun t p x hs=>by rw[ho] at hs;cases hs) hf (fun t m k hs=>by rw[ho] at hs;cases hs) (fun hs=>by rw[ho] at hs;cases hs) hn hK) h
       split at h
       · split at h
         · exact a_bo (K' := fun e s => K' (a_n env o.dst e) s) (fun d s hd hK => hput (.val (.one d)) s (by unfold e_x; rw [ho]) (fun t p x hs => by rw [ho] at hs; cases hs)
             (fun hf=>hd.elim (fun h=>h ▸ hf) (fun ⟨id,so,h⟩=>h ▸ hf.set _ _)) (fun t m k hs=>by rw[ho] at hs;cases hs) (fun hs=>by rw[ho] at hs;cases hs) (.val _) hK) h
         · exact y_7 (K' := fun e s => K' (a_n env o.dst e) s) (fun d s hd hK => hput (.val (.one d)) s (by unfold e_x; rw [ho]) (fun t p x hs => by rw [ho] at hs; cases hs)
             (fun hf=>hd.elim (fun h=>h ▸ hf) (fun ⟨id,so,h⟩=>h ▸ hf.set _ _)) (fun t m k hs=>by rw[ho] at hs;cases hs) (fun hs=>by rw[ho] at hs;cases hs) (.val _) hK) h
       · exact h.elim
     | invoke r m=>exact h.elim
     | value f=>
       have hval:∀x as0,w_y P o x as0 σ (fun e s'=>K (a_n env o.dst e) s')→w_y P o x as0 σ (fun e s'=>K' (a_n env o.dst e) s'):=by
         intro x as0 h
         unfold w_y at h ⊢
         split at h
         · obtain ⟨f,a,b,as0',bs,q1,q2,q3,q4⟩:=h
           exact ⟨f,a,b,as0',bs,q1,q2,q3,fcall ⟨_,ho⟩ _ _ q4⟩
         · exact h.elim
       cases f <;> simp only[] at h ⊢ <;> (cases hta:k_i env args.toList with | none=>rw[hta] at h;exact h | some as0=>rw[hta] at h;first | exact fcall ⟨_,ho⟩ _ _ h | exact hval _ _ h)
   all_goals exact a_k5 (env:=env) (fun e s' hn hf hm hl hK=>hput e s' (by unfold e_x;rw[ho]) (fun t p x hs=>by rw[ho] at hs;cases hs) hf (fun t m k hs=>hm t m k (by rw[←ho];exact hs)) (fun hs=>hl (by rw[←ho];exact hs)) hn hK) h
theorem NBe.nd {e:E}(hnd:ND env)(hnb:boxDst env o=false)(h:NBe env e) :ND (a_n env o.dst e):=by
 intro s d off hg
 cases hdst:o.dst with
 | none=>rw[hdst] at hg;exact hnd s d off hg
 | some d'=>
   rw[hdst] at hg
   have hb:d_v (get env d') =false:=by simpa[boxDst,hdst] using hnb
   have key:d_v (get env d) =true→d_v (get (a_t env d' e) d) =true:=fun hd=>by
     have:d≠d':=fun he=>by subst he;rw[hd] at hb;cases hb
     rw[a_0 _ _ this];exact hd
   have hg:get (a_t env d' e) s= .bp d off:=hg
   by_cases hs:s=d'
   · subst hs;rw[b_f] at hg;exact key (h.2 d off hg)
   · rw[a_0 _ _ hs] at hg;exact key (hnd s d off hg)
theorem Eff.nd {e':Env}{s':Store}(h:Eff P an o env σ e' s')(hnd:ND env)(hnb:boxDst env o=false) :ND e':=by
 cases h with
 | val e h he hs hst hf=>subst he;exact h.nd hnd hnb
 | st t p x s off cs cs' ho hp hg he hs=>
   subst he
   have h1:ND (a_t env s (.bx cs')):=fun s1 d1 off1 hg1=>by
     have key:d_v (get env d1) =true→d_v (get (a_t env s (.bx cs')) d1) =true:=fun hd=>by
       by_cases he:d1=s
       · subst he;rw[b_f];rfl
       · rw[a_0 _ _ he];exact hd
     by_cases hs:s1=s
     · subst hs;rw[b_f] at hg1;cases hg1
     · rw[a_0 _ _ hs] at hg1;exact key (hnd s1 d1 off1 hg1)
   have h2:boxDst (a_t env s (.bx cs')) o=false:=by
     unfold boxDst at hnb ⊢
     cases hd:o.dst with
     | none=>rfl
     | some d=>
       rw[hd] at hnb
       have:d≠s:=fun he=>by subst he;simp only[hg] at hnb;cases hnb
       simp only[a_0 _ _ this];exact hnb
   exact NBe.undef.nd h1 h2
 | al d e cs hd hb he hs ha=>
   subst he
   intro s1 d1 off1 hg1
   have hdb:d_v (get env d) =false:=by simpa[boxDst,hd] using hnb
   by_cases hs:s1=d
   · subst hs;rw[b_f] at hg1;rcases hb with rfl | rfl <;> cases hg1
   · rw[a_0 _ _ hs] at hg1
     have:=hnd s1 d1 off1 hg1
     by_cases he:d1=d
     · subst he;rw[this] at hdb;cases hdb
     · rw[a_0 _ _ he];exact this
/-! ### operations that are wanted or not -/
def d_5 (all:Array Oper)(o:Oper)(env:Env) :Option Bool:=
 match o.guard with
 | none=>some true
 | some (j,want)=>match (all[j]?).bind (·.dst) with
   | some d=>match get env d with
     | .sk=>some false
     | .val (.one (.bool b))=>some (b == want)
     | _=>none
   | none=>none
theorem a_u {st:Oper→Env→Store→a_4→Prop}{all:Array Oper} :
   a_5 st all o env σ K↔boxDst env o=false∧((d_5 all o env=some true∧st o env σ K)∨(d_5 all o env=some false∧K (a_n env o.dst .sk) σ)):=by
 unfold a_5 d_5
 cases boxDst env o with
 | true=>simp
 | false=>
   simp only[true_and]
   cases o.guard with
   | none=>simp
   | some g=>
     obtain ⟨j,want⟩:=g
     cases hd:(all[j]?).bind (·.dst) with
     | none=>simp[hd]
     | some d=>
       simp only[hd]
       cases hg:get env d with
       | sk=>simp[hg]
       | val x=>
         cases x with
         | one y=>
           cases y with
           | bool b=>
             have hs:=a_ja hg
             cases b <;> cases want <;> simp[hg,a_c,hs]
           | _=>simp[hg]
         | agg cs=>simp[hg]
       | _=>simp[hg]
end
end
section
section
variable {P:Program} {an:Ann} {env env':Env} {σ σ':Store} {o x y:Oper} {K K':a_4} {d:Nat} {e:E} {da:DAnn} {ops:Array Oper} {xi yi:Nat}
def GEff (P:Program)(an:Ann)(da:DAnn)(xi:Nat)(o:Oper)(env:Env)(σ:Store)(e':Env)(s':Store) :Prop:=
 (okR da xi o.op env=true∧Eff P an o env σ e' s')∨(e'=a_n env o.dst .sk∧s'=σ)
theorem GEff.nd {e':Env}{s':Store}(h:GEff P an da xi o env σ e' s')(hnd:ND env)(hnb:boxDst env o=false) :ND e':=by
 rcases h with ⟨_,h⟩ | ⟨rfl,_⟩
 · exact h.nd hnd hnb
 · exact NBe.sk.nd hnd hnb
theorem GEff.fin {e':Env}{s':Store}(h:GEff P an da xi o env σ e' s')(hf:Fin σ) :Fin s':=by
 rcases h with ⟨_,h⟩ | ⟨_,rfl⟩
 · cases h with
   | val e h he hs hst hf'=>exact hf' hf
   | st t p v s off cs cs' ho hp hg he hs=>rw[hs];exact hf
   | al d e cs hd hb he hs ha=>rw[hs];exact hf
 · exact hf
theorem rstep_iff:a_9 P an da xi o env σ K↔okR da xi o.op env=true∧((∃c,da.cs xi=some c∧z_7 P c o env σ K)∨(da.cs xi=none∧da.sp.contains xi=false∧c_p P an o env σ K)):=by
 unfold a_9
 cases okR da xi o.op env with
 | false=>simp
 | true=>
   cases hc:da.cs xi with
   | some c=>simp
   | none=>cases hs:da.sp.contains xi <;> simp
theorem d_r {c:CSpec} :z_7 P c o env σ K↔∃f as0,i_1 o.op=some f∧z_i env o.op=some as0∧c.pre as0 σ∧∀r s,c.post as0 σ r s→v_l P o.type r fun e=>K (a_n env o.dst e) s:=by
 unfold z_7
 cases i_1 o.op with
 | none=>simp
 | some f=>
   cases z_i env o.op with
   | none=>simp
   | some as0=>simp
theorem y_f {t:TypeId}{p:Prop}(h:x_c P t fun _=>p) :p:=by
 obtain ⟨e,_,hp,_⟩:=a_hu (env:=env0) (F:=fun x put=>put .undef) (fun x=>b_7 .undef) (fun _=>p) h
 exact hp
theorem u_m {p:Prop} :∀{ts:List TypeId} {f:List A→List A},z_4 P ts f (fun _=>p)→p
 | [],f,h=>h
 | t::ts,f,h=>y_f (o_u (fun x hx=>u_m hx) h)
theorem a_oc {t:TypeId}{r:RV}{K:E→Prop}(h:v_l P t r K) :∃e,K e:=by
 unfold v_l at h
 split at h
 · exact u_m (q_1 (fun xs ⟨_,h2⟩=>⟨_,h2⟩) h)
 · exact y_f (o_u (fun x ⟨_,h2⟩=>⟨_,h2⟩) h)
theorem g_u {op:Op}{f:FuncId}(h:i_1 op=some f) :∃cl,op= .call cl∧cl.callee= .value (.func f):=by
 unfold i_1 at h
 split at h
 · rename_i cl
   split at h
   · rename_i g hg
     injection h with h;subst h
     exact ⟨cl,rfl,hg⟩
   · cases h
 · cases h
theorem i_n {op:Op}{f:FuncId}(h:i_1 op=some f) :e_s op=false∧k_f op=false∧h_j op=false∧(∀t m k,op≠ .mapEntry t m k):=by
 obtain ⟨cl,rfl,hc⟩:=g_u h
 refine ⟨?_,rfl,rfl,fun t m k e=>by cases e⟩
 obtain ⟨callee,args,types⟩:=cl
 have hc:callee= .value (.func f):=hc
 subst hc
 rfl
theorem u_o {op:Op}(h:∀z ∈ op.operands,opE env' z=opE env z) :z_i env' op=z_i env op:=by
 unfold z_i
 split
 · rename_i cl
   exact i_v fun x hx=>h x (by simp at hx;simp[Op.operands,Call.operands,hx])
 · rfl
theorem a_g5 (hsl:∀i c,da.cs i=some c→f_9 c){c:CSpec}(hc:da.cs xi=some c)(h:z_7 P c o env σ K)(hk:∀e' s',Eff P an o env σ e' s'→(∀i,σ i≠ .free→s' i=σ i)→K e' s'→K' e' s') :z_7 P c o env σ K':=by
 rw[d_r] at h ⊢
 obtain ⟨f,as0,h1,h2,h3,h4⟩:=h
 obtain ⟨v1,v2,v3,v4⟩:=i_n h1
 refine ⟨f,as0,h1,h2,h3,fun r s hr=>l_d (env:=env) (fun e hn hK=>hk _ _ (.val e hn rfl (fun hc=>?_) (fun t p x hs=>?_) (fun hf=>(hsl _ _ hc).2.1 _ _ _ _ hr hf) (fun t m k hs=>absurd hs (v4 t m k)) (fun hs=>?_)) ((hsl _ _ hc).2.2.2 _ _ _ _ h3 hr) hK) (h4 r s hr)⟩
 · rcases hc with hc | hc
   · rw[v1] at hc;cases hc
   · obtain ⟨cl,ho,_⟩:=g_u h1
     unfold e_x at hc;rw[ho] at hc;cases hc
 · rw[hs] at v3;cases v3
 · obtain ⟨cl,ho,_⟩:=g_u h1
   rw[ho] at hs;cases hs
theorem a_hi (hsl:∀i c,da.cs i=some c→f_9 c)(hnd:ND env)(h:a_5 (a_9 P an da xi) ops x env σ K)(hk:∀e' s',GEff P an da xi x env σ e' s'→(da.sp.contains xi=true→∀i,σ i≠ .free→s' i=σ i)→boxDst env x=false→K e' s'→K' e' s') :
   a_5 (a_9 P an da xi) ops x env σ K':=by
 rw[a_u] at h ⊢
 obtain ⟨hb,h⟩:=h
 refine ⟨hb,h.imp (fun ⟨h1,h2⟩=>⟨h1,?_⟩) (fun ⟨h1,h2⟩=>⟨h1,hk _ _ (.inr ⟨rfl,rfl⟩) (fun _ _ _=>rfl) hb h2⟩)⟩
 rw[rstep_iff] at h2 ⊢
 obtain ⟨hr,h2⟩:=h2
 refine ⟨hr,h2.imp (fun ⟨c,h3,h4⟩=>⟨c,h3,a_g5 hsl h3 h4 fun e' s' he hx hK=>hk _ _ (.inl ⟨hr,he⟩) (fun _=>hx) hb hK⟩) (fun ⟨h3,h4,h5⟩=>⟨h3,h4,a_aa hnd h5 fun e' s' he hK=>hk _ _ (.inl ⟨hr,he⟩) (fun hc=>by rw[h4] at hc;cases hc) hb hK⟩)⟩
theorem w_i (hsl:∀i c,da.cs i=some c→f_9 c)(hnd:ND env)(h:a_5 (a_9 P an da xi) ops x env σ K)(hk:∀e' s',GEff P an da xi x env σ e' s'→boxDst env x=false→K e' s'→K' e' s') :
   a_5 (a_9 P an da xi) ops x env σ K':=a_hi hsl hnd h fun e' s' hg _ hb hK=>hk e' s' hg hb hK
theorem a_e4 {op:Op}{z:Operand}(h:o_a op=some z) :∃t,op= .load t z:=by
 unfold o_a at h
 split at h
 · injection h with h;subst h;exact ⟨_,rfl⟩
 · cases h
theorem u_k {op:Op}{r:Nat}(h:k_g op=some r) :∃t v,op= .store t (.tmp r) v:=by
 unfold k_g at h
 split at h
 · injection h with h;subst h;exact ⟨_,_,rfl⟩
 · cases h
theorem z_u (h:e_x an y=true) :∃d,y.dst=some d∧an.esc.contains d=false∧((∃t,y.op= .alloc t)∨∃t z,y.op= .box t z):=by
 unfold e_x at h
 split at h
 · rename_i t d ho hd;exact ⟨d,hd,by simpa using h, .inl ⟨t,ho⟩⟩
 · rename_i t z d ho hd;exact ⟨d,hd,by simpa using h, .inr ⟨t,z,ho⟩⟩
 · cases h
theorem a_jd {op:Op}(h:isLd op=true) :∃t z,op= .load t z:=by
 unfold isLd at h
 split at h
 · exact ⟨_,_,rfl⟩
 · cases h
theorem a_kt (h:sdep P y.op=false)(env:Env) :s_q P y env:=by
 unfold s_q
 split
 · rename_i ho;rw[ho] at h;cases h
 · rename_i ho;rw[ho] at h;cases h
 · rename_i t _ _ _ _ ho
   rw[ho] at h
   unfold sdep at h
   simp only at h
   split at h
   · assumption
   · cases h
 · rename_i ho;rw[ho] at h;cases h
 · trivial
theorem s_9 {z:Nat}(h:Operand.tmp z ∈ o.op.operands) :z ∈ o.looksAt ops:=by
 unfold Oper.looksAt
 exact List.mem_append_left _ (List.mem_filterMap.2 ⟨.tmp z,by simpa using h,rfl⟩)
theorem u_h {j:Nat}{w:Bool}(hg:o.guard=some (j,w))(hd:(ops[j]?).bind (·.dst) =some d) :d ∈ o.looksAt ops:=by
 unfold Oper.looksAt
 simp[hg,hd]
theorem a_dt (h:d ∉ o.looksAt ops) :d_5 ops o (a_t env d e) =d_5 ops o env:=by
 unfold d_5
 cases hg:o.guard with
 | none=>rfl
 | some g=>
   obtain ⟨j,w⟩:=g
   cases hd:(ops[j]?).bind (·.dst) with
   | none=>simp only[hd]
   | some d'=>
     have:d'≠d:=fun he=>h (he ▸ u_h hg hd)
     simp only[hd,a_0 _ _ this]
theorem a_f9 (h:o.dst≠some d) :boxDst (a_t env d e) o=boxDst env o:=by
 unfold boxDst
 cases hd:o.dst with
 | none=>rfl
 | some d'=>
   have:d'≠d:=fun he=>h (by rw[hd,he])
   simp only[a_0 _ _ this]
theorem e_0 (op:Op)(h:∀z ∈ op.operands,opE env' z=opE env z)(hb:∀t r v,op= .store t (.tmp r) v→isBx (get env' r) =isBx (get env r))(i:Nat) :okR da i op env'=okR da i op env:=by
 unfold okR
 have hst:∀z,s_z op=some z→opE env' z=opE env z:=fun z hz=>by
   unfold s_z at hz
   split at hz
   · rename_i t p v
     injection hz with hz;subst hz
     exact h p (by simp[Op.operands])
   · cases hz
 cases hl:o_a op with
 | none=>
   cases hs:k_g op with
   | none=>
     cases hz:s_z op with
     | none=>rfl
     | some z=>simp only[hst z hz]
   | some r=>
     obtain ⟨t,v,ho⟩:=u_k hs
     cases hz:s_z op with
     | none=>simp only[hb t r v ho]
     | some z=>simp only[hb t r v ho,hst z hz]
 | some z=>
   obtain ⟨t,ho⟩:=a_e4 hl
   have hz:=h z (by rw[ho];simp[Op.operands])
   have hs:k_g op=none:=by rw[ho];rfl
   simp only[hz,hs]
theorem a_kf (hnd:ND env)(hnb:d_v (get env d) =false)(hl:d ∉ x.looksAt ops)(hdst:x.dst≠some d)(h:a_5 (a_9 P an da xi) ops x (a_t env d e) σ K) :
   a_5 (a_9 P an da xi) ops x env σ (fun e' s'=>K (a_t e' d e) s'):=by
 have hops:Operand.tmp d ∉ x.op.operands:=fun hm=>hl (s_9 hm)
 rw[a_u,a_dt hl,a_f9 hdst] at h
 rw[a_u]
 refine ⟨h.1,h.2.imp (fun ⟨h1,h2⟩=>⟨h1,?_⟩) (fun ⟨h1,h2⟩=>⟨h1,by rw[c_j hdst] at h2;exact h2⟩)⟩
 rw[rstep_iff] at h2 ⊢
 rw[e_0 (env:=env) x.op (fun z hz=>o_s (fun he=>hops (he ▸ hz))) (fun t r v hs=>by
   have hr:Operand.tmp r ∈ x.op.operands:=by rw[hs];simp[Op.operands]
   have:r≠d:=fun he=>hops (he ▸ hr)
   rw[a_0 _ _ this]) xi] at h2
 obtain ⟨hr,h2⟩:=h2
 refine ⟨hr,h2.imp (fun ⟨c,h3,h4⟩=>⟨c,h3,?_⟩) (fun ⟨h3,h4,h5⟩=>⟨h3,h4,a_fb hnd hnb hops hdst h5⟩)⟩
 rw[d_r] at h4 ⊢
 obtain ⟨f,as0,g1,g2,g3,g4⟩:=h4
 rw[u_o (env:=env) (fun z hz=>o_s (fun he=>hops (he ▸ hz)))] at g2
 refine ⟨f,as0,g1,g2,g3,fun r s hr=>?_⟩
 have:=g4 r s hr
 simpa only[c_j hdst] using this
theorem GEff.opE {e':Env}{s':Store}(h:GEff P an da xi x env σ e' s')(z:Operand)(hz:∀d,x.dst=some d→z≠ .tmp d) :opE e' z=opE env z:=by
 have hput:∀env1 e1,Fw.opE (a_n env1 x.dst e1) z=Fw.opE env1 z:=fun env1 e1=>by
   cases hd:x.dst with
   | none=>rfl
   | some d=>exact o_s (hz d hd)
 rcases h with ⟨_,h⟩ | ⟨rfl,_⟩
 · cases h with
   | val e h he hs hst hf=>subst he;exact hput _ _
   | st t p v s off cs cs' ho hp hg he hs=>
     subst he
     rw[hput]
     cases z with
     | tmp q=>
       by_cases hq:q=s
       · subst hq;simp only[Fw.opE,b_f,hg]
       · exact o_s (fun hc=>hq (by injection hc))
     | _=>rfl
   | al d e cs hd hb he hs ha=>subst he;exact o_s (hz d hd)
 · exact hput _ _
theorem GEff.get {e':Env}{s':Store}(h:GEff P an da xi x env σ e' s')(z:Nat)(hz:x.dst≠some z) :
 get e' z=get env z∨∃t p v off cs cs',okR da xi x.op env=true∧x.op= .store t p v∧Fw.opE env p= .bp z off∧Fw.get env z= .bx cs∧Fw.get e' z= .bx cs':=by
 have hput:∀env1 e1,Fw.get (a_n env1 x.dst e1) z=Fw.get env1 z:=fun env1 e1=>by
   cases hd:x.dst with
   | none=>rfl
   | some d=>exact a_0 _ _ (fun he=>hz (by rw[hd,he]))
 rcases h with ⟨hk,h⟩ | ⟨rfl,_⟩
 · cases h with
   | val e h he hs hst hf=>subst he;exact .inl (hput _ _)
   | st t p v s off cs cs' ho hp hg he hs=>
     subst he
     rw[hput]
     by_cases hq:z=s
     · subst hq;exact .inr ⟨t,p,v,off,cs,cs',hk,ho,hp,hg,b_f _ _ _⟩
     · exact .inl (a_0 _ _ hq)
   | al d e cs hd hb he hs ha=>subst he;exact .inl (a_0 _ _ (fun he=>hz (by rw[hd,he])))
 · exact .inl (hput _ _)
theorem GEff.boxDst {e':Env}{s':Store}(h:GEff P an da xi x env σ e' s')(hd:∀d,x.dst=some d→y.dst≠some d) :boxDst e' y=boxDst env y:=by
 unfold Fw.boxDst
 cases hy:y.dst with
 | none=>rfl
 | some d'=>
   simp only
   rcases h.get d' (fun hx=>hd d' hx hy) with h1 | ⟨t,p,v,off,cs,cs',_,_,_,h3,h4⟩
   · rw[h1]
   · rw[h3,h4];rfl
theorem GEff.wanted {e':Env}{s':Store}(h:GEff P an da xi x env σ e' s')(hl:∀d,x.dst=some d→d ∉ y.looksAt ops) :d_5 ops y e'=d_5 ops y env:=by
 unfold d_5
 cases hg:y.guard with
 | none=>rfl
 | some g=>
   obtain ⟨j,w⟩:=g
   cases hd:(ops[j]?).bind (·.dst) with
   | none=>simp only[hd]
   | some d'=>
     simp only[hd]
     rcases h.get d' (fun hx=>hl d' hx (u_h hg hd)) with h1 | ⟨t,p,v,off,cs,cs',_,_,_,h3,h4⟩
     · rw[h1]
     · rw[h3,h4]
theorem a_ff (h:v_4 P an ops da yi y xi x=true) :y.apart ops x=true∧(e_x an y=true∨(k_f y.op=true∧k_f x.op=true)∨(da.sp.contains yi=true∧k_f x.op=true)∨(da.sp.contains xi=true∧(i_1 x.op).isSome=true∧e_s y.op=true∧isLk y.op=false)∨((h_j x.op=true∨k_f x.op=true)∧isIx y.op=true)∨(e_s y.op=true∧
   (sdep P y.op=false∨e_s x.op=true∨e_x an x=true∨
     (h_j x.op=true∧da.dir.contains xi=true∧(isLd y.op=false∨∃r,k_g x.op=some r∧∃p ∈ da.av,p.1=yi∧p.2=r))∨
     (isLd y.op=true∧da.nb.contains yi=true∧(h_j x.op=false∨da.nb.contains xi=true))∨lkMe y.op x.op=true))∨(e_s y.op=true∧isLk y.op=false∧(k_f x.op=true∨a_ee an x=true))):=by
 unfold v_4 at h
 simp only[Bool.and_eq_true,Bool.or_eq_true,Bool.not_eq_true'] at h
 obtain ⟨h1,h2⟩:=h
 refine ⟨h1,?_⟩
 rcases h2 with ((((((h2 | h2) | h2) | h2) | h2) | h2) | h5) | ⟨h3,h4⟩
 · exact .inl h2
 · exact .inr (.inl h2)
 · exact .inr (.inr (.inl h2))
 rotate_left 1
 · exact .inr (.inr (.inr (.inl ⟨h2.1.1.1,h2.1.1.2,h2.1.2,h2.2⟩)))
 · exact .inr (.inr (.inr (.inr (.inl h2))))
 · exact .inr (.inr (.inr (.inr (.inr (.inr ⟨h5.1.1,h5.1.2,h5.2⟩)))))
 rotate_left 1
 · refine .inr (.inr (.inr (.inr (.inr (.inl ⟨?_, .inr (.inr (.inr (.inr (.inr h2))))⟩)))))
   unfold lkMe at h2
   split at h2
   · rename_i ho _;rw[ho];rfl
   · cases h2
 refine .inr (.inr (.inr (.inr (.inr (.inl ⟨h3,?_⟩)))))
 rcases h4 with ((((h | h) | h) | h) | h)
 · exact .inl h
 · exact .inr (.inl h)
 · exact .inr (.inr (.inl h))
 · refine .inr (.inr (.inr (.inl ⟨h.1.1,h.1.2,h.2.imp id fun hs=>?_⟩)))
   cases hr:k_g x.op with
   | none=>rw[hr] at hs;cases hs
   | some r=>
     rw[hr] at hs
     obtain ⟨p,hp,hq⟩:=List.any_eq_true.1 hs
     simp only[Bool.and_eq_true,beq_iff_eq] at hq
     exact ⟨r,rfl,p,hp,hq.1,hq.2⟩
 · exact .inr (.inr (.inr (.inr (.inl ⟨h.1.1,h.1.2,by simpa using h.2⟩))))
theorem a_o8 {t:TypeId}{z:Operand}(h:okR da yi (.load t z) env=true)(hn:da.nb.contains yi=true) :∃s off,opE env z= .bp s off:=by
 unfold okR at h
 simp only[hn,o_a,Bool.and_eq_true] at h
 have h1:=h.1.1
 cases he:opE env z with
 | bp s off=>exact ⟨s,off,rfl⟩
 | _=>rw[he] at h1;cases h1
theorem a_pd {op:Op}{t:TypeId}{p v:Operand}(h:okR da xi op env=true)(ho:op= .store t p v)(hn:da.nb.contains xi=true) :t_2 (opE env p) =none:=by
 subst ho
 unfold okR at h
 simp only[hn,o_a,s_z,Bool.and_eq_true] at h
 have h1:=h.1.1
 cases he:t_2 (opE env p) with
 | none=>rfl
 | some q=>rw[he] at h1;cases h1
theorem a_pb {t:TypeId}{z:Operand}{s off:Nat}(h:okR da yi (.load t z) env=true)(hz:opE env z= .bp s off){p:Nat × Nat}(hp:p ∈ da.av)(h1:p.1=yi) :p.2≠s:=by
 unfold okR at h
 simp only[Bool.and_eq_true,o_a,hz,t_2] at h
 have h2:=List.all_eq_true.1 h.1.2 p hp
 intro he
 simp[h1,he] at h2
theorem a_h7 {op:Op}(h:okR da xi op env=true)(hd:da.dir.contains xi=true) :∃t r v cs,op= .store t (.tmp r) v∧get env r= .bx cs:=by
 unfold okR at h
 simp only[hd,Bool.and_eq_true] at h
 have h1:=h.2
 cases hs:k_g op with
 | none=>rw[hs] at h1;cases h1
 | some r=>
   rw[hs] at h1
   obtain ⟨t,v,ho⟩:=u_k hs
   have h1:isBx (get env r) =true:=h1
   cases hg:get env r with
   | bx cs=>exact ⟨t,r,v,cs,ho,hg⟩
   | _=>rw[hg] at h1;cases h1
theorem a_i8 {t:TypeId}{l c:E}{K:E→Store→Prop}(h:c_0 P t l c σ K) :∃so len,so≠ .free∧newObj σ so (fun id s=>K (.val (.one (.osl id 0 len))) s)∧
   (∀σ' K',newObj σ' so (fun id s=>K' (.val (.one (.osl id 0 len))) s)→c_0 P t l c σ' K')∧(∀σ' K',c_0 P t l c σ' K'→newObj σ' so (fun id s=>K' (.val (.one (.osl id 0 len))) s)):=by
 unfold c_0 at h
 split at h
 · rename_i el m1 m2 hu
   split at h
   · rename_i z info hz hi
     split at h
     · rename_i hdec
       refine ⟨.live el (List.replicate m2.toNat z),m1.toNat,(by intro e;cases e),h.2.2.2,fun σ' K' h'=>?_,fun σ' K' h'=>?_⟩
       · unfold c_0
         simp only[hu,hz,hi,hdec]
         exact ⟨h.1,h.2.1,h.2.2.1,h'⟩
       · unfold c_0 at h'
         simp only[hu,hz,hi,hdec] at h'
         exact h'.2.2.2
     · exact h.elim
   · exact h.elim
 · exact h.elim
theorem v_k {t:TypeId}{ln:Nat}{ps:Option (List (Nat × List D))}{K:E→Store→Prop}(h:c_m P t ln ps σ K) :∃so len,so≠ .free∧newObj σ so (fun id s=>K (.val (.one (.osl id 0 len))) s)∧
   (∀σ' K',newObj σ' so (fun id s=>K' (.val (.one (.osl id 0 len))) s)→c_m P t ln ps σ' K')∧(∀σ' K',c_m P t ln ps σ' K'→newObj σ' so (fun id s=>K' (.val (.one (.osl id 0 len))) s)):=by
 unfold c_m at h
 split at h
 · rename_i el hu
   split at h
   · rename_i z ps' hz
     split at h
     · rename_i cs hf
       split at h
       · rename_i hdec
         refine ⟨.live el (j_b (P.cellsOf el) ln cs),ln,(by intro e;cases e),h,fun σ' K' h'=>?_,fun σ' K' h'=>?_⟩
         · unfold c_m
           simp only[hu,hz,hf,hdec]
           exact h'
         · unfold c_m at h'
           simp only[hu,hz,hf,hdec] at h'
           exact h'
       · exact h.elim
     · exact h.elim
   · exact h.elim
 · exact h.elim
theorem w_c (h:k_f y.op=true)(hs:c_p P an y env σ K) :∃so len,so≠ .free∧newObj σ so (fun id σ'=>K (a_n env y.dst (.val (.one (.osl id 0 len)))) σ')∧
   (∀(env':Env) (σ':Store) (K':a_4),(∀z ∈ y.op.operands,opE env' z=opE env z)→newObj σ' so (fun id s=>K' (a_n env' y.dst (.val (.one (.osl id 0 len)))) s)→c_p P an y env' σ' K')∧
   (∀(σ':Store) (K':a_4),c_p P an y env σ' K'→newObj σ' so (fun id s=>K' (a_n env y.dst (.val (.one (.osl id 0 len)))) s)):=by
 unfold k_f at h
 split at h
 · rename_i t l c ho
   have hform:∀env σ K,c_p P an y env σ K↔c_0 P t (opE env l) (opE env c) σ fun e σ'=>K (a_n env y.dst e) σ':=fun env σ K=>by unfold c_p;rw[ho]
   obtain ⟨so,len,q1,q2,q3,q4⟩:=a_i8 ((hform _ _ _).1 hs)
   refine ⟨so,len,q1,q2,fun env' σ' K' hop hn=>(hform _ _ _).2 ?_,fun σ' K' h'=>q4 σ' _ ((hform _ _ _).1 h')⟩
   rw[hop l (by rw[ho];simp[Op.operands]),hop c (by rw[ho];simp[Op.operands])]
   exact q3 σ' _ hn
 · rename_i t ln ps ho
   have hform:∀env σ K,c_p P an y env σ K↔c_m P t ln (e_t env ps.toList) σ fun e σ'=>K (a_n env y.dst e) σ':=fun env σ K=>by unfold c_p;rw[ho]
   obtain ⟨so,len,q1,q2,q3,q4⟩:=v_k ((hform _ _ _).1 hs)
   refine ⟨so,len,q1,q2,fun env' σ' K' hop hn=>(hform _ _ _).2 ?_,fun σ' K' h'=>q4 σ' _ ((hform _ _ _).1 h')⟩
   rw[h_7 (env':=env') (env:=env) (l:=ps.toList) fun x hx=>hop x.2 (by rw[ho];simp only[Op.operands,List.mem_toArray,List.mem_map];exact ⟨x,hx,rfl⟩)]
   exact q3 σ' _ hn
 · cases h
theorem a_mg {σ:Store}{i j:Nat}(h:i≠j)(x y:SO) :(σ.set i x).set j y=(σ.set j y).set i x:=by
 funext m
 by_cases h1:m=j
 · subst h1;rw[Store.set_same,Store.set_ne _ _ (Ne.symm h),Store.set_same]
 · by_cases h2:m=i
   · subst h2;rw[Store.set_ne _ _ h1,Store.set_same,Store.set_same]
   · rw[Store.set_ne _ _ h1,Store.set_ne _ _ h2,Store.set_ne _ _ h2,Store.set_ne _ _ h1]
theorem a_mc {op:Op}(h:k_f op=true) :isMp op=false:=by
 unfold k_f at h
 split at h
 · rfl
 · rfl
 · cases h
theorem GEff.live {e':Env}{s':Store}(h:GEff P an da xi x env σ e' s')(hmx:isMp x.op=true) :LiveKeep σ s':=by
 rcases h with ⟨_,h⟩ | ⟨_,rfl⟩
 · cases h with
   | val e h he hs hst hf hm hl=>exact hl hmx
   | st t p v s off cs cs' ho hp hg he hs=>rw[hs];exact .refl _
   | al d e cs hd hb he hs ha=>rw[hs];exact .refl _
 · exact .refl _
theorem a_mn (hfx:k_f x.op=true)(h:a_5 (a_9 P an da xi) ops x env σ K)(hk:∀e' s',GEff P an da xi x env σ e' s'→(∀i,σ i≠ .free→s' i=σ i)→boxDst env x=false→K e' s'→K' e' s') :
   a_5 (a_9 P an da xi) ops x env σ K':=by
 rw[a_u] at h ⊢
 obtain ⟨hbx,h⟩:=h
 refine ⟨hbx,?_⟩
 rcases h with ⟨hw,h⟩ | ⟨hw,h⟩
 · left
   refine ⟨hw,?_⟩
   rw[rstep_iff] at h ⊢
   obtain ⟨hrx,⟨c,hc,h⟩ | ⟨hc,hs,h⟩⟩:=h
   · rw[d_r] at h
     obtain ⟨fx,_,k1,_⟩:=h
     have:=(i_n k1).2.1
     rw[this] at hfx;cases hfx
   obtain ⟨sox,nx,hne,_,hbackx,huniqx⟩:=w_c hfx h
   refine ⟨hrx, .inr ⟨hc,hs,hbackx env σ _ (fun _ _=>rfl) fun id2 hid2=>hk _ _ (.inl ⟨hrx, .val (.val (.one (.osl id2 0 nx))) (.val _) rfl (fun hc=>?_) (fun t p z hs=>by rw[hs] at hfx;cases hfx) (fun hf=>hf.set _ _) (fun t m k hs=>by rw[hs] at hfx;cases hfx) (fun hs=>absurd hs (by rw[a_mc hfx];decide))⟩) (fun i hi=>Store.set_ne _ _ (fun e=>hi (by rw[e];exact hid2))) hbx (huniqx _ _ h id2 hid2)⟩⟩
   exfalso
   unfold k_f at hfx
   split at hfx
   · rename_i ho;rcases hc with hc | hc
     · rw[ho] at hc;cases hc
     · unfold e_x at hc;rw[ho] at hc;cases hc
   · rename_i ho;rcases hc with hc | hc
     · rw[ho] at hc;cases hc
     · unfold e_x at hc;rw[ho] at hc;cases hc
   · cases hfx
 · right
   exact ⟨hw,hk _ _ (.inr ⟨rfl,rfl⟩) (fun _ _=>rfl) hbx h⟩
theorem x_z (h:a_ee an x=true) :∃d,x.dst=some d∧an.esc.contains d=true∧((∃t,x.op= .alloc t)∨∃t z,x.op= .box t z):=by
 unfold a_ee at h
 split at h
 · rename_i t d ho hd;exact ⟨d,hd,h, .inl ⟨t,ho⟩⟩
 · rename_i t z d ho hd;exact ⟨d,hd,h, .inr ⟨t,z,ho⟩⟩
 · cases h
theorem a_ot (hex:a_ee an x=true)(h:a_5 (a_9 P an da xi) ops x env σ K)(hk:∀e' s',GEff P an da xi x env σ e' s'→(∀i,σ i≠ .free→s' i=σ i)→boxDst env x=false→K e' s'→K' e' s') :
   a_5 (a_9 P an da xi) ops x env σ K':=by
 obtain ⟨d,hd,hesc,hop⟩:=x_z hex
 rw[a_u] at h ⊢
 obtain ⟨hbx,h⟩:=h
 refine ⟨hbx,?_⟩
 rcases h with ⟨hw,h⟩ | ⟨hw,h⟩
 · left
   refine ⟨hw,?_⟩
   rw[rstep_iff] at h ⊢
   obtain ⟨hrx,⟨c,hc,h⟩ | ⟨hc,hs,h⟩⟩:=h
   · rw[d_r] at h
     obtain ⟨fx,_,k1,_⟩:=h
     obtain ⟨cl,ho,_⟩:=g_u k1
     rcases hop with ⟨t,e⟩ | ⟨t,z,e⟩ <;> rw[ho] at e <;> cases e
   refine ⟨hrx, .inr ⟨hc,hs,?_⟩⟩
   have key:∀t cs,c_x an x.dst t cs env σ K→c_x an x.dst t cs env σ K':=by
     intro t cs h
     unfold c_x at h ⊢
     rw[hd] at h ⊢
     cases cs with
     | none=>exact h
     | some cs=>
       have h:(match an.esc.contains d with
         | true=>newObj σ (.live t [cs]) fun id σ'=>K (a_t env d (.el (.osl id 0 1) 0 0)) σ'
         | false=>match an.cbs.contains d with
           | true=>K (a_t env d (.cb cs)) σ
           | false=>K (a_t env d (.bx cs)) σ):=h
       show (match an.esc.contains d with
         | true=>newObj σ (.live t [cs]) fun id σ'=>K' (a_t env d (.el (.osl id 0 1) 0 0)) σ'
         | false=>match an.cbs.contains d with
           | true=>K' (a_t env d (.cb cs)) σ
           | false=>K' (a_t env d (.bx cs)) σ)
       rw[hesc] at h ⊢
       intro id hid
       refine hk _ _ (.inl ⟨hrx, .val (.el (.osl id 0 1) 0 0) (.el _ _ _) (by rw[hd];rfl) (fun hc=>?_) (fun t p z hs=>?_) (fun hf=>hf.set _ _) (fun t m k hs=>?_) (fun hs=>?_)⟩) (fun i hi=>Store.set_ne _ _ (fun e=>hi (by rw[e];exact hid))) hbx (h id hid)
       · exfalso
         rcases hc with hc | hc
         · rcases hop with ⟨t,e⟩ | ⟨t,z,e⟩ <;> rw[e] at hc <;> cases hc
         · unfold e_x at hc
           rcases hop with ⟨t,e⟩ | ⟨t,z,e⟩ <;> rw[e,hd] at hc <;> simp only[hesc] at hc <;> cases hc
       · rcases hop with ⟨t,e⟩ | ⟨t,z,e⟩ <;> rw[e] at hs <;> cases hs
       · rcases hop with ⟨t,e⟩ | ⟨t,z,e⟩ <;> rw[e] at hs <;> cases hs
       · rcases hop with ⟨t,e⟩ | ⟨t,z,e⟩ <;> rw[e] at hs <;> cases hs
   rcases hop with ⟨t,e⟩ | ⟨t,z,e⟩
   · have hf:∀K,c_p P an x env σ K↔c_x an x.dst t (k_9 (P.cellsOf t) ((zeroCells P t).bind d_y)) env σ K:=fun K=>by unfold c_p;rw[e]
     exact (hf _).2 (key _ _ ((hf _).1 h))
   · have hf:∀K,c_p P an x env σ K↔c_x an x.dst t (k_9 (P.cellsOf t) ((toA (opE env z)).map b_j)) env σ K:=fun K=>by unfold c_p;rw[e]
     exact (hf _).2 (key _ _ ((hf _).1 h))
 · right
   exact ⟨hw,hk _ _ (.inr ⟨rfl,rfl⟩) (fun _ _=>rfl) hbx h⟩
theorem a_pz (hsl:∀i c,da.cs i=some c→f_9 c)(hfin:Fin σ)(hnd:ND env)(hc:v_4 P an ops da yi y xi x=true)(h:a_5 (a_9 P an da yi) ops y env σ (fun e s=>a_5 (a_9 P an da xi) ops x e s K)) :
   a_5 (a_9 P an da xi) ops x env σ (fun e s=>a_5 (a_9 P an da yi) ops y e s K):=by
 obtain ⟨hap,hkind⟩:=a_ff hc
 obtain ⟨a1,a2,a3⟩:=Oper.apart_spec hap
 rw[a_u] at h
 obtain ⟨hby,h⟩:=h
 have put:∀{σ:Store} e,a_5 (a_9 P an da xi) ops x (a_n env y.dst e) σ K→a_5 (a_9 P an da xi) ops x env σ (fun e' s'=>K (a_n e' y.dst e) s'):=by
   intro σ e h
   cases hd:y.dst with
   | none=>rw[hd] at h;exact h
   | some d=>
     rw[hd] at h
     exact a_kf hnd (by simpa[boxDst,hd] using hby) (a1 d hd) (fun hx=>a2 d hd hx) h
 have a2':∀d,x.dst=some d→y.dst≠some d:=fun d hx hy=>a2 d hy hx
 have ops':∀{e':Env} {s':Store},GEff P an da xi x env σ e' s'→∀z ∈ y.op.operands,opE e' z=opE env z:=fun hg z hz=>
   hg.opE z (fun d hd hzd=>a3 d hd (s_9 (hzd ▸ hz)))
 rcases h with ⟨hw,h⟩ | ⟨hw,h⟩
 · rw[rstep_iff] at h
   obtain ⟨hry,⟨c,hcy,h⟩ | ⟨hcy,hsy,h⟩⟩:=h
   · -- a call that is told
     rw[d_r] at h
     obtain ⟨fy,asy,g1,g2,g3,g4⟩:=h
     obtain ⟨v1,v2,v3,v4⟩:=i_n g1
     have hfx:k_f x.op=true:=by
       rcases hkind with k | k | k | k | k | k | k
       · obtain ⟨cl,ho,_⟩:=g_u g1
         unfold e_x at k;rw[ho] at k;cases k
       · rw[v2] at k;cases k.1
       · exact k.2
       · rw[v1] at k;cases k.2.2.1
       · have:=a_c7 k.2;rw[v1] at this;cases this
       · rw[v1] at k;cases k.1
       · rw[v1] at k;cases k.1
     obtain ⟨L1,L2,L3,_⟩:=hsl _ _ hcy
     have hgy:∀e' s',GEff P an da xi x env σ e' s'→(c.pre asy s'∧∀r s,c.post asy s' r s→v_l P y.type r fun e=>K (a_n e' y.dst e) s)→a_5 (a_9 P an da yi) ops y e' s' K:=by
       intro e' s' hg hK
       rw[a_u]
       refine ⟨by rw[hg.boxDst a2'];exact hby, .inl ⟨by rw[hg.wanted a3];exact hw,?_⟩⟩
       rw[rstep_iff]
       have hns:∀t r v,y.op= .store t (.tmp r) v→isBx (get e' r) =isBx (get env r):=fun t r v hs=>by rw[hs] at v3;cases v3
       refine ⟨by rw[e_0 (env:=env) y.op (ops' hg) hns yi];exact hry, .inl ⟨c,hcy,?_⟩⟩
       rw[d_r]
       exact ⟨fy,asy,g1,by rw[u_o (env:=env) (ops' hg)];exact g2,hK⟩
     obtain ⟨r0,s0,hp0,hf0⟩:=L1 asy σ g3 hfin
     have W0:∀r s,c.post asy σ r s→v_l P y.type r fun e=>a_5 (a_9 P an da xi) ops x env s (fun e' s'=>K (a_n e' y.dst e) s'):=fun r s hr=>
       l_d (env:=env) (fun e _ hK=>put e hK) (g4 r s hr)
     have hex:∃e,a_5 (a_9 P an da xi) ops x env s0 (fun e' s'=>K (a_n e' y.dst e) s'):=by
       have:=W0 r0 s0 hp0
       exact a_oc this
     obtain ⟨e0,H0⟩:=hex
     rw[a_u] at H0
     obtain ⟨hbx,H0⟩:=H0
     rcases H0 with ⟨hwx,H0⟩ | ⟨hwx,H0⟩
     · rw[rstep_iff] at H0
       obtain ⟨hrx,⟨cx,hcx,H0⟩ | ⟨hcx,hsx,H0⟩⟩:=H0
       · rw[d_r] at H0
         obtain ⟨fx,_,k1,_⟩:=H0
         have:=(i_n k1).2.1
         rw[this] at hfx;cases hfx
       obtain ⟨sox,nx,hne,_,hbackx,huniqx⟩:=w_c hfx H0
       rw[a_u]
       refine ⟨hbx, .inl ⟨hwx,?_⟩⟩
       rw[rstep_iff]
       refine ⟨hrx, .inr ⟨hcx,hsx,hbackx env σ _ (fun _ _=>rfl) fun id2 hid2=>?_⟩⟩
       refine hgy _ _ (.inl ⟨hrx, .val (.val (.one (.osl id2 0 nx))) (.val _) rfl (fun hc=>?_) (fun t p z hs=>by rw[hs] at hfx;cases hfx) (fun hf=>hf.set _ _) (fun t m k hs=>by rw[hs] at hfx;cases hfx) (fun hs=>absurd hs (by rw[a_mc hfx];decide))⟩) ?_
       · exfalso
         unfold k_f at hfx
         split at hfx
         · rename_i ho;rcases hc with hc | hc
           · rw[ho] at hc;cases hc
           · unfold e_x at hc;rw[ho] at hc;cases hc
         · rename_i ho;rcases hc with hc | hc
           · rw[ho] at hc;cases hc
           · unfold e_x at hc;rw[ho] at hc;cases hc
         · cases hfx
       · obtain ⟨p1,p2⟩:=L3 asy σ id2 sox hid2 hne g3
         refine ⟨p1,fun r s hr=>?_⟩
         obtain ⟨s1,q1,q2,rfl⟩:=p2 r s hr
         refine l_d (env:=env) (fun e _ hK=>?_) (W0 r s1 q1)
         rw[a_u] at hK
         rcases hK.2 with ⟨_,H1⟩ | ⟨hc,_⟩
         · rw[rstep_iff] at H1
           obtain ⟨_,⟨cx,hcx',_⟩ | ⟨_,_,H1⟩⟩:=H1
           · rw[hcx] at hcx';cases hcx'
           · exact huniqx _ _ H1 id2 q2
         · rw[hwx] at hc;cases hc
     · rw[a_u]
       refine ⟨hbx, .inr ⟨hwx,hgy _ _ (.inr ⟨rfl,rfl⟩) ⟨g3,fun r s hr=>?_⟩⟩⟩
       refine l_d (env:=env) (fun e _ hK=>?_) (W0 r s hr)
       rw[a_u] at hK
       rcases hK.2 with ⟨hc,_⟩ | ⟨_,H1⟩
       · rw[hwx] at hc;cases hc
       · exact H1
   · have toR:∀{e':Env} {s':Store} {K:a_4},okR da yi y.op e'=true→c_p P an y e' s' K→a_9 P an da yi y e' s' K:=fun h1 h2=>rstep_iff.2 ⟨h1, .inr ⟨hcy,hsy,h2⟩⟩
     rcases hkind with hal | hfr | hsp | htold | hix | ⟨hval,hkind⟩ | hnf
     rotate_right 1
     · -- a value,and a new object
       obtain ⟨hval,hlk,hnx⟩:=hnf
       rw[f_i hval] at h
       obtain ⟨e,hn,hX,hback⟩:=k_5 hnd _ h
       have hns:h_j y.op=false:=by
         cases hs:h_j y.op with
         | false=>rfl
         | true=>unfold h_j at hs;split at hs <;> first | (rename_i ho;rw[ho] at hval;cases hval) | cases hs
       have fin:∀e' s',GEff P an da xi x env σ e' s'→(∀i,σ i≠ .free→s' i=σ i)→h_j x.op=false→boxDst env x=false→K (a_n e' y.dst e) s'→a_5 (a_9 P an da yi) ops y e' s' K:=fun e' s' hg hext hnsx hbx hK=>by
         rw[a_u]
         refine ⟨by rw[hg.boxDst a2'];exact hby, .inl ⟨by rw[hg.wanted a3];exact hw,?_⟩⟩
         refine toR (by rw[e_0 (env:=env) y.op (ops' hg) (fun t r v hs=>by rw[hs] at hns;cases hns) yi];exact hry) ?_
         rw[f_i hval]
         have hb:=hback (fun e1=>K (a_n e' y.dst e1) s') hK
         refine z_9 hlk hext ?_
         refine f_u (env:=e') (σ:=σ) (fun z hz=>(ops' hg z hz).symm) ?_ (.inl (.inl rfl)) hb
         intro t z s off ho hz hbox
         rw[ops' hg z (by rw[ho];simp[Op.operands])] at hz
         have hsd:x.dst≠some s:=fun hd=>by
           have:d_v (get env s) =false:=by simpa[boxDst,hd] using hbx
           rw[this] at hbox;cases hbox
         rcases hg.get s hsd with h1 | ⟨t1,p1,v1,off1,cs,cs',hok,q1,q2,q3,q4⟩
         · exact h1
         · rw[q1] at hnsx;cases hnsx
       rcases hnx with hfx | hex
       · refine a_mn hfx (put e hX) fun e' s' hg hext hbx hK=>fin e' s' hg hext ?_ hbx hK
         unfold k_f at hfx
         split at hfx
         · rename_i ho;rw[ho];rfl
         · rename_i ho;rw[ho];rfl
         · cases hfx
       · refine a_ot hex (put e hX) fun e' s' hg hext hbx hK=>fin e' s' hg hext ?_ hbx hK
         obtain ⟨d,hd,hesc,hop⟩:=x_z hex
         rcases hop with ⟨t,ho⟩ | ⟨t,z,ho⟩ <;> rw[ho] <;> rfl
     rotate_left 2
     · rw[hsy] at hsp;cases hsp.1
     · -- a value,and a call that is told
       obtain ⟨hsx,hcx,hval,hlk⟩:=htold
       rw[f_i hval] at h
       obtain ⟨e,hn,hX,hback⟩:=k_5 hnd _ h
       refine a_hi hsl hnd (put e hX) fun e' s' hg hext hbx hK=>?_
       rw[a_u]
       have hns:h_j y.op=false:=by
         cases hs:h_j y.op with
         | false=>rfl
         | true=>unfold h_j at hs;split at hs <;> first | (rename_i ho;rw[ho] at hval;cases hval) | cases hs
       refine ⟨by rw[hg.boxDst a2'];exact hby, .inl ⟨by rw[hg.wanted a3];exact hw,?_⟩⟩
       refine toR (by rw[e_0 (env:=env) y.op (ops' hg) (fun t r v hs=>by rw[hs] at hns;cases hns) yi];exact hry) ?_
       rw[f_i hval]
       have hb:=hback (fun e1=>K (a_n e' y.dst e1) s') hK
       refine z_9 hlk (hext hsx) ?_
       refine f_u (env:=e') (σ:=σ) (fun z hz=>(ops' hg z hz).symm) ?_ (.inl (.inl rfl)) hb
       intro t z s off ho hz hbox
       rw[ops' hg z (by rw[ho];simp[Op.operands])] at hz
       have hsd:x.dst≠some s:=fun hd=>by
         have:d_v (get env s) =false:=by simpa[boxDst,hd] using hbx
         rw[this] at hbox;cases hbox
       rcases hg.get s hsd with h1 | ⟨t1,p1,v1,off1,cs,cs',hok,q1,q2,q3,q4⟩
       · exact h1
       · rw[q1] at hcx;cases hcx
     · -- a place,and a store
       obtain ⟨hsx,hiy⟩:=hix
       have hval:e_s y.op=true:=a_c7 hiy
       rw[f_i hval] at h
       obtain ⟨e,hn,hX,hback⟩:=k_5 hnd _ h
       have fin:∀e' s',GEff P an da xi x env σ e' s'→Shape σ s'→K (a_n e' y.dst e) s'→a_5 (a_9 P an da yi) ops y e' s' K:=fun e' s' hg hsh hK=>by
         rw[a_u]
         have hns:h_j y.op=false:=by
           cases hs:h_j y.op with
           | false=>rfl
           | true=>unfold h_j at hs;split at hs <;> first | (rename_i ho;rw[ho] at hval;cases hval) | cases hs
         refine ⟨by rw[hg.boxDst a2'];exact hby, .inl ⟨by rw[hg.wanted a3];exact hw,?_⟩⟩
         refine toR (by rw[e_0 (env:=env) y.op (ops' hg) (fun t r v hs=>by rw[hs] at hns;cases hns) yi];exact hry) ?_
         rw[f_i hval]
         have hb:=hback (fun e1=>K (a_n e' y.dst e1) s') hK
         refine n_3 hiy hsh ?_
         exact f_u (env:=e') (σ:=σ) (fun z hz=>(ops' hg z hz).symm) (fun t z s off ho=>by rw[ho] at hiy;cases hiy) (.inl (.inl rfl)) hb
       rcases hsx with hsx | hfx
       · refine a_hi hsl hnd (put e hX) fun e' s' hg _ hbx hK=>fin e' s' hg ?_ hK
         rcases hg with ⟨_,hg⟩ | ⟨_,hs⟩
         · cases hg with
           | val e h he hs hst hf hm hl=>
             unfold h_j at hsx
             split at hsx
             · rename_i hxo;exact (hst _ _ _ hxo).1
             · cases hsx
           | st t p v s off cs cs' ho hp hg he hs=>rw[hs];exact .refl _
           | al d e cs hd hb he hs ha=>rw[hs];exact .refl _
         · rw[hs];exact .refl _
       · exact a_mn hfx (put e hX) fun e' s' hg hext hbx hK=>fin e' s' hg (fun id t rows h=>⟨rows,by rw[hext id (by rw[h];intro c;cases c)];exact h⟩) hK
     rotate_left 1
     · -- a local is made
       have key : ∀ t (cs : Env → Option (List D)), (∀ e' s', GEff P an da xi x env σ e' s' → cs e' = cs env) → (∀ env σ K, c_p P an y env σ K ↔ c_x an y.dst t (cs env) env σ K) → h_j y.op = false → isLd y.op = false →
           a_5 (a_9 P an da xi) ops x env σ (fun e s=>a_5 (a_9 P an da yi) ops y e s K):=by
         intro t cs hcs hform hns hnl
         have h:=(hform _ _ _).1 h
         unfold c_x at h
         cases hd:y.dst with
         | none=>rw[hd] at h;exact h.elim
         | some d=>
           cases hce:cs env with
           | none=>rw[hd,hce] at h;exact h.elim
           | some c=>
             rw[hd,hce] at h
             have hesc:an.esc.contains d=false:=by
               obtain ⟨d2,e1,e2,_⟩:=z_u hal
               rw[hd] at e1;injection e1 with e1;subst e1;exact e2
             have h:(match an.esc.contains d with
               | true=>newObj σ (.live t [c]) fun id σ'=>a_5 (a_9 P an da xi) ops x (a_t env d (.el (.osl id 0 1) 0 0)) σ' K
               | false=>match an.cbs.contains d with
                 | true=>a_5 (a_9 P an da xi) ops x (a_t env d (.cb c)) σ K
                 | false=>a_5 (a_9 P an da xi) ops x (a_t env d (.bx c)) σ K):=h
             rw[hesc] at h
             have fin : ∀ e, a_5 (a_9 P an da xi) ops x (a_t env d e) σ K → (∀ e' s', K (a_t e' d e) s' → c_x an (some d) t (some c) e' s' K) →
                 a_5 (a_9 P an da xi) ops x env σ (fun e s=>a_5 (a_9 P an da yi) ops y e s K):=by
               intro e h1 h2
               have h3:=put e (by rw[hd];exact h1)
               refine w_i hsl hnd h3 fun e' s' hg hbx hK=>?_
               rw[a_u]
               refine ⟨by rw[hg.boxDst a2'];exact hby, .inl ⟨by rw[hg.wanted a3];exact hw,?_⟩⟩
               refine toR (by rw[e_0 (env:=env) y.op (ops' hg) (fun t r v hs=>by rw[hs] at hns;cases hns) yi];exact hry) ?_
               rw[hform,hcs e' s' hg,hce,hd]
               rw[hd] at hK
               exact h2 e' s' hK
             cases hcb:an.cbs.contains d with
             | true=>
               rw[hcb] at h
               refine fin _ h fun e' s' hK=>?_
               unfold c_x
               show (match an.esc.contains d with
                 | true=>newObj s' (.live t [c]) fun id σ'=>K (a_t e' d (.el (.osl id 0 1) 0 0)) σ'
                 | false=>match an.cbs.contains d with
                   | true=>K (a_t e' d (.cb c)) s'
                   | false=>K (a_t e' d (.bx c)) s')
               rw[hesc,hcb];exact hK
             | false=>
               rw[hcb] at h
               refine fin _ h fun e' s' hK=>?_
               unfold c_x
               show (match an.esc.contains d with
                 | true=>newObj s' (.live t [c]) fun id σ'=>K (a_t e' d (.el (.osl id 0 1) 0 0)) σ'
                 | false=>match an.cbs.contains d with
                   | true=>K (a_t e' d (.cb c)) s'
                   | false=>K (a_t e' d (.bx c)) s')
               rw[hesc,hcb];exact hK
       obtain ⟨_,_,_,⟨t,ho⟩ | ⟨t,z,ho⟩⟩:=z_u hal
       · exact key t (fun _=>k_9 (P.cellsOf t) ((zeroCells P t).bind d_y)) (fun _ _ _=>rfl) (fun env σ K=>by unfold c_p;rw[ho]) (by rw[ho];rfl) (by rw[ho];rfl)
       · refine key t (fun env=>k_9 (P.cellsOf t) ((toA (opE env z)).map b_j)) (fun e' s' hg=>?_) (fun env σ K=>by unfold c_p;rw[ho]) (by rw[ho];rfl) (by rw[ho];rfl)
         show k_9 (P.cellsOf t) ((toA (opE e' z)).map b_j) =_
         rw[ops' hg z (by rw[ho];simp[Op.operands])]
     · -- two slices are made
       obtain ⟨hfy,hfx⟩:=hfr
       obtain ⟨soy,ny,_,hN,hback,_⟩:=w_c hfy h
       obtain ⟨N,hN0⟩:=hfin
       have hgy:∀e' s',GEff P an da xi x env σ e' s'→(∀id1,s' id1= .free→K (a_n e' y.dst (.val (.one (.osl id1 0 ny)))) (s'.set id1 soy))→a_5 (a_9 P an da yi) ops y e' s' K:=by
         intro e' s' hg hK
         rw[a_u]
         refine ⟨by rw[hg.boxDst a2'];exact hby, .inl ⟨by rw[hg.wanted a3];exact hw,?_⟩⟩
         have hns:∀t r v,y.op= .store t (.tmp r) v→isBx (get e' r) =isBx (get env r):=fun t r v hs=>by rw[hs] at hfy;cases hfy
         exact toR (by rw[e_0 (env:=env) y.op (ops' hg) hns yi];exact hry) (hback e' s' K (ops' hg) fun id1 hid1=>hK id1 hid1)
       have H0:=put _ (hN N (hN0 N (Nat.le_refl _)))
       rw[a_u] at H0
       obtain ⟨hbx,H0⟩:=H0
       rcases H0 with ⟨hwx,H0⟩ | ⟨hwx,H0⟩
       · rw[rstep_iff] at H0
         obtain ⟨hrx,⟨cx,hcx,H0⟩ | ⟨hcx,hsx,H0⟩⟩:=H0
         · rw[d_r] at H0
           obtain ⟨fx,_,k1,_⟩:=H0
           have:=(i_n k1).2.1
           rw[this] at hfx;cases hfx
         obtain ⟨sox,nx,hne,_,hbackx,huniqx⟩:=w_c hfx H0
         rw[a_u]
         refine ⟨hbx, .inl ⟨hwx,?_⟩⟩
         rw[rstep_iff]
         refine ⟨hrx, .inr ⟨hcx,hsx,hbackx env σ _ (fun _ _=>rfl) fun id2 hid2=>?_⟩⟩
         refine hgy _ _ (.inl ⟨hrx, .val (.val (.one (.osl id2 0 nx))) (.val _) rfl (fun hc=>?_) (fun t p z hs=>by rw[hs] at hfx;cases hfx) (fun hf=>hf.set _ _) (fun t m k hs=>by rw[hs] at hfx;cases hfx) (fun hs=>absurd hs (by rw[a_mc hfx];decide))⟩) fun id1 hid1=>?_
         · exfalso
           unfold k_f at hfx
           split at hfx
           · rename_i ho;rcases hc with hc | hc
             · rw[ho] at hc;cases hc
             · unfold e_x at hc;rw[ho] at hc;cases hc
           · rename_i ho;rcases hc with hc | hc
             · rw[ho] at hc;cases hc
             · unfold e_x at hc;rw[ho] at hc;cases hc
           · cases hfx
         · have h12:id1≠id2:=fun he=>by subst he;rw[Store.set_same] at hid1;exact hne hid1
           rw[Store.set_ne _ _ h12] at hid1
           have H1:=put _ (hN id1 hid1)
           rw[a_u] at H1
           rcases H1.2 with ⟨_,H1⟩ | ⟨hc,_⟩
           · rw[rstep_iff] at H1
             obtain ⟨_,⟨cx,hcx',_⟩ | ⟨_,_,H1⟩⟩:=H1
             · rw[hcx] at hcx';cases hcx'
             have:=huniqx _ _ H1 id2 (by rw[Store.set_ne _ _ (Ne.symm h12)];exact hid2)
             rw[a_mg h12] at this
             exact this
           · rw[hwx] at hc;cases hc
       · rw[a_u]
         refine ⟨hbx, .inr ⟨hwx,hgy _ _ (.inr ⟨rfl,rfl⟩) fun id1 hid1=>?_⟩⟩
         have H1:=put _ (hN id1 hid1)
         rw[a_u] at H1
         rcases H1.2 with ⟨hc,_⟩ | ⟨_,H1⟩
         · rw[hwx] at hc;cases hc
         · exact H1
     · -- a value
       rw[f_i hval] at h
       obtain ⟨e,hn,hX,hback⟩:=k_5 hnd _ h
       refine w_i hsl hnd (put e hX) fun e' s' hg hbx hK=>?_
       rw[a_u]
       have hns:h_j y.op=false:=by
         cases hs:h_j y.op with
         | false=>rfl
         | true=>unfold h_j at hs;split at hs <;> first | (rename_i ho;rw[ho] at hval;cases hval) | cases hs
       refine ⟨by rw[hg.boxDst a2'];exact hby, .inl ⟨by rw[hg.wanted a3];exact hw,?_⟩⟩
       refine toR (by rw[e_0 (env:=env) y.op (ops' hg) (fun t r v hs=>by rw[hs] at hns;cases hns) yi];exact hry) ?_
       rw[f_i hval]
       have hb:=hback (fun e1=>K (a_n e' y.dst e1) s') hK
       refine f_u (env:=e') (σ:=s') (fun z hz=>(ops' hg z hz).symm) ?_ ?_ hb
       · -- the locals that are read
         intro t z s off ho hz hbox
         rw[ops' hg z (by rw[ho];simp[Op.operands])] at hz
         have hsd:x.dst≠some s:=fun hd=>by
           have:d_v (get env s) =false:=by simpa[boxDst,hd] using hbx
           rw[this] at hbox;cases hbox
         rcases hg.get s hsd with h1 | ⟨t1,p1,v1,off1,cs,cs',hok,q1,q2,q3,q4⟩
         · exact h1
         · exfalso
           have hld:isLd y.op=true:=by rw[ho];rfl
           have hsx:h_j x.op=true:=by rw[q1];rfl
           rcases hkind with k | k | k | ⟨k1,k2,k3⟩ | ⟨_,_,k⟩ | k
           · rw[ho] at k;cases k
           · rw[q1] at k;cases k
           · unfold e_x at k;rw[q1] at k;cases k
           · rcases k3 with k3 | ⟨r,k3,p,k4,k5,k6⟩
             · rw[hld] at k3;cases k3
             · obtain ⟨t2,r2,v2,cs2,g1,g2⟩:=a_h7 hok k2
               rw[g1] at q1 k3
               injection q1 with q1 q5 q6
               subst q5
               have k3:r2=r:=by simpa[k_g] using k3
               have:opE env (.tmp r2) = .bp r2 0:=by simp[opE,g2]
               rw[this] at q2
               injection q2 with q2 _
               rw[ho] at hry
               exact a_pb hry hz k4 k5 (by rw[k6,←k3,q2])
           · rcases k with k | k
             · rw[hsx] at k;cases k
             · have hsn:=a_pd hok q1 k
               rw[q2] at hsn;cases hsn
           · unfold lkMe at k;rw[ho] at k;cases k
       · -- the store
         have same:(e_s x.op=true∨e_x an x=true)∨da.dir.contains xi=true→σ=s':=by
           intro hx
           rcases hg with ⟨hok,hg⟩ | ⟨_,hs⟩
           · cases hg with
             | val e h he hs hst hf hm hl=>
               rcases hx with hx | hx
               · exact (hs hx).symm
               · obtain ⟨t2,r2,v2,cs2,g1,g2⟩:=a_h7 hok hx
                 exact absurd (show opE env (.tmp r2) = .bp r2 0 by simp[opE,g2]) ((hst _ _ _ g1).2 _ _)
             | st t p v s off cs cs' ho hp hg he hs=>exact hs.symm
             | al d e cs hd hb he hs ha=>exact hs.symm
           · exact hs.symm
         rcases hkind with k | k | k | ⟨k1,k2,_⟩ | ⟨k1,k2,k3⟩ | k
         · exact .inl (.inr (a_kt k _))
         · exact .inl (.inl (same (.inl (.inl k))))
         · exact .inl (.inl (same (.inl (.inr k))))
         · exact .inl (.inl (same (.inr k2)))
         rotate_left
         · right
           unfold lkMe at k
           split at k
           · rename_i t m key t' m' key' e1 e2
             have ht:=Nat.eq_of_beq_eq_true k
             subst ht
             refine ⟨t,m,key,e1,?_⟩
             rcases hg with ⟨_,hg⟩ | ⟨_,hs⟩
             · cases hg with
               | val e h he hs hst hf hm hl=>exact hm _ _ _ e2
               | st t p v s off cs cs' ho hp hg he hs=>exact .inl hs
               | al d e cs hd hb he hs ha=>exact .inl hs
             · exact .inl hs
           · cases k
         · left;right
           obtain ⟨t,z,ho⟩:=a_jd k1
           rw[ho] at hry
           obtain ⟨s,off,hz⟩:=a_o8 hry k2
           unfold s_q;rw[ho]
           exact ⟨s,off,by rw[ops' hg z (by rw[ho];simp[Op.operands])];exact hz⟩
 · refine w_i hsl hnd (put .sk h) fun e' s' hg hbx hK=>?_
   rw[a_u]
   exact ⟨by rw[hg.boxDst a2'];exact hby, .inr ⟨by rw[hg.wanted a3];exact hw,hK⟩⟩
theorem a_o9 (hsl:∀i c,da.cs i=some c→f_9 c)(hnd:ND env)(hap:y.apart ops x=true)(hval:e_s y.op=true)(hlk:isLk y.op=false)(hmx:isMp x.op=true)(h:a_5 (a_9 P an da yi) ops y env σ (fun e s=>a_5 (a_9 P an da xi) ops x e s K)) :
   a_5 (a_9 P an da xi) ops x env σ (fun e s=>a_5 (a_9 P an da yi) ops y e s K):=by
 obtain ⟨a1,a2,a3⟩:=Oper.apart_spec hap
 rw[a_u] at h
 obtain ⟨hby,h⟩:=h
 have put:∀{σ:Store} e,a_5 (a_9 P an da xi) ops x (a_n env y.dst e) σ K→a_5 (a_9 P an da xi) ops x env σ (fun e' s'=>K (a_n e' y.dst e) s'):=by
   intro σ e h
   cases hd:y.dst with
   | none=>rw[hd] at h;exact h
   | some d=>
     rw[hd] at h
     exact a_kf hnd (by simpa[boxDst,hd] using hby) (a1 d hd) (fun hx=>a2 d hd hx) h
 have a2':∀d,x.dst=some d→y.dst≠some d:=fun d hx hy=>a2 d hy hx
 have ops':∀{e':Env} {s':Store},GEff P an da xi x env σ e' s'→∀z ∈ y.op.operands,opE e' z=opE env z:=fun hg z hz=>
   hg.opE z (fun d hd hzd=>a3 d hd (s_9 (hzd ▸ hz)))
 rcases h with ⟨hw,h⟩ | ⟨hw,h⟩
 · rw[rstep_iff] at h
   obtain ⟨hry,⟨c,hcy,h⟩ | ⟨hcy,hsy,h⟩⟩:=h
   · rw[d_r] at h
     obtain ⟨fy,asy,g1,_⟩:=h
     have:=(i_n g1).1
     rw[this] at hval;cases hval
   have toR:∀{e':Env} {s':Store} {K:a_4},okR da yi y.op e'=true→c_p P an y e' s' K→a_9 P an da yi y e' s' K:=fun h1 h2=>rstep_iff.2 ⟨h1, .inr ⟨hcy,hsy,h2⟩⟩
   rw[f_i hval] at h
   obtain ⟨e,hn,hX,hback⟩:=k_5 hnd _ h
   have hns:h_j y.op=false:=by
     cases hs:h_j y.op with
     | false=>rfl
     | true=>unfold h_j at hs;split at hs <;> first | (rename_i ho;rw[ho] at hval;cases hval) | cases hs
   refine w_i hsl hnd (put e hX) fun e' s' hg hbx hK=>?_
   rw[a_u]
   refine ⟨by rw[hg.boxDst a2'];exact hby, .inl ⟨by rw[hg.wanted a3];exact hw,?_⟩⟩
   refine toR (by rw[e_0 (env:=env) y.op (ops' hg) (fun t r v hs=>by rw[hs] at hns;cases hns) yi];exact hry) ?_
   rw[f_i hval]
   have hb:=hback (fun e1=>K (a_n e' y.dst e1) s') hK
   refine a_gz hlk (hg.live hmx) ?_
   refine f_u (env:=e') (σ:=σ) (fun z hz=>(ops' hg z hz).symm) ?_ (.inl (.inl rfl)) hb
   intro t z s off ho hz hbox
   rw[ops' hg z (by rw[ho];simp[Op.operands])] at hz
   have hsd:x.dst≠some s:=fun hd=>by
     have:d_v (get env s) =false:=by simpa[boxDst,hd] using hbx
     rw[this] at hbox;cases hbox
   rcases hg.get s hsd with h1 | ⟨t1,p1,v1,off1,cs,cs',hok,q1,q2,q3,q4⟩
   · exact h1
   · rw[q1] at hmx;cases hmx
 · refine w_i hsl hnd (put .sk h) fun e' s' hg hbx hK=>?_
   rw[a_u]
   exact ⟨by rw[hg.boxDst a2'];exact hby, .inr ⟨by rw[hg.wanted a3];exact hw,hK⟩⟩
theorem g_6 {o:Oper}{i:Nat}{t:TypeId}{m kk v:Operand}(ho:o.op= .insert t m kk v)(hd:o.dst=none) :a_5 (a_9 P an da i) ops o env σ K↔
   boxDst env o=false∧((d_5 ops o env=some true∧(okR da i o.op env=true∧da.cs i=none∧da.sp.contains i=false)∧c_l P t (opE env m) (opE env kk) (opE env v) σ fun _ s=>K env s)∨(d_5 ops o env=some false∧K env σ)):=by
 have hform:c_p P an o env σ K↔c_l P t (opE env m) (opE env kk) (opE env v) σ fun e s=>K (a_n env o.dst e) s:=by
   unfold c_p;rw[ho];rfl
 have e:∀w,a_n env o.dst w=env:=fun w=>by rw[hd];rfl
 simp only[e] at hform
 rw[a_u,rstep_iff,hform]
 simp only[e]
 constructor
 · rintro ⟨h1,⟨h2,h3,⟨c,hc,h4⟩ | ⟨h4,h5,h6⟩⟩ | h2⟩
   · rw[d_r] at h4
     obtain ⟨f,_,g1,_⟩:=h4
     rw[ho] at g1;cases g1
   · exact ⟨h1, .inl ⟨h2,⟨h3,h4,h5⟩,h6⟩⟩
   · exact ⟨h1, .inr h2⟩
 · rintro ⟨h1,⟨h2,⟨h3,h4,h5⟩,h6⟩ | h2⟩
   · exact ⟨h1, .inl ⟨h2,h3, .inr ⟨h4,h5,h6⟩⟩⟩
   · exact ⟨h1, .inr h2⟩
theorem j_n {t:TypeId}{m k v:E}{K K':Store→Prop}(hk:∀s,K s→K' s)(h:c_l P t m k v σ fun _ s=>K s) :c_l P t m k v σ fun _ s=>K' s:=
 l_9 (K:=fun _ s=>K s) (K':=fun _ s=>K' s) (fun s _ _ h=>hk s h) h
theorem a_f3 {t:TypeId}{m k v:E}{K:Store→Prop}(h:c_l P t m k v σ fun _ s=>K s) :∃s,K s:=by
 unfold c_l at h
 split at h
 · obtain ⟨_,_,_,_,hK⟩:=h.old;exact ⟨_,hK⟩
 · exact h.elim
theorem a_dc {t:TypeId}{m k v:E}{p:Prop}{K:Store→Prop}(h:c_l P t m k v σ fun _ s=>K s)(hp:∀s,K s→p) :p:=by
 obtain ⟨s,hs⟩:=a_f3 h;exact hp s hs
theorem a_b7 {t:TypeId}{m k1 k2 v1 v2:E}{a1 a2:A}{K:Store→Prop}(hk1:toA k1=some a1)(hk2:toA k2=some a2)(hne:∀x,eqA x a1=true→eqA x a2=true→False)
   (h:c_l P t m k1 v1 σ fun _ s=>c_l P t m k2 v2 s fun _ s=>K s) :c_l P t m k2 v2 σ fun _ s=>c_l P t m k1 v1 s fun _ s=>K s:=by
 unfold c_l at h ⊢
 cases hm:mapT P t with
 | none=>simp only[hm] at h
 | some p=>
   obtain ⟨kt,et⟩:=p
   cases h1:toA v1 with
   | none=>simp only[hm,hk1,hk2,h1] at h
   | some w1=>
     cases h2:toA v2 with
     | none=>
       simp only[hm,hk1,hk2,h1,h2] at h
       cases m with
       | val z=>
         cases z with
         | one md=>obtain ⟨_,_,_,_,hK⟩:=MPut.old h;exact hK.elim
         | agg w=>exact h.elim
       | _=>exact h.elim
     | some w2=>
       simp only[hm,hk1,hk2,h1,h2] at h ⊢
       cases m with
       | val z=>
         cases z with
         | one md=>exact MPut.swap hne h
         | agg w=>exact h.elim
       | _=>exact h.elim
theorem a_nf (hin:a_mq y x=true)(h:a_5 (a_9 P an da yi) ops y env σ (fun e s=>a_5 (a_9 P an da xi) ops x e s K)) :
   a_5 (a_9 P an da xi) ops x env σ (fun e s=>a_5 (a_9 P an da yi) ops y e s K):=by
 unfold a_mq at hin
 split at hin
 · rename_i t m q1 a v1 t' m' q2 b v2 hy hyd hx hxd
   simp only[Bool.and_eq_true,Bool.not_eq_true',decide_eq_false_iff_not] at hin
   obtain ⟨⟨h1,h2⟩,hab⟩:=hin
   have h1:=Nat.eq_of_beq_eq_true h1
   have h2:=Nat.eq_of_beq_eq_true h2
   subst h1 h2
   rw[g_6 hy hyd] at h
   rw[g_6 hx hxd]
   obtain ⟨by_,⟨wy,oky,H⟩ | ⟨wy,H⟩⟩:=h
   · -- the first one is wanted
     have facts:boxDst env x=false∧((d_5 ops x env=some true∧okR da xi x.op env=true∧da.cs xi=none∧da.sp.contains xi=false)∨d_5 ops x env=some false):=a_dc H fun s hs=>by
       rw[g_6 hx hxd] at hs
       obtain ⟨g1,⟨g2,g3,_⟩ | ⟨g2,_⟩⟩:=hs
       · exact ⟨g1, .inl ⟨g2,g3⟩⟩
       · exact ⟨g1, .inr g2⟩
     obtain ⟨bx,⟨wx,okx⟩ | wx⟩:=facts
     · refine ⟨bx, .inl ⟨wx,okx,?_⟩⟩
       have H2:c_l P t (opE env (.tmp m)) (opE env (.const (.int q1 a))) (opE env v1) σ fun _ s=>c_l P t (opE env (.tmp m)) (opE env (.const (.int q2 b))) (opE env v2) s fun _ s=>K env s:=j_n (fun s hs=>by
         rw[g_6 hx hxd] at hs
         obtain ⟨_,⟨_,_,g⟩ | ⟨g2,_⟩⟩:=hs
         · exact g
         · rw[wx] at g2;cases g2) H
       have H3:=a_b7 (k1:=opE env (.const (.int q1 a))) (k2:=opE env (.const (.int q2 b))) (a1:= .one (.int q1 a)) (a2:= .one (.int q2 b)) rfl rfl (fun z z1 z2=>by
         have g:=i_o z1 (.one (.int q2 b))
         rw[f_b] at z2
         rw[z2] at g
         have g:(true:Bool) =eqA (.one (.int q2 b)) (.one (.int q1 a)):=g
         simp[eqA,b_j,b_p,d_x] at g
         exact hab g.symm) H2
       exact j_n (fun s hs=>(g_6 hy hyd).2 ⟨by_, .inl ⟨wy,oky,hs⟩⟩) H3
     · refine ⟨bx, .inr ⟨wx,(g_6 hy hyd).2 ⟨by_, .inl ⟨wy,oky,?_⟩⟩⟩⟩
       exact j_n (fun s hs=>by
         rw[g_6 hx hxd] at hs
         obtain ⟨_,⟨g2,_⟩ | ⟨_,g⟩⟩:=hs
         · rw[wx] at g2;cases g2
         · exact g) H
   · rw[g_6 hx hxd] at H
     obtain ⟨bx,⟨wx,okx,H⟩ | ⟨wx,H⟩⟩:=H
     · exact ⟨bx, .inl ⟨wx,okx,j_n (fun s hs=>(g_6 hy hyd).2 ⟨by_, .inr ⟨wy,hs⟩⟩) H⟩⟩
     · exact ⟨bx, .inr ⟨wx,(g_6 hy hyd).2 ⟨by_, .inr ⟨wy,H⟩⟩⟩⟩
 · cases hin
theorem swap (hsl:∀i c,da.cs i=some c→f_9 c)(hfin:Fin σ)(hnd:ND env)(hc:s_4 P an ops da yi y xi x=true)(h:a_5 (a_9 P an da yi) ops y env σ (fun e s=>a_5 (a_9 P an da xi) ops x e s K)) :
   a_5 (a_9 P an da xi) ops x env σ (fun e s=>a_5 (a_9 P an da yi) ops y e s K):=by
 unfold s_4 at hc
 simp only[Bool.or_eq_true,Bool.and_eq_true,Bool.not_eq_true'] at hc
 rcases hc with hc | ⟨hap,⟨⟨h1,h2⟩,h3⟩ | h1⟩
 · exact a_pz hsl hfin hnd hc h
 · exact a_o9 hsl hnd hap h1 h2 h3 h
 · exact a_nf h1 h
end
end
section
section
variable {df:List Deferred} {P:Program} {k0:Nat→Prop} {β0:Bk} {σ0:Store} {W0:World} {n:Nat} {k:Nat→Prop} {β:Bk} {γ:Nat→Nat}
 {tmps:Array Value} {W W':World} {env:Env} {σ σ':Store} {a:Act} {o:Oper} {Q:Exit→Act→World→Prop} {K:a_4}
theorem x_u (s:ByteArray) :(b_0 s).length=s.size:=by
 unfold b_0;rw[List.length_map];rfl
theorem m_a {s:ByteArray}{i:Nat}{row:List D}(h:(b_0 s)[i]? =some row) :∃b:UInt8,s.data.toList[i]? =some b∧row=[.int .u8 b.toNat]:=by
 unfold b_0 at h
 rw[List.getElem?_map] at h
 cases hb:s.data.toList[i]? with
 | none=>rw[hb] at h;cases h
 | some b=>rw[hb] at h;exact ⟨b,rfl,(Option.some.inj h).symm⟩
theorem u_z (s:ByteArray) :(b_0 s).flatten=s.data.toList.map fun b=>D.int .u8 b.toNat:=by
 unfold b_0
 generalize s.data.toList=l
 induction l with
 | nil=>rfl
 | cons b l ih=>simp only[List.map_cons,List.flatten_cons,ih];rfl
theorem a_fa (s:ByteArray) :VL k β W (Lib.strCells s) (b_0 s).flatten:=by
 rw[u_z]
 refine ⟨by simp[Lib.strCells],fun i v d hv hd=>?_⟩
 unfold Lib.strCells at hv
 rw[List.getElem?_map] at hv hd
 cases hb:s.data.toList[i]? with
 | none=>rw[hb] at hv;cases hv
 | some b=>
   rw[hb] at hv hd
   cases hv;cases hd
   exact V.int _ _
theorem u_8 (W:World)(e:TypeId)(s:ByteArray) :Lib.bytesWorld W e s =
   { W with drawn:=W.drawn+1,heap:=W.heap.push (.cells (Lib.bytesCells W e s) e ((Lib.bytesCells W e s).size,(Lib.bytesCells W e s).size+1)) } :=by
 have h1:(Lib.bytesWorld W e s).heap=W.heap.push (.cells (Lib.bytesCells W e s) e ((Lib.bytesCells W e s).size,(Lib.bytesCells W e s).size+1)):=by
   apply Array.ext_getElem?
   intro j
   rcases Nat.lt_trichotomy j W.heap.size with h | h | h
   · rw[Lib.bytesWorld_at_old W e s j h,Array.getElem?_push,if_neg (by omega)]
   · subst h;rw[Lib.bytesWorld_at_new];simp
   · rw[Array.getElem?_eq_none (by rw[Lib.bytesWorld_size];omega),Array.getElem?_eq_none (by simp;omega)]
 have h2 : ∀ w : World, w.heap = W.heap.push (.cells (Lib.bytesCells W e s) e ((Lib.bytesCells W e s).size, (Lib.bytesCells W e s).size + 1)) →
     { w with heap:=W.heap.push (.cells (Lib.bytesCells W e s) e ((Lib.bytesCells W e s).size,(Lib.bytesCells W e s).size+1)) } =w:=by
   intro w hw;rw[←hw]
 rw[←h2 _ h1]
 rfl
theorem a_da (hd:∀d,o.dst=some d→d < n)(hdef:a.defers=df)(h:RelX P k0 β0 σ0 W0 n k β γ a.tmps W env σ){s t el:TypeId}{x:Operand}(hop:o.op= .convert s t x)
   (hs:P.underlying s=some .string) (ht:P.underlying t=some (.slice el)) (he:P.underlying el=some (.int .u8)) {b:ByteArray} (hx:opE env x= .val (.one (.str b)))
   (hK:K (a_n env o.dst (.val (.one (.sl 1 (b_0 b))))) σ) :o.wp P a W (Out df P k0 β0 σ0 W0 n (Dst o) env K) Q:=by
 obtain ⟨hv,_⟩:=a_o h a rfl x 0
 rw[hx] at hv
 have hv:V k β W (a.eval x) (.str b):=hv
 have hev:a.eval x= .string b:=by
   generalize a.eval x=v at hv
   cases hv;rfl
 have hrun:=Lib.run_convert_string_bytes (P:=P) W s t el b hs ht he
 have hX0:=h.grow (Grow.drew W)
 have hX:=hX0.step (hX0.srel.frz (.cells (Lib.bytesCells W el b) el ((Lib.bytesCells W el b).size,(Lib.bytesCells W el b).size+1)))
   ⟨fun _ h=> .inl h,fun b hb=>hb.elim .inl fun e=> .inr (.inl (by rw[e];exact Nat.le_refl _)),fun _ _ h=>h,fun _ _ h=> .inl h,fun _ h=>h⟩ (k_p β σ _ _)
 have hW:({ ({ W with drawn:=W.drawn+1 } :World) with heap:=({ W with drawn:=W.drawn+1 } :World).heap.push (.cells (Lib.bytesCells W el b) el ((Lib.bytesCells W el b).size,(Lib.bytesCells W el b).size+1)) } :World) =Lib.bytesWorld W el b:=(u_8 W el b).symm
 rw[hW] at hX
 refine c_u (v:= .slice (some ⟨W.heap.size,0,none⟩) b.size (grownCap W b.size 0 el)) (W':=Lib.bytesWorld W el b) ?_ (c_f (e:= .val (.one (.sl 1 (b_0 b)))) hd hdef hX (by rintro cs (h | h) <;> cases h) ?_ hK)
 · simp[execOp,hop,hev,hrun]
 · refine V.sl ⟨W.heap.size,0,none⟩ b.size _ 1 (b_0 b) (fun i j=> .int .u8 (b.data.toList.getD i 0).toNat) (fun _=>⟨.inr rfl,rfl⟩) (x_u b) (grownCap_ge _ _ _ _) (fun i row hi=>?_) (fun i row j d hi hj=>?_) (fun i row j d hi hj=>?_)
   · obtain ⟨c,_,rfl⟩:=m_a hi;rfl
   · obtain ⟨c,hc,rfl⟩:=m_a hi
     have hj0:j=0:=by
       have:=(List.getElem?_eq_some_iff.1 hj).1
       simp at this;omega
     subst hj0
     have hlt:i < b.size:=(List.getElem?_eq_some_iff.1 hc).1
     have:=Lib.bytesWorld_cell W el b i hlt
     simpa using this
   · obtain ⟨c,hc,rfl⟩:=m_a hi
     have hj0:j=0:=by
       have:=(List.getElem?_eq_some_iff.1 hj).1
       simp at this;omega
     subst hj0
     cases hj
     have e:b.data.toList.getD i 0=c:=by simp[List.getD,hc]
     show V _ _ _ (.int .u8 ((b.data.toList.getD i 0).toNat:Int)) _
     rw[e]
     exact V.int _ _
theorem a_gl (l:List UInt8) :∀r:ByteArray,((l.map fun b=>(b.toNat:Int)).foldl (fun r n=>r.push (UInt8.ofNat n.toNat)) r) =⟨(r.data.toList ++ l).toArray⟩:=by
 induction l with
 | nil=>intro r;simp
 | cons b l ih=>
   intro r
   simp only[List.map_cons,List.foldl_cons]
   rw[ih]
   have e:UInt8.ofNat ((b.toNat:Int)).toNat=b:=by simp
   rw[e]
   simp[ByteArray.push]
theorem a_e5 (hd:∀d,o.dst=some d→d < n)(hdef:a.defers=df)(h:RelX P k0 β0 σ0 W0 n k β γ a.tmps W env σ){s t el:TypeId}{x:Operand}(hop:o.op= .convert s t x)
   (hs:P.underlying s=some (.slice el)) (ht:P.underlying t=some .string) (he:P.underlying el=some (.int .u8)) (hc1:P.cellsOf el=1) {b:ByteArray} {d:D} (hx:opE env x= .val (.one d)) (hr:Rows P σ el d (b_0 b))
   (hK:K (a_n env o.dst (.val (.one (.str b)))) σ) :o.wp P a W (Out df P k0 β0 σ0 W0 n (Dst o) env K) Q:=by
 obtain ⟨hv,_⟩:=a_o h a rfl x 0
 rw[hx] at hv
 have hv:V k β W (a.eval x) d:=hv
 refine a_v (e:= .val (.one (.str b))) (v:= .string b) hd hdef h ?_ (by rintro cs (h | h) <;> cases h) (V.str b) hK
 have run:∀ad l c,a.eval x= .slice ad l c→(Conv.bytesToString (.slice ad l c)).run P W= .ok (.string b) W→(execOp a.eval o).run P W= .ok (.value (.string b)) W:=by
   intro ad l c he' hb
   have:=run_convert_bytes_string (P:=P) W s t el ad l c hs he ht
   simp[execOp,hop,he',this,hb]
 by_cases hne:b_0 b=[]
 · rw[hne] at hr
   obtain ⟨ad,c,hev⟩:=a_ds hv hr
   have hb:b=ByteArray.empty:=by
     have:b.data.toList=[]:=by unfold b_0 at hne;simpa using hne
     obtain ⟨dt⟩:=b
     have:dt= #[]:=by simpa using this
     subst this;rfl
   subst hb
   refine run _ _ _ hev ?_
   cases ad with
   | none=>simp[Conv.bytesToString]
   | some ad=>
     have:=run_bytesToString (P:=P) W ad 0 c [] (by simpa using run_loadCells_list (P:=P) W ad [] (fun j v hv=>by simp at hv))
     simpa using this
 · obtain ⟨ad,cap,vals,hev,hcap,hsp,hl,hVL,hcell,_⟩:=o_r h.srel hv hr (by omega) hne
   refine run _ _ _ hev ?_
   have hvals:vals=(b.data.toList.map fun c=>(c.toNat:Int)).map (Value.int .u8):=by
     apply List.ext_getElem?
     intro j
     rw[u_z] at hVL
     have hlen:=hVL.1
     rw[List.length_map] at hlen
     rw[List.map_map,List.getElem?_map]
     cases hj:b.data.toList[j]? with
     | none=>
       have:=List.getElem?_eq_none_iff.1 hj
       rw[List.getElem?_eq_none (by omega)];rfl
     | some c=>
       have hlt:=(List.getElem?_eq_some_iff.1 hj).1
       have hv':=List.getElem?_eq_getElem (show j < vals.length by omega)
       have:=hVL.2 j _ _ hv' (by rw[List.getElem?_map,hj];rfl)
       rw[hv']
       generalize vals[j]=u at this
       cases this;rfl
   have hld:=run_loadCells_list (P:=P) W ad vals hcell
   have hlen:vals.length=(b_0 b).length:=by rw[hl,hc1,Nat.mul_one]
   rw[hlen] at hld
   rw[hvals] at hld
   rw[run_bytesToString (P:=P) W ad _ cap _ hld,a_gl]
   simp
theorem v_t {t u ty el:TypeId}{i:TypeInfo}(ht:P.underlying t=some (.slice el))(hu:P.underlying u=some .string)(hi:P.info? el=some i)(hs1:i.size=1)(ad:Option Addr)(n c:Nat)(hc:n≤c){b:ByteArray}(hb:b.size=0) :
   (Builtin.append_ #[t,u] ty #[.slice ad n c, .string b]).run P W= .ok (.slice ad n c) W:=by
 have hf:=Lib.run_firstCells_string (P:=P) W 1 b
 have hc0:Lib.strCells b=[]:=List.eq_nil_of_length_eq_zero (by rw[Lib.strCells_length];exact hb)
 rw[hb,hc0] at hf
 cases ad with
 | none=>simp[Builtin.append_,run_underlying ht,run_underlying hu,sizeOf,typeInfo,hi,hs1,Builtin.lenOf,hb,hc,hf]
 | some b'=>simp[Builtin.append_,run_underlying ht,run_underlying hu,sizeOf,typeInfo,hi,hs1,Builtin.lenOf,hb,hc,hf,storeCells]
theorem u_5 {t u ty el tt:TypeId}{i:TypeInfo}(ht:P.underlying t=some (.slice el))(hu:P.underlying u=some .string)(hi:P.info? el=some i)(hs1:i.size=1)(g off sLen sCap:Nat)(cur:Array Value)(hg:W.heap[g]? =some (.cells cur tt (0,0)))
   (s:ByteArray) (hroom:sLen+s.size≤sCap) (hfit:off+sLen+s.size≤cur.size) :
   (Builtin.append_ #[t,u] ty #[.slice (some ⟨g,off,none⟩) sLen sCap, .string s]).run P W =
     .ok (.slice (some ⟨g,off,none⟩) (sLen+s.size) sCap) (W.setRow g (cur.toList.take (off+sLen) ++ Lib.strCells s ++ cur.toList.drop (off+sLen+s.size)).toArray):=by
 have hf:=Lib.run_firstCells_string (P:=P) W 1 s
 have hst:=run_storeCells_at P g (off+sLen) tt (Lib.strCells s) 0 cur W hg (by simpa[Lib.strCells_length] using hfit) (Lib.strCells_oneCell s)
 simp only[Nat.add_zero,Lib.strCells_length] at hst
 simp[Builtin.append_,run_underlying ht,run_underlying hu,sizeOf,typeInfo,hi,hs1,Builtin.lenOf,hroom,hf,Addr.add_lit,hst]
theorem a_aw (hd:∀d,o.dst=some d→d < n)(hdef:a.defers=df)(h:RelX P k0 β0 σ0 W0 n k β γ a.tmps W env σ){t u el:TypeId}{s x:Operand}
   (hrun:∀v w',(Builtin.append_ #[t,u] o.type #[a.eval s,a.eval x]).run P W= .ok v w'→(execOp a.eval o).run P W= .ok (.value v) w')
   (ht:P.underlying t=some (.slice el)) (hu:P.underlying u=some .string) {info:TypeInfo} {z:List D} (hinf:P.info? el=some info) (hz:(zeroCells P el).bind d_y=some z) (hzl:z.length=1) (hs1:info.size=1) (hbt:0 < info.bytes)
   {d:D} {b:ByteArray} (hds:opE env s= .val (.one d)) (hdx:opE env x= .val (.one (.str b)))
   (hs:c_c P σ el info.bytes d (b_0 b) fun d σ'=>K (a_n env o.dst (.val (.one d))) σ') :o.wp P a W (Out df P k0 β0 σ0 W0 n (Dst o) env K) Q:=by
 obtain ⟨hvs,_⟩:=a_o h a rfl s 0
 obtain ⟨hvx,_⟩:=a_o h a rfl x 0
 rw[hds] at hvs
 rw[hdx] at hvx
 have hvs:V k β W (a.eval s) d:=hvs
 have hvx:V k β W (a.eval x) (.str b):=hvx
 have hev:a.eval x= .string b:=by
   generalize a.eval x=v at hvx
   cases hvx;rfl
 rw[hev] at hrun
 obtain ⟨rs,hrs,hby,hsl,hK⟩:=hs
 have hl:=x_u b
 have hpos:b_0 b≠[]→0 < b.size:=fun hne=>by
   rw[←hl]
   exact List.length_pos_iff.2 hne
 refine q_j (vx:=Lib.strCells b) hd hdef h hrun hvs hinf hz (by omega) (by omega) hbt hrs hby hsl hK (fun _=>by rw[Lib.strCells_length,hl,hs1,Nat.mul_one]) (fun _=>a_fa b)
   (fun _ i r hr=>by obtain ⟨c,_,rfl⟩:=m_a hr;simp[Program.cellsOf,hinf,hs1])
   (fun hn ad n c hc=>v_t ht hu hinf hs1 ad n c hc (by rw[←hl,hn];rfl)) (fun hne zv hzz h63 h48=>?_) (fun hne zv hzz bb sLen sCap olds ho hoc hg h63 hfit=>?_) (fun hne g off sLen sCap cur tt hg hroom hfit=>?_)
 · rw[hl] at h63 h48 ⊢
   have:=run_append_nil_string (P:=P) (w:=W) t u o.type el info zv ht hu hinf hzz b (hpos hne) h63 h48
   rw[this]
   congr 3
   apply Array.ext'
   simp[Lib.strCells]
 · rw[hl] at hg h63 hfit ⊢
   exact Lib.run_append_grow_string (P:=P) W t u o.type el info zv ht hu hinf hzz bb sLen sCap olds ho hoc b hg h63 hfit
 · rw[hl] at hroom ⊢
   rw[hs1,Nat.mul_one,Lib.strCells_length] at hfit
   rw[hs1,Nat.mul_one,Lib.strCells_length]
   exact u_5 ht hu hinf hs1 g off sLen sCap cur hg b hroom hfit
theorem a_ni (hd:∀d,o.dst=some d→d < n)(hdef:a.defers=df)(h:RelX P k0 β0 σ0 W0 n k β γ a.tmps W env σ){j:Nat}(hk:l_g P o=j)
   (hs:dStr P j o env σ fun e σ'=>K (a_n env o.dst e) σ') :o.wp P a W (Out df P k0 β0 σ0 W0 n (Dst o) env K) Q:=by
 unfold dStr at hs
 split at hs
 · rename_i s t x hop
   unfold l_g at hk
   rw[hop] at hk
   simp only at hk
   split at hs
   · rename_i b hx
     split at hk
     · rename_i el hps hpt
       split at hk
       · rename_i hpe
         exact a_da hd hdef h hop hps hpt hpe hx hs
       · cases hk
     · split at hk <;> cases hk
     · cases hk
   · exact hs.elim
 · rename_i s t x hop
   unfold l_g at hk
   rw[hop] at hk
   simp only at hk
   split at hs
   · rename_i el d hps hx
     obtain ⟨b,hr,hK⟩:=hs
     rw[hps] at hk
     split at hk
     · rename_i h1 _;cases h1
     · rename_i el' h1 hpt
       injection h1 with h1
       injection h1 with h1
       subst h1
       split at hk
       · rename_i hpe hb
         exact a_e5 hd hdef h hop hps hpt hpe (Nat.eq_of_beq_eq_true hb) hx hr hK
       · cases hk
     · cases hk
   · exact hs.elim
 · rename_i t x i hop
   unfold l_g at hk
   rw[hop] at hk
   simp only at hk
   split at hs
   · rename_i s q i hx hi
     obtain ⟨m,hb,hK⟩:=hs
     split at hk
     · rename_i hpt
       exact a_c9 hd hdef h hop hpt hx hi hb hK
     · cases hk
   · exact hs.elim
 · rename_i t x lo hi hop
   unfold l_g at hk
   rw[hop] at hk
   simp only at hk
   split at hs
   · rename_i s q l hx hl
     split at hk
     · rename_i hpt
       exact z_m hd hdef h hop hpt hx hl hs
     · cases hk
   · exact hs.elim
 · rename_i c hop
   obtain ⟨callee,cargs,ctypes⟩:=c
   unfold l_g at hk
   rw[hop] at hk
   simp only at hk hs
   split at hk
   · split at hk
     · rename_i t0 t' hct
       split at hk
       · rename_i hpt'
         split at hs
         · rename_i s x t u hca hct'
           rw[hct] at hct'
           injection hct' with e1 e2
           injection e2 with e2 _
           subst e1 e2
           split at hs
           · rename_i el d b hpt hds hdx
             split at hs
             · rename_i info z hinf hz
               split at hs
               · rename_i hdec
                 obtain ⟨d1,d2,d3⟩:=of_decide_eq_true hdec
                 refine a_aw hd hdef h (fun v w' hv=>?_) hpt hpt' hinf hz d1 d2 d3 hds hdx hs
                 have e1:cargs= #[s,x]:=by apply Array.ext';rw[hca]
                 have e2:ctypes= #[t0,t']:=by apply Array.ext';rw[hct]
                 subst e1 e2
                 simp[execOp,hop,resolve,invoke,builtin,hv]
               · exact hs.elim
             · exact hs.elim
           · exact hs.elim
         · exact hs.elim
       · cases hk
     · cases hk
   · cases hk
 · exact hs.elim
theorem a_iy {j:Nat}{K K':E→Store→Prop}(hk:∀v s,K (.val v) s→K' (.val v) s)(hs:dStr P j o env σ K) :dStr P j o env σ K':=by
 unfold dStr at hs ⊢
 split at hs
 · split at hs
   · exact hk _ _ hs
   · exact hs.elim
 · split at hs
   · obtain ⟨b,hr,hK⟩:=hs
     exact ⟨b,hr,hk _ _ hK⟩
   · exact hs.elim
 · split at hs
   · obtain ⟨m,hb,hK⟩:=hs
     exact ⟨m,hb,hk _ _ hK⟩
   · exact hs.elim
 · split at hs
   · unfold z_3 at hs ⊢
     split at hs
     · obtain ⟨h0,h1,hK⟩:=hs
       exact ⟨h0,h1,hk _ _ hK⟩
     · obtain ⟨h0,h1,h2,hK⟩:=hs
       exact ⟨h0,h1,h2,hk _ _ hK⟩
     · exact hs.elim
   · exact hs.elim
 · split at hs
   · split at hs
     · split at hs
       · split at hs
         · obtain ⟨rs,h1,h2,h3,h4⟩:=hs
           exact ⟨rs,h1,h2,h3,fun d s' ha=>hk _ _ (h4 d s' ha)⟩
         · exact hs.elim
       · exact hs.elim
     · exact hs.elim
   · exact hs.elim
 · exact hs.elim
end
end
section
section
variable {df:List Deferred} {P:Program} {k0:Nat→Prop} {β0:Bk} {σ0:Store} {W0:World} {n:Nat} {k:Nat→Prop} {β:Bk} {γ:Nat→Nat}
 {tmps:Array Value} {W W':World} {env:Env} {σ σ':Store} {a:Act} {o:Oper} {K:a_4}
def WkE (e e':E) :Prop:=e'= .undef∨e=e'∨(∃s i off,e= .el s i off∧e'= .val (.one (.el s i off)))
theorem RelX.weaken (h:RelX P k0 β0 σ0 W0 n k β γ tmps W env σ){env':Env}(hw:∀s,WkE (get env s) (get env' s)) :RelX P k0 β0 σ0 W0 n k β γ tmps W env' σ:=by
 have hbox:∀s cs,f_f (get env' s) cs→get env s=get env' s:=by
   intro s cs hb
   rcases hw s with h1 | h1 | ⟨x,i,off,h1,h2⟩
   · rw[h1] at hb;rcases hb with hb | hb <;> cases hb
   · exact h1
   · rw[h2] at hb;rcases hb with hb | hb <;> cases hb
 exact {
   srel:=h.srel
   slot:=fun s=>by
     have hs:=h.slot s
     rcases hw s with h1 | h1 | ⟨x,i,off,h1,h2⟩
     · rw[h1];trivial
     · rw[←h1];exact hs
     · rw[h1] at hs;rw[h2];exact hs
   box:=fun s cs hb=>h.box s cs (by rw[hbox s cs hb];exact hb)
   inj:=fun s s' cs cs' hb hb' he=>h.inj s s' cs cs' (by rw[hbox s cs hb];exact hb) (by rw[hbox s' cs' hb'];exact hb') he
   ghost:=h.ghost
   frm:=h.frm
   size:=h.size }
theorem Rel.weaken (h:Rel df P k0 β0 σ0 W0 n a W env σ){env':Env}(hw:∀s,WkE (get env s) (get env' s)) :Rel df P k0 β0 σ0 W0 n a W env' σ:=by
 obtain ⟨h1,k,β,γ,h2⟩:=h
 exact ⟨h1,k,β,γ,h2.weaken hw⟩
def Post (df:List Deferred)(P:Program)(k0:Nat→Prop)(β0:Bk)(σ0:Store)(W0:World)(n:Nat)(S:Nat→Prop)(env:Env)(K:a_4) :Act→World→Prop:=fun a' W'=>
 ∃env' σ',K env' σ'∧(Rel df P k0 β0 σ0 W0 n a' W' env' σ'∧ND env')∧∀s,¬S s→FrS env env' s
def OutX (df:List Deferred)(P:Program)(k0:Nat→Prop)(β0:Bk)(σ0:Store)(W0:World)(n:Nat)(S:Nat→Prop)(env:Env)(Q:Exit→a_4) :Exit→Act→World→Prop:=fun e a' W'=>
 Post df P k0 β0 σ0 W0 n S env (Q e) a' W'
/-! ### the operations of a region, in their order -/
theorem a_gq (h:RelX P k0 β0 σ0 W0 n k β γ tmps W env σ){all:Array Oper}{j d:Nat}(hd:(all[j]?).bind (·.dst) =some d)(hdn:d < n){b:Bool}(hv:tmps.getD d undef= .bool b) :
   yielded all tmps j=some b:=by
 have hlt:d < tmps.size:=by rw[h.size];exact hdn
 have:tmps[d]? =some (.bool b):=by
   rw[Array.getElem?_eq_getElem hlt]
   have:=hv
   simp[hlt] at this
   rw[this]
 simp[yielded,hd,this]
def a_cg (P:Program)(k0:Nat→Prop)(β0:Bk)(σ0:Store)(W0:World)(n:Nat)(st:Oper→Env→Store→a_4→Prop)(Q:Exit→Act→World→Prop) :Prop:=
 ∀{df:List Deferred} {o:Oper} {k:Nat→Prop} {β:Bk} {γ:Nat→Nat} {a:Act} {W:World} {env:Env} {σ:Store} {K:a_4},ND env→boxDst env o=false→(∀d,o.dst=some d→d < n)→a.defers=df→RelX P k0 β0 σ0 W0 n k β γ a.tmps W env σ→st o env σ K→
   o.wp P a W (Out df P k0 β0 σ0 W0 n (Dst o) env (fun e s=>ND e∧K e s)) Q
theorem w_l {st:Oper→Env→Store→a_4→Prop}(all:Array Oper)(S:Nat→Prop)(hall:∀o ∈ all.toList,∀d,o.dst=some d→d < n∧S d)(env0:Env){Q:Exit→Act→World→Prop}(hst:a_cg P k0 β0 σ0 W0 n st Q)
   (ho:o ∈ all.toList) (hr:Rel df P k0 β0 σ0 W0 n a W env σ) (hnd:ND env) (hf:∀s,¬S s→FrS env0 env s) (hs:a_5 st all o env σ K) :
   (Region.wanted o (yielded all a.tmps) =true∧o.wp P a W (Post df P k0 β0 σ0 W0 n S env0 K) Q)∨
   (¬Region.wanted o (yielded all a.tmps) =true∧Post df P k0 β0 σ0 W0 n S env0 K (a.put o.dst undef) W):=by
 obtain ⟨hdef,k,β,γ,hX⟩:=hr
 have hod:=hall o ho
 rw[a_u] at hs
 obtain ⟨hnb,hs⟩:=hs
 have hwant:∀w,d_5 all o env=some w→Region.wanted o (yielded all a.tmps) =w:=by
   intro w hw
   unfold d_5 at hw
   cases hg:o.guard with
   | none=>rw[hg] at hw;injection hw with hw;subst hw;simp[Region.wanted,hg]
   | some g=>
     obtain ⟨j,want⟩:=g
     rw[hg] at hw
     simp only at hw
     cases hjd:(all[j]?).bind (·.dst) with
     | none=>simp only[hjd] at hw;cases hw
     | some d=>
       simp only[hjd] at hw
       have hdall:d < n∧S d:=by
         cases hj:all[j]? with
         | none=>rw[hj] at hjd;cases hjd
         | some oj=>
           rw[hj] at hjd
           exact hall oj (by rw[←Array.getElem?_toList] at hj;exact List.mem_of_getElem? hj) d hjd
       have hslot:=hX.slot d
       split at hw
       · rename_i hgd
         injection hw with hw;subst hw
         rw[hgd] at hslot
         have hslot:a.tmps.getD d undef=undef:=hslot
         have hy:yielded all a.tmps j=none:=by
           have hlt:d < a.tmps.size:=by rw[hX.size];exact hdall.1
           have e1:a.tmps[d]? =some undef:=by
             rw[Array.getElem?_eq_getElem hlt]
             simp[hlt] at hslot
             rw[hslot]
           simp[yielded,hjd,e1,undef]
         simp[Region.wanted,hg,hy]
       · rename_i b hgd
         injection hw with hw;subst hw
         rw[hgd] at hslot
         have hy:=a_gq hX hjd hdall.1 (V.inv_bool hslot)
         simp[Region.wanted,hg,hy]
       · cases hw
 rcases hs with ⟨hw,hs⟩ | ⟨hw,hs⟩
 · refine .inl ⟨hwant _ hw,?_⟩
   have h1:=hst hnd hnb (fun d hd=>(hod d hd).1) hdef hX hs
   refine Oper.wp_mono (fun a' W' h2=>?_) h1
   obtain ⟨env',σ',h3,h4,h5⟩:=h2
   exact ⟨env',σ',h3.2,⟨h4,h3.1⟩,fun s hns=>(hf s hns).trans (h5 s (fun hd=>hns (hod s hd).2))⟩
 · refine .inr ⟨by rw[hwant _ hw];simp,?_⟩
   obtain ⟨env',σ',h3,h4,h5⟩:=c_f (a:=a) (K:=fun e s=>ND e∧K e s) (fun d hd=>(hod d hd).1) hdef hX (v:=undef) (e:= .sk) (by rintro cs (h | h) <;> cases h) rfl ⟨NBe.sk.nd hnd hnb,hs⟩
   exact ⟨env',σ',h3.2,⟨h4,h3.1⟩,fun s hns=>(hf s hns).trans (h5 s (fun hd=>hns (hod s hd).2))⟩
theorem s_v (an:Ann){Q:Exit→Act→World→Prop} :a_cg P k0 β0 σ0 W0 n (c_p P an) Q:=fun hnd hnb hod hdef hX hs=>
 a_k2 hnd hnb hod hdef hX an (a_aa hnd hs (K':=fun e s=>ND e∧_) fun e' s' he hK=>⟨he.nd hnd hnb,hK⟩)
theorem y_j (an:Ann){Q:Exit→Act→World→Prop} :a_cg P k0 β0 σ0 W0 n (a_f0 P an) Q:=by
 intro df o k β γ a W env σ K hnd hnb hod hdef hX hs
 unfold a_f0 at hs
 cases hz:fzOf an o with
 | false=>
   rw[hz] at hs
   replace hs:a_g0 P an o env σ K:=hs
   unfold a_g0 at hs
   split at hs
   · exact s_v an hnd hnb hod hdef hX hs
   · rename_i j hk
     exact a_ni hod hdef hX (K:=fun e s=>ND e∧K e s) hk (a_iy (K':=fun e s=>(fun e s=>ND e∧K e s) (a_n env o.dst e) s) (fun v s h=>⟨(NBe.val _).nd hnd hnb,h⟩) hs)
 | true=>
   rw[hz] at hs
   cases hop:o.op <;> simp only[hop] at hs <;> first | exact hs.elim | skip
   rename_i t len parts
   have hs':dFrz P t len (e_t env parts.toList) fun e=>(fun e s=>ND e∧K e s) (a_n env o.dst e) σ:=by
     unfold dFrz at hs ⊢
     split at hs
     · split at hs
       · split at hs
         · split at hs
           · exact ⟨(NBe.val _).nd hnd hnb,hs⟩
           · exact hs.elim
         · exact hs.elim
       · exact hs.elim
     · exact hs.elim
   exact a_db hod hdef hX t len parts hop hs'
theorem y_m (an:Ann){Q:Exit→Act→World→Prop} :a_cg P k0 β0 σ0 W0 n (a_gs P an) Q:=by
 intro df o k β γ a W env σ K hnd hnb hod hdef hX hs
 unfold a_gs at hs
 split at hs
 · exact y_j an hnd hnb hod hdef hX hs
 · split at hs
   · rename_i t x lo hi mx hop
     refine a_i2 hod hdef hX (K:=fun e s=>ND e∧K e s) t x lo hi mx hop ?_
     unfold dSl3 at hs ⊢
     split at hs
     · split at hs
       · obtain ⟨len,h1,h2,h3,h4,h5,hK⟩:=hs
         exact ⟨len,h1,h2,h3,h4,h5,NBe.undef.nd hnd hnb,hK⟩
       · exact hs.elim
     · exact hs.elim
   · exact hs.elim
 · split at hs
   · rename_i t x lo hi hop
     refine a_nd hod hdef hX (K:=fun e s=>ND e∧K e s) t x lo hi hop ?_
     unfold a_il at hs ⊢
     split at hs
     · split at hs
       · obtain ⟨m,h1,h2,h3,h4,hK⟩:=hs
         exact ⟨m,h1,h2,h3,h4,(NBe.val _).nd hnd hnb,hK⟩
       · exact hs.elim
     · exact hs.elim
   · exact hs.elim
theorem a_j2 (all:Array Oper)(an:Ann)(S:Nat→Prop)(hall:∀o ∈ all.toList,∀d,o.dst=some d→d < n∧S d)(env0:Env){Q:Exit→Act→World→Prop}
   (ho:o ∈ all.toList) (hr:Rel df P k0 β0 σ0 W0 n a W env σ) (hnd:ND env) (hf:∀s,¬S s→FrS env0 env s) (hs:a_5 (c_p P an) all o env σ K) :
   (Region.wanted o (yielded all a.tmps) =true∧o.wp P a W (Post df P k0 β0 σ0 W0 n S env0 K) Q)∨
   (¬Region.wanted o (yielded all a.tmps) =true∧Post df P k0 β0 σ0 W0 n S env0 K (a.put o.dst undef) W):=
 w_l all S hall env0 (s_v an) ho hr hnd hf hs
theorem a_ca (all:Array Oper)(an:Ann)(S:Nat→Prop)(hall:∀o ∈ all.toList,∀d,o.dst=some d→d < n∧S d)(env0:Env){Qx:Exit→a_4} :
   ∀(l:List Oper) (a:Act) (W:World),(∀o ∈ l,o ∈ all.toList)→Post df P k0 β0 σ0 W0 n S env0 (dops P an all l (Qx .normal)) a W→
     wpList P all (OutX df P k0 β0 σ0 W0 n S env0 Qx) l a W
 | [],a,W,_,h=>h
 | o::r,a,W,hl,⟨env,σ,hs,⟨hr,hnd⟩,hf⟩=>by
   have hl':∀o ∈ r,o ∈ all.toList:=fun o ho=>hl o (by simp[ho])
   unfold wpList
   rcases w_l (Q:=OutX df P k0 β0 σ0 W0 n S env0 Qx) all S hall env0 (y_m an) (hl o (by simp)) hr hnd hf hs with ⟨h1,h2⟩ | ⟨h1,h2⟩
   · rw[if_pos h1]
     exact .inl (Oper.wp_mono (fun a' W' h3=>a_ca all an S hall env0 r a' W' hl' h3) h2)
   · rw[if_neg h1]
     exact a_ca all an S hall env0 r _ W hl' h2
/-! ### shapes -/
def exL:(ss:List Sh)→{R R':Type}→h_2 ss R→h_2 ss R'→(List D→List D)→(List D→R→R'→Prop)→Prop
 | [],_,_,f,g,acc,K=>K (acc []) f g
 | .int q::ss,_,_,f,g,acc,K=>∃n:Int,exL ss (f n) (g n) (fun r=>acc (.int q n::r)) K
 | .bool::ss,_,_,f,g,acc,K=>∃b:Bool,exL ss (f b) (g b) (fun r=>acc (.bool b::r)) K
 | .str::ss,_,_,f,g,acc,K=>∃s:ByteArray,exL ss (f s) (g s) (fun r=>acc (.str s::r)) K
 | .any::ss,_,_,f,g,acc,K=>∃d:D,exL ss (f d) (g d) (fun r=>acc (d::r)) K
def exM:(ms:List (Nat × SlotSh))→{R R':Type}→e_9 ms R→e_9 ms R'→Env→(Env→R→R'→Prop)→Prop
 | [],_,_,f,g,env,K=>K env f g
 | m::ms,_,_,f,g,env,K=>exL (shL m.2) f g (fun r=>r) fun ds f' g'=>exM ms f' g' (a_t env m.1 (w_1 m.2 ds)) K
theorem o_k:∀(ss:List Sh) {R R':Type} (f:h_2 ss R) (g:h_2 ss R') (acc:List D→List D) (K K':List D→R→R'→Prop),allL ss f g acc K→exL ss f g acc K'→
   ∃ds f' g',K ds f' g'∧K' ds f' g'
 | [],_,_,f,g,acc,K,K',h,h'=>⟨_,_,_,h,h'⟩
 | .int q::ss,_,_,f,g,acc,K,K',h,⟨m,h'⟩=>o_k ss _ _ _ K K' (h m) h'
 | .bool::ss,_,_,f,g,acc,K,K',h,⟨m,h'⟩=>o_k ss _ _ _ K K' (h m) h'
 | .str::ss,_,_,f,g,acc,K,K',h,⟨m,h'⟩=>o_k ss _ _ _ K K' (h m) h'
 | .any::ss,_,_,f,g,acc,K,K',h,⟨m,h'⟩=>o_k ss _ _ _ K K' (h m) h'
theorem a_fs:∀(ms:List (Nat × SlotSh)) {R R':Type} (f:e_9 ms R) (g:e_9 ms R') (env:Env) (K K':Env→R→R'→Prop),allM ms f g env K→exM ms f g env K'→
   ∃env' f' g',K env' f' g'∧K' env' f' g'
 | [],_,_,f,g,env,K,K',h,h'=>⟨_,_,_,h,h'⟩
 | m::ms,_,_,f,g,env,K,K',h,h'=>by
   obtain ⟨ds,f',g',h1,h2⟩:=o_k _ _ _ _ _ _ h h'
   exact a_fs ms f' g' _ K K' h1 h2
theorem n_6:∀(ss:List Sh) {R R':Type} (ds:List D) (f:h_2 ss R) (g:h_2 ss R') (acc:List D→List D) (p:R→Prop) (q:R'→Prop) (K:List D→R→R'→Prop),
   c_e ss ds f p→c_e ss ds g q→(∀f' g',p f'→q g'→K (acc ds) f' g')→exL ss f g acc K
 | [],_,_,[],f,g,acc,p,q,K,h,h',hK=>hK _ _ h h'
 | [],_,_,_::_,f,g,acc,p,q,K,h,h',hK=>by simp[c_e] at h
 | .int q1::ss,_,_,ds,f,g,acc,p,q,K,h,h',hK=>by
   cases ds with
   | nil=>simp[c_e] at h
   | cons d ds=>
     cases d <;> try (simp[c_e] at h;done)
     rename_i q2 m
     simp only[c_e] at h h'
     split at h
     · rename_i hq
       have e:=of_decide_eq_true hq
       subst e
       simp only[hq] at h'
       exact ⟨m,n_6 ss ds _ _ _ p q K h h' hK⟩
     · exact h.elim
 | .bool::ss,_,_,ds,f,g,acc,p,q,K,h,h',hK=>by
   cases ds with
   | nil=>simp[c_e] at h
   | cons d ds=>
     cases d <;> try (simp[c_e] at h;done)
     exact ⟨_,n_6 ss ds _ _ _ p q K h h' hK⟩
 | .str::ss,_,_,ds,f,g,acc,p,q,K,h,h',hK=>by
   cases ds with
   | nil=>simp[c_e] at h
   | cons d ds=>
     cases d <;> try (simp[c_e] at h;done)
     exact ⟨_,n_6 ss ds _ _ _ p q K h h' hK⟩
 | .any::ss,_,_,ds,f,g,acc,p,q,K,h,h',hK=>by
   cases ds with
   | nil=>simp[c_e] at h
   | cons d ds=>exact ⟨d,n_6 ss ds _ _ _ p q K (by simpa[c_e] using h) (by simpa[c_e] using h') hK⟩
theorem a_lz {sh:SlotSh}{e:E}{ds:List D}(h:t_z sh e=some ds) :WkE e (w_1 sh ds):=by
 unfold t_z at h
 split at h <;> first | (injection h with h;subst h) | cases h
 · exact .inr (.inl rfl)
 · exact .inr (.inr ⟨_,_,_,rfl,rfl⟩)
 · exact .inr (.inl rfl)
 · exact .inr (.inl rfl)
theorem x_v:∀(ms:List (Nat × SlotSh)) {R R':Type} (env':Env) (f:e_9 ms R) (g:e_9 ms R') (acc:Env) (p:R→Prop) (q:R'→Prop) (K:Env→R→R'→Prop),
   l_h ms env' f p→l_h ms env' g q→(∀s,WkE (get env' s) (get acc s))→(∀envH f' g',(∀s,WkE (get env' s) (get envH s))→p f'→q g'→K envH f' g')→exM ms f g acc K
 | [],_,_,env',f,g,acc,p,q,K,h,h',hw,hK=>hK acc f g hw h h'
 | m::ms,_,_,env',f,g,acc,p,q,K,h,h',hw,hK=>by
   simp only[l_h] at h h'
   split at h
   · rename_i ds hd
     simp only[hd] at h'
     refine n_6 _ ds f g _ _ _ _ h h' (fun f' g' h1 h2=>?_)
     refine x_v ms env' f' g' _ p q K h1 h2 (fun s=>?_) hK
     by_cases hs:s=m.1
     · subst hs;rw[b_f];exact a_lz hd
     · rw[a_0 _ _ hs];exact hw s
   · exact h.elim
/-! ### what a frame keeps -/
def m_e (env:Env) :List Nat→Env→Env
 | [],acc=>acc
 | s::r,acc=>m_e env r (a_t acc s (get env s))
theorem t_8 (env:Env) :∀(l:List Nat) (acc:Env) (p:Env→Prop),a_df env l acc p↔p (m_e env l acc)
 | [],acc,p=>Iff.rfl
 | s::r,acc,p=>by
   simp only[a_df,m_e,forceE_iff]
   exact t_8 env r _ p
theorem g_z (env:Env) :∀(l:List Nat) (acc:Env) (s:Nat),get (m_e env l acc) s=if s ∈ l then get env s else get acc s
 | [],acc,s=>by simp[m_e]
 | x::r,acc,s=>by
   simp only[m_e]
   rw[g_z env r _ s]
   by_cases h:s ∈ r
   · simp[h]
   · by_cases hx:s=x
     · subst hx;simp[h,b_f]
     · simp[h,hx,a_0]
theorem j_v {keep:List Nat}{mods:List (Nat × SlotSh)}{p:Nat→Bool}(h:a_b2 keep mods p=true){s:Nat}(hs:s ∈ keep) :p s=true∧∀m ∈ mods,m.1≠s:=by
 unfold a_b2 at h
 have:=List.all_eq_true.1 h s hs
 split at this
 · rename_i hp
   refine ⟨hp,fun m hm e=>?_⟩
   have h2:mods.any (fun m=>Nat.beq m.1 s) =true:=List.any_eq_true.2 ⟨m,hm,by rw[e];exact Nat.beq_refl s⟩
   rw[h2] at this;cases this
 · cases this
theorem a_g6 {env env':Env} :∀(l:List Nat),(∀s ∈ l,∀cs,get env s= .bx cs→∃cs',get env' s= .bx cs')→(∀s ∈ l,(∀cs,get env s≠ .bx cs)→get env' s=get env s)→
   bxs env' l=bxs env l→∀s ∈ l,get env' s=get env s
 | [],_,_,_=>fun s hs=>by cases hs
 | x::r,h1,h2,h=>by
   intro s hs
   have hr:(∀s ∈ r,∀cs,get env s= .bx cs→∃cs',get env' s= .bx cs')∧(∀s ∈ r,(∀cs,get env s≠ .bx cs)→get env' s=get env s):=
     ⟨fun s hs=>h1 s (by simp[hs]),fun s hs=>h2 s (by simp[hs])⟩
   by_cases hx:∃cs,get env x= .bx cs
   · obtain ⟨cs,hx⟩:=hx
     obtain ⟨cs',hx'⟩:=h1 x (by simp) cs hx
     simp only[bxs,hx,hx'] at h
     injection h with h3 h4
     rcases List.mem_cons.1 hs with rfl | hs
     · rw[hx,hx',h3]
     · exact a_g6 r hr.1 hr.2 h4 s hs
   · have hn:∀cs,get env x≠ .bx cs:=fun cs hc=>hx ⟨cs,hc⟩
     have he:=h2 x (by simp) hn
     have e1:∀env1:Env,(∀cs,get env1 x≠ .bx cs)→bxs env1 (x::r) =bxs env1 r:=by
       intro env1 hn1
       simp only[bxs]
     rw[e1 env hn,e1 env' (fun cs hc=>hn cs (by rw[←he];exact hc))] at h
     rcases List.mem_cons.1 hs with rfl | hs
     · exact he
     · exact a_g6 r hr.1 hr.2 h s hs
theorem u_x {env env':Env}{l:List Nat}{p:Prop}(h:a_a7 env env' l p)(hf:∀s ∈ l,FrS env env' s) :p∧∀s ∈ l,get env' s=get env s:=by
 unfold a_a7 at h
 split at h
 · rename_i he
   refine ⟨h,?_⟩
   have hnil:bxs env l=[]:=by cases hb:bxs env l with
     | nil=>rfl
     | cons=>rw[hb] at he;cases he
   have hnb:∀s ∈ l,∀cs,get env s≠ .bx cs:=by
     clear hf h he
     induction l with
     | nil=>intro s hs;cases hs
     | cons x r ih=>
       intro s hs cs hc
       simp only[bxs] at hnil
       split at hnil
       · cases hnil
       · rename_i hx
         rcases List.mem_cons.1 hs with rfl | hs
         · exact hx cs hc
         · exact ih hnil s hs cs hc
   exact fun s hs=>(hf s hs).2 (hnb s hs)
 · exact ⟨h.2,a_g6 l (fun s hs=>(hf s hs).1) (fun s hs=>(hf s hs).2) h.1⟩
end
end
section
section
variable {df:List Deferred} {P:Program} {k0:Nat→Prop} {β0:Bk} {σ0:Store} {W0:World} {n:Nat} {an:Ann} {env env':Env} {σ σ':Store} {o:Oper} {K K':a_4} {da:DAnn} {ops:Array Oper}
theorem a_ej {i:Nat}(hsp:∀c f,da.cs i=some c→i_1 o.op=some f→∀as0 s,c.pre as0 s→DCalls P f as0 s (c.post as0 s))(h:a_5 (a_9 P an da i) ops o env σ K) :a_5 (c_p P an) ops o env σ K:=by
 rw[a_u] at h ⊢
 refine ⟨h.1,h.2.imp (fun ⟨h1,h2⟩=>⟨h1,?_⟩) id⟩
 rw[rstep_iff] at h2
 obtain ⟨_,⟨c,hc,h2⟩ | ⟨_,_,h2⟩⟩:=h2
 · rw[d_r] at h2
   obtain ⟨f,as0,g1,g2,g3,g4⟩:=h2
   obtain ⟨cl,ho,hcal⟩:=g_u g1
   have hd:=hsp c f hc g1 as0 σ g3
   unfold c_p;rw[ho]
   show u_l P o cl env σ fun e σ'=>K (a_n env o.dst e) σ'
   unfold u_l;rw[hcal]
   rw[ho] at g2
   have g2:k_i env cl.args.toList=some as0:=g2
   show (match k_i env cl.args.toList with | some as0=>u_a P o f as0 σ _ | none=>False)
   rw[g2]
   exact hd.mono fun r s hr=>g4 r s hr
 · exact h2
theorem pull (hsl:∀i c,da.cs i=some c→f_9 c){i:Nat}{oi:Oper}(hi:ops[i]? =some oi){l2:List Nat} :∀(l1:List Nat) {env:Env} {σ:Store},Fin σ→ND env→
   (∀y ∈ l1,∀oy,ops[y]? =some oy→s_4 P an ops da y oy i oi=true)→m_c P an ops da (l1 ++ i::l2) K env σ→a_5 (a_9 P an da i) ops oi env σ (m_c P an ops da (l1 ++ l2) K)
 | [],env,σ,hfin,hnd,hc,h=>by
   have h:(match ops[i]? with | some o=>a_5 (a_9 P an da i) ops o env σ (m_c P an ops da l2 K) | none=>False):=h
   rw[hi] at h;exact h
 | y::l1,env,σ,hfin,hnd,hc,h=>by
   have h:(match ops[y]? with | some o=>a_5 (a_9 P an da y) ops o env σ (m_c P an ops da (l1 ++ i::l2) K) | none=>False):=h
   cases hy:ops[y]? with
   | none=>rw[hy] at h;exact h.elim
   | some oy=>
     rw[hy] at h
     have h1:=w_i hsl hnd h (K':=fun e s=>a_5 (a_9 P an da i) ops oi e s (m_c P an ops da (l1 ++ l2) K)) fun e' s' hg hb hK=>
       pull hsl hi l1 (hg.fin hfin) (hg.nd hnd hb) (fun z hz=>hc z (by simp[hz])) hK
     have h2:=swap hsl hfin hnd (hc y (by simp) oy hy) h1
     refine w_i hsl hnd h2 fun e' s' hg hb hK=>?_
     show (match ops[y]? with | some o=>a_5 (a_9 P an da y) ops o e' s' (m_c P an ops da (l1 ++ l2) K) | none=>False)
     rw[hy];exact hK
def DC (ops:Array Oper)(listed:Array Bool) :Prop:=
 ∀(j:Nat) oj,ops[j]? =some oj→listed.getD j false=true→∀e ∈ oj.after.toList,Region.binds .any e=true→listed.getD e.on false=true
def Free (listed:Array Bool)(o:Oper) :Prop:=∀e ∈ o.after.toList,Region.binds .any e=true→listed.getD e.on false=true
def a_go (ops:Array Oper)(o:Oper)(m:Nat) :Prop:=∀listed:Array Bool,DC ops listed→Free listed o→∀j,m.testBit j=true→listed.getD j false=true
def Good (ops:Array Oper)(acc:List (Nat × Nat)) :Prop:=∀p ∈ acc,∃o,ops[p.1]? =some o∧a_go ops o p.2
theorem z_z {k m:Nat} :∀{acc:List (Nat × Nat)},a_hx k acc=some m→(k,m) ∈ acc
 | [],h=>by cases h
 | (a,b) ::r,h=>by
   unfold a_hx at h
   split at h
   · rename_i hb
     injection h with h;subst h
     rw[←Nat.eq_of_beq_eq_true hb];simp
   · exact List.mem_cons_of_mem _ (z_z h)
theorem m_w {acc:List (Nat × Nat)}(hg:Good ops acc) :∀{es:List Edge} {m:Nat},t_l acc es=some m→
   (∀e ∈ es,Region.binds .any e=true→∃me,(e.on,me) ∈ acc)∧
   ∀listed:Array Bool,DC ops listed→(∀e ∈ es,Region.binds .any e=true→listed.getD e.on false=true)→∀j,m.testBit j=true→listed.getD j false=true
 | [],m,h=>by
   simp only[t_l,Option.some.injEq] at h
   subst h
   exact ⟨fun e he=>(by cases he),fun listed _ _ j hj=>(by simp at hj)⟩
 | e::es,m,h=>by
   unfold t_l at h
   split at h
   · rename_i hb
     obtain ⟨h1,h2⟩:=m_w hg h
     refine ⟨fun e' he' hb'=>?_,fun listed hd hf j hj=>h2 listed hd (fun e' he'=>hf e' (by simp[he'])) j hj⟩
     rcases List.mem_cons.1 he' with rfl | he'
     · rw[hb] at hb';cases hb'
     · exact h1 e' he' hb'
   · rename_i hb
     split at h
     · rename_i me m' hf hm
       injection h with h;subst h
       obtain ⟨h1,h2⟩:=m_w hg hm
       have hme:=z_z hf
       refine ⟨fun e' he' hb'=>?_,fun listed hd hfr j hj=>?_⟩
       · rcases List.mem_cons.1 he' with rfl | he'
         · exact ⟨me,hme⟩
         · exact h1 e' he' hb'
       · have hon:=hfr e (by simp) hb
         simp only[Nat.testBit_or,Bool.or_eq_true] at hj
         rcases hj with (hj | hj) | hj
         · exact h2 listed hd (fun e' he'=>hfr e' (by simp[he'])) j hj
         · obtain ⟨o,ho,hmo⟩:=hg _ hme
           exact hmo listed hd (hd e.on o ho hon) j hj
         · have : j = e.on := by
             rw[Nat.one_shiftLeft,Nat.testBit_two_pow] at hj
             exact (of_decide_eq_true hj).symm
           rw[this];exact hon
     · cases h
theorem l_l:∀{l:List Nat} {acc:List (Nat × Nat)},j_w P an ops da l acc=true→Good ops acc→∀l1 i l2,l=l1 ++ i::l2→
   ∃oi m,ops[i]? =some oi∧a_go ops oi m∧(∀e ∈ oi.after.toList,Region.binds .any e=true→e.on ∈ l1∨∃me,(e.on,me) ∈ acc)∧
     ∀y,(y ∈ l1∨∃m',(y,m') ∈ acc)→y≠i∧(m.testBit y=true∨∃oy,ops[y]? =some oy∧s_4 P an ops da y oy i oi=true)
 | [],acc,h,hg,l1,i,l2,hl=>by cases l1 <;> cases hl
 | x::r,acc,h,hg,l1,i,l2,hl=>by
   unfold j_w at h
   split at h
   · cases h
   · rename_i ox hx
     split at h
     · cases h
     · rename_i m hm
       split at h
       · rename_i hall
         obtain ⟨hm1,hm2⟩:=m_w hg hm
         have hmo:a_go ops ox m:=fun listed hd hf j hj=>hm2 listed hd hf j hj
         cases l1 with
         | nil=>
           injection hl with hl1 hl2
           subst hl1
           refine ⟨ox,m,hx,hmo,fun e he hb=> .inr (hm1 e he hb),fun y hy=>?_⟩
           rcases hy with hy | ⟨m',hy⟩
           · cases hy
           · have:=List.all_eq_true.1 hall (y,m') hy
             simp only[Bool.and_eq_true,Bool.not_eq_true',Bool.or_eq_true] at this
             refine ⟨fun he=>?_,this.2.imp id fun hc=>?_⟩
             · subst he;rw[Nat.beq_refl] at this;cases this.1
             · cases hy':ops[y]? with
               | none=>rw[hy'] at hc;cases hc
               | some oy=>rw[hy'] at hc;exact ⟨oy,rfl,hc⟩
         | cons x' l1=>
           injection hl with hl1 hl2
           subst hl1
           have hg':Good ops ((x,m) ::acc):=by
             intro p hp
             rcases List.mem_cons.1 hp with rfl | hp
             · exact ⟨ox,hx,hmo⟩
             · exact hg p hp
           obtain ⟨oi,mi,q1,q2,q3,q4⟩:=l_l h hg' l1 i l2 hl2
           refine ⟨oi,mi,q1,q2,fun e he hb=>?_,fun y hy=>q4 y ?_⟩
           · rcases q3 e he hb with q | ⟨me,q⟩
             · exact .inl (by simp[q])
             · rcases List.mem_cons.1 q with q | q
               · injection q with q _;exact .inl (by simp[q])
               · exact .inr ⟨me,q⟩
           · rcases hy with hy | ⟨m',hy⟩
             · rcases List.mem_cons.1 hy with rfl | hy
               · exact .inr ⟨m,by simp⟩
               · exact .inl hy
             · exact .inr ⟨m',by simp[hy]⟩
       · cases h
theorem a_o7 (hsl:∀i c,da.cs i=some c→f_9 c)(hsp:∀i o c f,ops[i]? =some o→da.cs i=some c→i_1 o.op=some f→∀as0 s,c.pre as0 s→DCalls P f as0 s (c.post as0 s))(hrf:e_q P an ops da=true)(S:Nat→Prop)(hall:∀o ∈ ops.toList,∀d,o.dst=some d→d < n∧S d)(env0:Env){Qx:Exit→a_4} :
   ∀(fuel:Nat) (listed:Array Bool) (a:Act) (W:World),listed.size=ops.size→DC ops listed→(da.ord.filter fun j=> !listed.getD j true).length≤fuel→
     Post df P k0 β0 σ0 W0 n S env0 (m_c P an ops da (da.ord.filter fun j=> !listed.getD j true) (Qx .normal)) a W→
     wpAny P .any ops (OutX df P k0 β0 σ0 W0 n S env0 Qx) fuel listed a W:=by
 unfold e_q at hrf
 simp only[Bool.and_eq_true] at hrf
 obtain ⟨⟨hlen,hcov⟩,hgo⟩:=hrf
 have hspec:=fun l1 i l2 hl=>l_l (l:=da.ord) hgo (fun p hp=>by cases hp) l1 i l2 hl
 have hin:∀i,i < ops.size→i ∈ da.ord:=fun i hi=>by
   have:=List.all_eq_true.1 hcov i (List.mem_range.2 hi)
   simpa using this
 have hready:∀(listed:Array Bool) i,listed.size=ops.size→i ∈ Region.ready .any ops listed→i < ops.size∧listed.getD i true=false∧∃oi,ops[i]? =some oi∧Free listed oi:=by
   intro listed i hs hr
   rw[mem_ready] at hr
   obtain ⟨h1,o,h2,h3⟩:=hr
   exact ⟨(Array.getElem?_eq_some_iff.1 h2).1,h1,o,h2,fun e he hb=>h3 e (by simpa using he) hb⟩
 have hgetD:∀(listed:Array Bool) i,i < listed.size→listed.getD i true=listed.getD i false:=fun listed i hi=>by simp[hi]
 intro fuel
 induction fuel with
 | zero=>
   intro listed a W hs hdc hl hp
   have hnil:(da.ord.filter fun j=> !listed.getD j true) =[]:=List.length_eq_zero_iff.1 (Nat.le_zero.1 hl)
   rw[hnil] at hp
   refine ⟨?_,hp⟩
   cases hr:Region.ready .any ops listed with
   | nil=>rfl
   | cons i r=>
     obtain ⟨h1,h2,_⟩:=hready listed i hs (by rw[hr];simp)
     have:i ∈ (da.ord.filter fun j=> !listed.getD j true):=List.mem_filter.2 ⟨hin i h1,by simp[h2]⟩
     rw[hnil] at this;cases this
 | succ fuel ih=>
   intro listed a W hs hdc hl hp
   refine ⟨fun hr=>?_,fun i hi=>?_⟩
   · -- nothing is ready:all is done
     cases hR:(da.ord.filter fun j=> !listed.getD j true) with
     | nil=>rw[hR] at hp;exact hp
     | cons i l2=>
       exfalso
       obtain ⟨b1,b2,e1,e2,e3,e4⟩:=List.filter_eq_cons_iff.1 hR
       obtain ⟨oi,m,q1,q2,q3,q4⟩:=hspec b1 i b2 e1
       have:i ∈ Region.ready .any ops listed:=by
         rw[mem_ready]
         refine ⟨by simpa using e3,oi,q1,fun e he hb=>?_⟩
         rcases q3 e (by simpa using he) hb with q | ⟨me,q⟩
         · have h1:=e2 e.on q
           obtain ⟨c1,c2,hc⟩:=List.append_of_mem q
           obtain ⟨oe,me,qe,_⟩:=hspec c1 e.on (c2 ++ i::b2) (by rw[e1,hc];simp)
           have hlt:e.on < listed.size:=by rw[hs];exact (Array.getElem?_eq_some_iff.1 qe).1
           rw[←hgetD listed _ hlt]
           simpa using h1
         · cases q
       rw[hr] at this;cases this
   · obtain ⟨hlt,hun,oi,hoi,hfree⟩:=hready listed i hs hi
     have hmem:i ∈ (da.ord.filter fun j=> !listed.getD j true):=List.mem_filter.2 ⟨hin i hlt,by simp[hun]⟩
     obtain ⟨l1,l2,hR⟩:=List.append_of_mem hmem
     obtain ⟨a1,b1',ho1,hf1,hf2⟩:=List.filter_eq_append_iff.1 hR
     obtain ⟨b1,b2,hb,hb1,hui,hb2⟩:=List.filter_eq_cons_iff.1 hf2
     have hord:da.ord=(a1 ++ b1) ++ i::b2:=by rw[ho1,hb];simp
     obtain ⟨oi',m,q1,q2,q3,q4⟩:=hspec _ i b2 hord
     rw[hoi] at q1;injection q1 with q1;subst q1
     have hcompat:∀y ∈ l1,∀oy,ops[y]? =some oy→s_4 P an ops da y oy i oi=true:=by
       intro y hy oy hoy
       rw[←hf1] at hy
       obtain ⟨hya,hyu⟩:=List.mem_filter.1 hy
       rcases (q4 y (.inl (by simp[hya]))).2 with h1 | ⟨oy',h1,h2⟩
       · exfalso
         have h2:=q2 listed hdc hfree y h1
         have hylt:y < listed.size:=by rw[hs];exact (Array.getElem?_eq_some_iff.1 hoy).1
         rw[←hgetD listed y hylt] at h2
         rw[h2] at hyu;cases hyu
       · rw[hoy] at h1;injection h1 with h1;subst h1;exact h2
     have hnot1:∀z ∈ a1 ++ b1,z≠i:=fun z hz=>(q4 z (.inl hz)).1
     have hnot2:∀z ∈ b2,z≠i:=by
       intro z hz
       obtain ⟨c1,c2,hc⟩:=List.append_of_mem hz
       obtain ⟨oz,mz,_,_,_,qz⟩:=hspec ((a1 ++ b1) ++ i::c1) z c2 (by rw[hord,hc];simp)
       exact fun he=>(qz i (.inl (by simp))).1 he.symm
     have hset:∀j,j≠i→(listed.setIfInBounds i true).getD j true=listed.getD j true:=fun j hj=>getD_set_ne true (Ne.symm hj)
     have hseti:(listed.setIfInBounds i true).getD i true=true:=by simp[hs,hlt]
     have hR':(da.ord.filter fun j=> !(listed.setIfInBounds i true).getD j true) =l1 ++ l2:=by
       have hsame:∀l:List Nat,(∀z ∈ l,z≠i)→(l.filter fun j=> !(listed.setIfInBounds i true).getD j true) =l.filter fun j=> !listed.getD j true:=by
         intro l hl
         refine List.filter_congr fun z hz=>?_
         rw[hset z (hl z hz)]
       have e1:(b1.filter fun j=> !listed.getD j true) =[]:=List.filter_eq_nil_iff.2 fun z hz=>hb1 z hz
       rw[hord,List.filter_append,List.filter_cons,hseti]
       simp only[Bool.not_true,Bool.false_eq_true,if_false]
       rw[hsame _ hnot1,hsame _ hnot2,hb2,List.filter_append,hf1,e1,List.append_nil]
     obtain ⟨env,σ,hK,⟨hr,hnd⟩,hfs⟩:=hp
     rw[hR] at hK
     have hg:=a_ej (fun c f h1 h2=>hsp i oi c f hoi h1 h2) (pull hsl hoi l1 hr.2.choose_spec.choose_spec.choose_spec.srel.fin hnd hcompat hK)
     have hoim:oi ∈ ops.toList:=by rw[←Array.getElem?_toList] at hoi;exact List.mem_of_getElem? hoi
     have hdc':DC ops (listed.setIfInBounds i true):=by
       intro j oj hj hjl e he hbd
       by_cases hji:j=i
       · subst hji
         rw[hoi] at hj;injection hj with hj;subst hj
         exact getD_set_true (hfree e he hbd)
       · have:listed.getD j false=true:=by rw[←getD_set_ne false (Ne.symm hji)];exact hjl
         exact getD_set_true (hdc j oj hj this e he hbd)
     have hlen':(da.ord.filter fun j=> !(listed.setIfInBounds i true).getD j true).length≤fuel:=by
       rw[hR']
       rw[hR] at hl
       simp only[List.length_append,List.length_cons] at hl ⊢
       omega
     have next:∀a' W',Post df P k0 β0 σ0 W0 n S env0 (m_c P an ops da (l1 ++ l2) (Qx .normal)) a' W'→wpAny P .any ops (OutX df P k0 β0 σ0 W0 n S env0 Qx) fuel (listed.setIfInBounds i true) a' W':=
       fun a' W' h=>ih _ a' W' (by simp[hs]) hdc' hlen' (by rw[hR'];exact h)
     unfold wpOp
     rw[hoi]
     simp only
     rcases a_j2 (Q:=OutX df P k0 β0 σ0 W0 n S env0 Qx) ops an S hall env0 hoim hr hnd hfs hg with ⟨h1,h2⟩ | ⟨h1,h2⟩
     · rw[if_pos h1]
       exact .inl (Oper.wp_mono next h2)
     · rw[if_neg h1]
       exact next _ _ h2
end
/-! ### a region that is taken apart by the order of two operations -/
section
variable {P:Program} {ops:Array Oper} {Q:Exit→Act→World→Prop}
def h_v (ops:Array Oper) :Array Bool→List Nat→Prop
 | listed,[]=>Region.ready .any ops listed=[]
 | listed,i::r=>i ∈ Region.ready .any ops listed∧h_v ops (listed.setIfInBounds i true) r
theorem x_6:∀(L:List Nat) (fuel:Nat) (listed:Array Bool) (a:Act) (w:World),wpAny P .any ops Q fuel listed a w→h_v ops listed L→wpOps P ops Q L a w
 | [],0,listed,a,w,h,hv=>h.2
 | [],fuel+1,listed,a,w,h,hv=>h.1 hv
 | i::r,0,listed,a,w,h,hv=>by
   have:=hv.1
   rw[h.1] at this;cases this
 | i::r,fuel+1,listed,a,w,h,hv=>by
   rw[wpOps_cons]
   exact wpOp_mono (fun a w hk=>x_6 r fuel _ a w hk hv.2) (h.2 i hv.1)
def unl (listed:Array Bool)(j:Nat) :Bool:= !listed.getD j true
theorem a_n8 {listed:Array Bool}{i:Nat}(h:listed.getD i true=false){n:Nat}(hi:i < n) :(List.range n).countP (unl (listed.setIfInBounds i true)) < (List.range n).countP (unl listed):=by
 obtain ⟨a,b,hab⟩:=List.append_of_mem (List.mem_range.2 hi)
 have hlt:i < listed.size:=by
   by_cases hs:i < listed.size
   · exact hs
   · simp[hs] at h
 have himp:∀x,unl (listed.setIfInBounds i true) x=true→unl listed x=true:=by
   intro x hx
   unfold unl at hx ⊢
   by_cases hxi:x=i
   · subst hxi;simp[hlt] at hx
   · rwa [getD_set_ne true (Ne.symm hxi)] at hx
 have hti:unl listed i=true:=by unfold unl;rw[h];rfl
 have hfi:unl (listed.setIfInBounds i true) i=false:=by unfold unl;simp[hlt]
 rw[hab,List.countP_append,List.countP_append,List.countP_cons_of_pos hti,List.countP_cons_of_neg (by rw[hfi];simp)]
 have h1:a.countP (unl (listed.setIfInBounds i true))≤a.countP (unl listed):=List.countP_mono_left fun x _=>himp x
 have h2:b.countP (unl (listed.setIfInBounds i true))≤b.countP (unl listed):=List.countP_mono_left fun x _=>himp x
 omega
theorem a_ah:∀(fuel t:Nat) (listed:Array Bool),(List.range ops.size).countP (unl listed)≤fuel→h_v ops listed (Region.linearise.go .any ops fuel t listed []):=by
 intro fuel
 induction fuel with
 | zero=>
   intro t listed hc
   show Region.ready .any ops listed=[]
   cases hr:Region.ready .any ops listed with
   | nil=>rfl
   | cons i r=>
     exfalso
     have hi:i ∈ Region.ready .any ops listed:=by rw[hr];simp
     rw[mem_ready] at hi
     obtain ⟨h1,o,h2,_⟩:=hi
     have hlt:i < ops.size:=(Array.getElem?_eq_some_iff.1 h2).1
     have:0 < (List.range ops.size).countP (unl listed):=List.countP_pos_iff.2 ⟨i,List.mem_range.2 hlt,by unfold unl;rw[h1];rfl⟩
     omega
 | succ fuel ih=>
   intro t listed hc
   simp only[Region.linearise.go]
   change h_v ops listed (match (Region.ready .any ops listed)[t % (Region.ready .any ops listed).length]? with
     | some i=>Region.linearise.go .any ops fuel (t / (Region.ready .any ops listed).length) (listed.setIfInBounds i true) [i]
     | none=> [].reverse)
   cases hi:(Region.ready .any ops listed)[t % (Region.ready .any ops listed).length]? with
   | none=>
     show Region.ready .any ops listed=[]
     cases hr:Region.ready .any ops listed with
     | nil=>rfl
     | cons x xs=>
       rw[hr] at hi
       have hlt:t % (x::xs).length < (x::xs).length:=Nat.mod_lt _ (by simp)
       simp at hi
       simp at hlt
       omega
   | some i=>
     simp only[]
     rw[linearise_go_acc,List.reverse_singleton,List.singleton_append]
     have hm:=List.mem_of_getElem? hi
     refine ⟨hm,ih _ _ ?_⟩
     rw[mem_ready] at hm
     obtain ⟨h1,o,h2,_⟩:=hm
     have:=a_n8 h1 (n:=ops.size) (Array.getElem?_eq_some_iff.1 h2).1
     omega
theorem a_dg {id:Nat}{a:Act}{w:World}(hm:P.follows .mixedOrders=true)
   (h:∀L,h_v ops (Array.replicate ops.size false) L→wpOps P ops Q L a { w with drawn:=w.drawn+1 }) :(Code.region id ops true).wp P Q a w:=
 wp_region_draw fun t=>by
   simp only[Region.schedule,hm,Bool.true_or,if_true]
   refine h _ (a_ah _ _ _ ?_)
   exact Nat.le_trans List.countP_le_length (by simp)
def addE (i:Nat)(o:Oper) :Oper:= { o with after:=(o.after.toList ++ [Edge.mk i .data]).toArray }
theorem w_g (i:Nat) :∀(j:Nat) (l:List Oper) (m:Nat),(h_t i j l)[m]? =(l[m]?).map fun o=>if m=j then addE i o else o
 | j,[],m=>by cases j <;> simp[h_t]
 | 0,o::r,0=>by simp[h_t,addE]
 | 0,o::r,m+1=>by simp[h_t]
 | j+1,o::r,0=>by simp[h_t]
 | j+1,o::r,m+1=>by simp[h_t,w_g i j r m]
theorem t_o (i j m:Nat) :(a_7 ops i j)[m]? =(ops[m]?).map fun o=>if m=j then addE i o else o:=by
 unfold a_7
 rw[List.getElem?_toArray,w_g,Array.getElem?_toList]
theorem x_m (i:Nat) :∀(j:Nat) (l:List Oper),(h_t i j l).length=l.length
 | j,[]=>by cases j <;> simp[h_t]
 | 0,o::r=>by simp[h_t]
 | j+1,o::r=>by simp[h_t,x_m i j r]
theorem a_hr (i j:Nat) :(a_7 ops i j).size=ops.size:=by unfold a_7;simp[x_m]
theorem a_g7 (i j:Nat)(tmps:Array Value) :yielded (a_7 ops i j) tmps=yielded ops tmps:=by
 funext m
 unfold yielded
 rw[t_o]
 cases ops[m]? with
 | none=>rfl
 | some o=>
   have e:(if m=j then addE i o else o).dst=o.dst:=by split <;> rfl
   simp only[Option.map_some,Option.bind_some,e]
theorem x_s (i j:Nat) :∀(L:List Nat) (a:Act) (w:World),wpOps P (a_7 ops i j) Q L a w→wpOps P ops Q L a w
 | [],a,w,h=>h
 | m::r,a,w,h=>by
   unfold wpOps at h ⊢
   rw[t_o,a_g7] at h
   cases ho:ops[m]? with
   | none=>rw[ho] at h;exact x_s i j r a w h
   | some o=>
     rw[ho] at h
     simp only[Option.map_some] at h ⊢
     have hk : ∀ o' : Oper, (o' = o ∨ o' = addE i o) → (if Region.wanted o' (yielded ops a.tmps) = true then o'.wp P a w (wpOps P (a_7 ops i j) Q r) Q ∨ (o'.asks P a w ∧ LetsOut Q) else wpOps P (a_7 ops i j) Q r (a.put o'.dst undef) w) →
         (if Region.wanted o (yielded ops a.tmps) =true then o.wp P a w (wpOps P ops Q r) Q∨(o.asks P a w∧LetsOut Q) else wpOps P ops Q r (a.put o.dst undef) w):=by
       intro o' ho' h
       have h:(if Region.wanted o (yielded ops a.tmps) =true then o.wp P a w (wpOps P (a_7 ops i j) Q r) Q∨(o.asks P a w∧LetsOut Q) else wpOps P (a_7 ops i j) Q r (a.put o.dst undef) w):=by
         rcases ho' with e | e <;> rw[e] at h <;> exact h
       by_cases hw:Region.wanted o (yielded ops a.tmps) =true
       · rw[if_pos hw] at h ⊢
         exact h.imp (Oper.wp_mono fun a w=>x_s i j r a w) id
       · rw[if_neg hw] at h ⊢
         exact x_s i j r _ _ h
     exact hk _ (by split;exact .inr rfl;exact .inl rfl) h
theorem e_p {i j m:Nat}{listed:Array Bool}(hm:m≠j)(h:m ∈ Region.ready .any ops listed) :m ∈ Region.ready .any (a_7 ops i j) listed:=by
 rw[mem_ready] at h ⊢
 obtain ⟨h1,o,h2,h3⟩:=h
 refine ⟨h1,o,by rw[t_o,h2];simp[hm],h3⟩
theorem u_r {i j m:Nat}{listed:Array Bool}(h:m ∈ Region.ready .any (a_7 ops i j) listed) :m ∈ Region.ready .any ops listed:=by
 rw[mem_ready] at h ⊢
 obtain ⟨h1,o,h2,h3⟩:=h
 rw[t_o] at h2
 cases ho:ops[m]? with
 | none=>rw[ho] at h2;cases h2
 | some o'=>
   rw[ho] at h2
   simp only[Option.map_some,Option.some.injEq] at h2
   refine ⟨h1,o',rfl,fun e he hb=>h3 e ?_ hb⟩
   subst h2
   split
   · simp only[addE,List.mem_toArray,List.mem_append];exact .inl (by simpa using he)
   · exact he
theorem a_dw {i j:Nat}{listed:Array Bool}(hi:listed.getD i false=true)(h:j ∈ Region.ready .any ops listed) :j ∈ Region.ready .any (a_7 ops i j) listed:=by
 rw[mem_ready] at h ⊢
 obtain ⟨h1,o,h2,h3⟩:=h
 refine ⟨h1,addE i o,by rw[t_o,h2];simp,fun e he hb=>?_⟩
 simp only[addE,List.mem_toArray,List.mem_append,List.mem_singleton] at he
 rcases he with he | rfl
 · exact h3 e (by simpa using he) hb
 · exact hi
theorem x_5 {i j:Nat} :∀(L:List Nat) (listed:Array Bool),listed.getD i false=true→h_v ops listed L→h_v (a_7 ops i j) listed L
 | [],listed,hi,h=>by
   have h:Region.ready .any ops listed=[]:=h
   show Region.ready .any (a_7 ops i j) listed=[]
   cases hr:Region.ready .any (a_7 ops i j) listed with
   | nil=>rfl
   | cons m r=>
     have:=u_r (show m ∈ Region.ready .any (a_7 ops i j) listed by rw[hr];simp)
     rw[h] at this;cases this
 | m::r,listed,hi,h=>by
   refine ⟨?_,x_5 r _ (getD_set_true hi) h.2⟩
   by_cases hm:m=j
   · subst hm;exact a_dw hi h.1
   · exact e_p hm h.1
theorem u_3 {i j:Nat}(hij:i≠j) :∀(L:List Nat) (listed:Array Bool),h_v ops listed L→h_v (a_7 ops i j) listed L∨h_v (a_7 ops j i) listed L
 | [],listed,h=>by
   left
   have h:Region.ready .any ops listed=[]:=h
   show Region.ready .any (a_7 ops i j) listed=[]
   cases hr:Region.ready .any (a_7 ops i j) listed with
   | nil=>rfl
   | cons m r=>
     have:=u_r (show m ∈ Region.ready .any (a_7 ops i j) listed by rw[hr];simp)
     rw[h] at this;cases this
 | m::r,listed,h=>by
   have hm:=h.1
   have hset:(listed.setIfInBounds m true).getD m false=true:=by
     rw[mem_ready] at hm
     have h1:=hm.1
     by_cases hs:m < listed.size
     · simp[hs]
     · simp[hs] at h1
   by_cases h1:m=i
   · subst h1
     exact .inl ⟨e_p hij hm,x_5 r _ hset h.2⟩
   · by_cases h2:m=j
     · subst h2
       exact .inr ⟨e_p (Ne.symm hij) hm,x_5 r _ hset h.2⟩
     · rcases u_3 hij r _ h.2 with h3 | h3
       · exact .inl ⟨e_p h2 hm,h3⟩
       · exact .inr ⟨e_p h1 hm,h3⟩
theorem a_o4 {i j:Nat}{o':Oper}(h:o' ∈ (a_7 ops i j).toList) :∃o ∈ ops.toList,o.dst=o'.dst:=by
 obtain ⟨m,hm⟩:=List.mem_iff_getElem?.1 h
 rw[Array.getElem?_toList,t_o] at hm
 cases ho:ops[m]? with
 | none=>rw[ho] at hm;cases hm
 | some o=>
   rw[ho] at hm
   simp only[Option.map_some,Option.some.injEq] at hm
   refine ⟨o,by rw[←Array.getElem?_toList] at ho;exact List.mem_of_getElem? ho,?_⟩
   rw[←hm];split <;> rfl
end
end
section
section
variable {df:List Deferred} {P:Program} {k0:Nat→Prop} {β0:Bk} {σ0:Store} {W0:World} {n:Nat} {k:Nat→Prop} {β:Bk} {γ:Nat→Nat}
 {tmps:Array Value} {W W':World} {env:Env} {σ σ':Store} {a:Act} {o:Oper} {K:a_4}
abbrev Cl (an:Ann)(c:Code) :Nat→Prop:=fun s=>h_s an s c=false
theorem u_y {an:Ann}{id:Nat}{ops:Array Oper}{dr:Bool}{o:Oper}(ho:o ∈ ops.toList){d:Nat}(hd:o.dst=some d) :Cl an (.region id ops dr) d:=by
 unfold Cl h_s
 rw[Bool.not_eq_false']
 exact List.any_eq_true.2 ⟨o,ho,by rw[hd];exact Nat.beq_refl d⟩
theorem OutX.mono {S S':Nat→Prop}{env env':Env}{Q Q':Exit→a_4}{e:Exit}(h:OutX df P k0 β0 σ0 W0 n S env Q e a W)(hf:∀s,¬S' s→FrS env' env s)(hS:∀s,S s→S' s)
   (hq:∀env σ,Q e env σ→Q' e env σ) :OutX df P k0 β0 σ0 W0 n S' env' Q' e a W:=by
 obtain ⟨e1,σ1,h1,h2,h3⟩:=h
 exact ⟨e1,σ1,hq _ _ h1,h2,fun s hs=>(hf s hs).trans (h3 s (fun hc=>hs (hS s hc)))⟩
theorem a_ig {mods:List (Nat × SlotSh)}{keep:List Nat}{env0 env':Env}(h:∀s ∈ keep,get env' s=get env0 s) :∀s,WkE (get env' s) (get (m_e env0 keep Fw.env0) s):=by
 intro s
 rw[g_z]
 by_cases hs:s ∈ keep
 · rw[if_pos hs];exact .inr (.inl (h s hs))
 · rw[if_neg hs];exact .inl rfl
theorem h_d:∀(ss:List Sh) {R R':Type} {f:h_2 ss R} {g:h_2 ss R'} {ac:List D→List D} {K K':List D→R→R'→Prop},(∀ds f g,K ds f g→K' ds f g)→exL ss f g ac K→exL ss f g ac K'
 | [],_,_,f,g,ac,K,K',hk,h=>hk _ _ _ h
 | .int q::ss,_,_,f,g,ac,K,K',hk,⟨m,h⟩=>⟨m,h_d ss hk h⟩
 | .bool::ss,_,_,f,g,ac,K,K',hk,⟨m,h⟩=>⟨m,h_d ss hk h⟩
 | .str::ss,_,_,f,g,ac,K,K',hk,⟨m,h⟩=>⟨m,h_d ss hk h⟩
 | .any::ss,_,_,f,g,ac,K,K',hk,⟨m,h⟩=>⟨m,h_d ss hk h⟩
theorem i_s:∀(ms:List (Nat × SlotSh)) {R R':Type} {f:e_9 ms R} {g:e_9 ms R'} {ac:Env} {K K':Env→R→R'→Prop},(∀e i m,K e i m→K' e i m)→exM ms f g ac K→exM ms f g ac K'
 | [],_,_,f,g,ac,K,K',hk,h=>hk _ _ _ h
 | m::ms,_,_,f,g,ac,K,K',hk,h=>h_d _ (fun ds f g hh=>i_s ms hk hh) h
theorem n_d {Y:Type} :∀(ss:List Sh) {R R':Type} {f:h_2 ss R} {g:h_2 ss R'} {ac:List D→List D} {K:Y→List D→R→R'→Prop},exL ss f g ac (fun ds i m=>∃y,K y ds i m)→∃y,exL ss f g ac (K y)
 | [],_,_,f,g,ac,K,h=>h
 | .int q::ss,_,_,f,g,ac,K,⟨m,h⟩=>by obtain ⟨y,h⟩:=n_d ss h;exact ⟨y,m,h⟩
 | .bool::ss,_,_,f,g,ac,K,⟨m,h⟩=>by obtain ⟨y,h⟩:=n_d ss h;exact ⟨y,m,h⟩
 | .str::ss,_,_,f,g,ac,K,⟨m,h⟩=>by obtain ⟨y,h⟩:=n_d ss h;exact ⟨y,m,h⟩
 | .any::ss,_,_,f,g,ac,K,⟨m,h⟩=>by obtain ⟨y,h⟩:=n_d ss h;exact ⟨y,m,h⟩
theorem a_cz {Y:Type} :∀(ms:List (Nat × SlotSh)) {R R':Type} {f:e_9 ms R} {g:e_9 ms R'} {ac:Env} {K:Y→Env→R→R'→Prop},exM ms f g ac (fun e i m=>∃y,K y e i m)→∃y,exM ms f g ac (K y)
 | [],_,_,f,g,ac,K,h=>h
 | m::ms,_,_,f,g,ac,K,h=>by
   have h:exL (shL m.2) f g (fun r=>r) fun ds f' g'=>exM ms f' g' (a_t ac m.1 (w_1 m.2 ds)) (fun e i m=>∃y,K y e i m):=h
   have h2:=h_d _ (K':=fun ds f' g'=>∃y,exM ms f' g' (a_t ac m.1 (w_1 m.2 ds)) (K y)) (fun ds f g hh=>a_cz ms hh) h
   exact n_d _ h2
theorem a_fl {s:Nat} :∀(ms:List (Nat × SlotSh)) {R R':Type} {f:e_9 ms R} {g:e_9 ms R'} {acc:Env} {K:Env→R→R'→Prop},(∀m ∈ ms,m.1≠s)→exM ms f g acc K→
   exM ms f g acc fun e i m=>K e i m∧get e s=get acc s
 | [],_,_,f,g,acc,K,_,h=>⟨h,rfl⟩
 | m::ms,_,_,f,g,acc,K,hne,h=>by
   refine h_d _ (fun ds f' g' hh=>?_) h
   have:=a_fl ms (fun m' hm'=>hne m' (by simp[hm'])) hh
   refine i_s ms (fun e i mm hh=>?_) this
   rw[a_0 _ _ (fun e=>hne m (by simp) e.symm)] at hh
   exact hh
theorem s_1 {ms:List (Nat × SlotSh)}{R R':Type}{f:e_9 ms R}{g:e_9 ms R'}{acc:Env}{K:Env→R→R'→Prop}(h:exM ms f g acc K) :
   ∀(l:List Nat),(∀s ∈ l,∀m ∈ ms,m.1≠s)→exM ms f g acc fun e i m=>K e i m∧∀s ∈ l,get e s=get acc s
 | [],_=>i_s ms (fun e i m hh=>⟨hh,fun s hs=>by cases hs⟩) h
 | s::l,hl=>by
   have h1:=s_1 h l (fun s hs=>hl s (by simp[hs]))
   have h2:=a_fl (s:=s) ms (hl s (by simp)) h1
   refine i_s ms (fun e i m hh=>⟨hh.1.1,fun s' hs'=>?_⟩) h2
   rcases List.mem_cons.1 hs' with rfl | hs'
   · exact hh.2
   · exact hh.1.2 s' hs'
theorem g_q:∀(ss:List Sh) {R:Type} {ds:List D} {f:h_2 ss R} {p q:R→Prop},(∀r,p r→q r)→c_e ss ds f p→c_e ss ds f q
 | [],_,[],f,p,q,hk,h=>hk _ h
 | [],_,_::_,f,p,q,hk,h=>by simp[c_e] at h
 | .int q1::ss,_,ds,f,p,q,hk,h=>by
   cases ds with
   | nil=>simp[c_e] at h
   | cons d ds=>
     cases d <;> try (simp[c_e] at h;done)
     simp only[c_e] at h ⊢
     split at h
     · exact g_q ss hk h
     · exact h.elim
 | .bool::ss,_,ds,f,p,q,hk,h=>by
   cases ds with
   | nil=>simp[c_e] at h
   | cons d ds=>
     cases d <;> try (simp[c_e] at h;done)
     exact g_q ss hk h
 | .str::ss,_,ds,f,p,q,hk,h=>by
   cases ds with
   | nil=>simp[c_e] at h
   | cons d ds=>
     cases d <;> try (simp[c_e] at h;done)
     exact g_q ss hk h
 | .any::ss,_,ds,f,p,q,hk,h=>by
   cases ds with
   | nil=>simp[c_e] at h
   | cons d ds=>simp only[c_e] at h ⊢;exact g_q ss hk h
theorem i_x:∀(ss:List Sh) {R R':Type} {ds:List D} {f:h_2 ss R} (g:h_2 ss R') {p:R→Prop} {q:R'→Prop},(∀r,q r)→c_e ss ds f p→c_e ss ds g q
 | [],_,_,[],f,g,p,q,hk,h=>hk _
 | [],_,_,_::_,f,g,p,q,hk,h=>by simp[c_e] at h
 | .int q1::ss,_,_,ds,f,g,p,q,hk,h=>by
   cases ds with
   | nil=>simp[c_e] at h
   | cons d ds=>
     cases d <;> try (simp[c_e] at h;done)
     simp only[c_e] at h ⊢
     split at h
     · exact i_x ss _ hk h
     · exact h.elim
 | .bool::ss,_,_,ds,f,g,p,q,hk,h=>by
   cases ds with
   | nil=>simp[c_e] at h
   | cons d ds=>
     cases d <;> try (simp[c_e] at h;done)
     exact i_x ss (f:=f _) (g _) hk h
 | .str::ss,_,_,ds,f,g,p,q,hk,h=>by
   cases ds with
   | nil=>simp[c_e] at h
   | cons d ds=>
     cases d <;> try (simp[c_e] at h;done)
     exact i_x ss (f:=f _) (g _) hk h
 | .any::ss,_,_,ds,f,g,p,q,hk,h=>by
   cases ds with
   | nil=>simp[c_e] at h
   | cons d ds=>simp only[c_e] at h ⊢;exact i_x ss _ hk h
theorem t_1:∀(ms:List (Nat × SlotSh)) {R:Type} {env:Env} {f:e_9 ms R} {p q:R→Prop},(∀r,p r→q r)→l_h ms env f p→l_h ms env f q
 | [],_,env,f,p,q,hk,h=>hk _ h
 | m::ms,_,env,f,p,q,hk,h=>by
   simp only[l_h] at h ⊢
   split at h
   · exact g_q _ (fun r hr=>t_1 ms hk hr) h
   · exact h.elim
theorem g_y:∀(ss:List Sh) {R:Type} {ds:List D} {f:h_2 ss R} {X:Prop},c_e ss ds f (fun _=>X)→X
 | [],_,[],f,X,h=>h
 | [],_,_::_,f,X,h=>by simp[c_e] at h
 | .int q1::ss,_,ds,f,X,h=>by
   cases ds with
   | nil=>simp[c_e] at h
   | cons d ds=>
     cases d <;> try (simp[c_e] at h;done)
     simp only[c_e] at h
     split at h
     · exact g_y ss h
     · exact h.elim
 | .bool::ss,_,ds,f,X,h=>by
   cases ds with
   | nil=>simp[c_e] at h
   | cons d ds=>
     cases d <;> try (simp[c_e] at h;done)
     exact g_y ss (f:=f _) h
 | .str::ss,_,ds,f,X,h=>by
   cases ds with
   | nil=>simp[c_e] at h
   | cons d ds=>
     cases d <;> try (simp[c_e] at h;done)
     exact g_y ss (f:=f _) h
 | .any::ss,_,ds,f,X,h=>by
   cases ds with
   | nil=>simp[c_e] at h
   | cons d ds=>simp only[c_e] at h;exact g_y ss h
theorem x_f:∀(ms:List (Nat × SlotSh)) {R:Type} {env:Env} {f:e_9 ms R} {X:Prop},l_h ms env f (fun _=>X)→X
 | [],_,env,f,X,h=>h
 | m::ms,_,env,f,X,h=>by
   simp only[l_h] at h
   split at h
   · exact g_y _ (g_q _ (fun r hr=>x_f ms hr) h)
   · exact h.elim
theorem x_w:∀(ms:List (Nat × SlotSh)) {R R':Type} {env:Env} {f:e_9 ms R} (g:e_9 ms R') {p:R→Prop},l_h ms env f p→l_h ms env g (fun _=>True)
 | [],_,_,env,f,g,p,h=>trivial
 | m::ms,R,R',env,f,g,p,h=>by
   have h:(match t_z m.2 (get env m.1) with | some ds=>c_e (R:=e_9 ms R) (shL m.2) ds f fun g=>l_h ms env g p | none=>False):=h
   show (match t_z m.2 (get env m.1) with | some ds=>c_e (R:=e_9 ms R') (shL m.2) ds g fun g'=>l_h ms env g' (fun _=>True) | none=>False)
   cases hd:t_z m.2 (get env m.1) with
   | none=>rw[hd] at h;exact h.elim
   | some ds=>
     rw[hd] at h
     have key:∀(ss:List Sh) {R R':Type} {ds:List D} {f:h_2 ss R} {g:h_2 ss R'} {p:R→Prop} {q:R'→Prop},(∀r r',p r→q r')→c_e ss ds f p→c_e ss ds g q:=by
       intro ss R R' ds f g p q hk h
       by_cases hq:∀r,q r
       · exact i_x ss g hq h
       · -- p is empty then
         have hp:∀r,¬p r:=fun r hr=>hq (fun r'=>hk r r' hr)
         exact (g_y ss (g_q ss (q:=fun _=>False) (fun r hr=>hp r hr) h)).elim
     exact key _ (fun r r' hr=>x_w ms r' hr) h
def mkL:(ss:List Sh)→{R:Type}→(List D→List D)→(List D→R)→h_2 ss R
 | [],_,acc,F=>F (acc [])
 | .int q::ss,_,acc,F=>fun m=>mkL ss (fun r=>acc (.int q m::r)) F
 | .bool::ss,_,acc,F=>fun b=>mkL ss (fun r=>acc (.bool b::r)) F
 | .str::ss,_,acc,F=>fun s=>mkL ss (fun r=>acc (.str s::r)) F
 | .any::ss,_,acc,F=>fun d=>mkL ss (fun r=>acc (d::r)) F
def mkM:(ms:List (Nat × SlotSh))→{R:Type}→Env→(Env→R)→e_9 ms R
 | [],_,acc,F=>F acc
 | m::ms,_,acc,F=>mkL (shL m.2) (fun r=>r) fun ds=>mkM ms (a_t acc m.1 (w_1 m.2 ds)) F
theorem m_x:∀(ss:List Sh) {R:Type} (acc:List D→List D) (F:List D→R) (K:List D→R→R→Prop),(∀ds,K ds (F ds) (F ds))→allL ss (mkL ss acc F) (mkL ss acc F) acc K
 | [],_,acc,F,K,h=>h _
 | .int q::ss,_,acc,F,K,h=>fun m=>m_x ss _ F K h
 | .bool::ss,_,acc,F,K,h=>fun m=>m_x ss _ F K h
 | .str::ss,_,acc,F,K,h=>fun m=>m_x ss _ F K h
 | .any::ss,_,acc,F,K,h=>fun m=>m_x ss _ F K h
theorem a_e2:∀(ms:List (Nat × SlotSh)) {R:Type} (acc:Env) (F:Env→R) (K:Env→R→R→Prop),(∀e,K e (F e) (F e))→allM ms (mkM ms acc F) (mkM ms acc F) acc K
 | [],_,acc,F,K,h=>h _
 | m::ms,_,acc,F,K,h=>by
   simp only[allM,mkM]
   exact m_x _ _ _ _ fun ds=>a_e2 ms _ F K h
theorem r_h:∀(ss:List Sh) {R:Type} (acc:List D→List D) (F:List D→R) (K K':List D→R→R→Prop),exL ss (mkL ss acc F) (mkL ss acc F) acc K→∃ds,K ds (F ds) (F ds)
 | [],_,acc,F,K,_,h=>⟨_,h⟩
 | .int q::ss,_,acc,F,K,K',⟨m,h⟩=>r_h ss _ F K K' h
 | .bool::ss,_,acc,F,K,K',⟨m,h⟩=>r_h ss _ F K K' h
 | .str::ss,_,acc,F,K,K',⟨m,h⟩=>r_h ss _ F K K' h
 | .any::ss,_,acc,F,K,K',⟨m,h⟩=>r_h ss _ F K K' h
theorem a_ia:∀(ms:List (Nat × SlotSh)) {R:Type} (acc:Env) (F:Env→R) (K:Env→R→R→Prop),exM ms (mkM ms acc F) (mkM ms acc F) acc K→∃e,K e (F e) (F e)
 | [],_,acc,F,K,h=>⟨_,h⟩
 | m::ms,_,acc,F,K,h=>by
   simp only[exM,mkM] at h
   obtain ⟨ds,h⟩:=r_h _ _ _ _ (fun _ _ _=>True) h
   exact a_ia ms _ F K h
theorem m_9:∀(ss:List Sh) {R R':Type} {f:h_2 ss R} {g:h_2 ss R'} {ac:List D→List D} {K:List D→R→R'→Prop},exL ss f g ac K→∃ds i m,K ds i m
 | [],_,_,f,g,ac,K,h=>⟨_,_,_,h⟩
 | .int q::ss,_,_,f,g,ac,K,⟨m,h⟩=>m_9 ss h
 | .bool::ss,_,_,f,g,ac,K,⟨m,h⟩=>m_9 ss h
 | .str::ss,_,_,f,g,ac,K,⟨m,h⟩=>m_9 ss h
 | .any::ss,_,_,f,g,ac,K,⟨m,h⟩=>m_9 ss h
theorem a_c3:∀(ms:List (Nat × SlotSh)) {R R':Type} {f:e_9 ms R} {g:e_9 ms R'} {ac:Env} {K:Env→R→R'→Prop},exM ms f g ac K→∃e i m,K e i m
 | [],_,_,f,g,ac,K,h=>⟨_,_,_,h⟩
 | m::ms,_,_,f,g,ac,K,h=>by
   obtain ⟨ds,i,mm,h⟩:=m_9 _ h
   exact a_c3 ms h
theorem a_k3 (h:Rel df P k0 β0 σ0 W0 n a W env σ){c:Operand}{t:Bool}(hc:opE env c= .val (.one (.bool t))) :a.eval c= .bool t:=by
 obtain ⟨_,k,β,γ,hX⟩:=h
 have:=(a_o hX a rfl c 0).1
 rw[hc] at this;exact V.inv_bool this
theorem a_f1:∀(ms:List (Nat × SlotSh)) {R R':Type} {f:e_9 ms R} {g:e_9 ms R'} {acc:Env} {K:Env→R→R'→Prop},exM ms f g acc K→
   exM ms f g acc fun e i m=>K e i m∧∀s,get e s=get acc s∨∀d off,get e s≠ .bp d off
 | [],_,_,f,g,acc,K,h=>⟨h,fun s=> .inl rfl⟩
 | m::ms,_,_,f,g,acc,K,h=>by
   refine h_d _ (fun ds f' g' hh=>?_) h
   refine i_s ms (fun e i mm hh=>⟨hh.1,fun s=>?_⟩) (a_f1 ms hh)
   rcases hh.2 s with h1 | h1
   · by_cases hs:s=m.1
     · right
       subst hs
       rw[h1,b_f]
       intro d off hc
       unfold w_1 at hc
       split at hc <;> cases hc
     · left;rw[h1,a_0 _ _ hs]
   · exact .inr h1
theorem a_ij {keep:List Nat}{e:Env}(hr:a_bk env keep=true)(hk:∀s ∈ keep,get e s=get env s)(hb:∀s,get e s=get (m_e env keep env0) s∨∀d off,get e s≠ .bp d off) :ND e:=by
 intro s d off hg
 rcases hb s with h1 | h1
 · rw[h1,g_z] at hg
   by_cases hs:s ∈ keep
   · rw[if_pos hs] at hg
     unfold a_bk at hr
     have h2:=List.all_eq_true.1 hr s hs
     rw[hg] at h2
     simp only at h2
     split at h2
     · rename_i hany
       obtain ⟨x,hx,hxd⟩:=List.any_eq_true.1 hany
       have:=Nat.eq_of_beq_eq_true hxd
       subst this
       rw[hk _ hx];exact h2
     · cases h2
   · rw[if_neg hs] at hg;cases hg
 · exact absurd hg (h1 d off)
theorem a_ei {ops:Array Oper} :∀(l:List Nat) (k:(Nat→Option CSpec)→Prop),i_l P ops l k→
   ∃cs:Nat→Option CSpec,(∀i c,cs i=some c→f_9 c)∧(∀i o c f,ops[i]? =some o→cs i=some c→i_1 o.op=some f→∀as0 s,c.pre as0 s→DCalls P f as0 s (c.post as0 s))∧k cs
 | [],k,h=>⟨_,fun i c hc=>by (cases hc),fun i o c f _ hc=>by (cases hc),h⟩
 | j::r,k,h=>by
   unfold i_l at h
   cases hf:(ops[j]?).bind fun o=>i_1 o.op with
   | none=>rw[hf] at h;exact h.elim
   | some f0=>
     rw[hf] at h
     obtain ⟨pre,post,⟨g1,g2⟩,h⟩:=h
     obtain ⟨cs,h1,h2,h3⟩:=a_ei r _ h
     refine ⟨_,?_,?_,h3⟩
     · intro i c hc
       cases hb:Nat.beq i j with
       | true=>simp only[hb] at hc;injection hc with hc;rw[←hc];exact g2
       | false=>simp only[hb] at hc;exact h1 i c hc
     · intro i o c f ho hc hcf as0 s hp
       cases hb:Nat.beq i j with
       | true=>
         simp only[hb] at hc
         injection hc with hc
         have:=Nat.eq_of_beq_eq_true hb
         subst this
         rw[ho] at hf
         have hf:i_1 o.op=some f0:=hf
         rw[hcf] at hf;injection hf with hf
         subst hf hc
         exact g1 as0 s hp
       | false=>simp only[hb] at hc;exact h2 i o c f ho hc hcf as0 s hp
theorem w_9 (an:Ann)(ops:Array Oper)(da:DAnn)(cs:Nat→Option CSpec) :∀(l:List Nat) (acc:List (Nat × Nat)),j_w P an ops { ord:=da.ord,nb:=da.nb,av:=da.av,dir:=da.dir,sp:=da.sp,cs:=cs } l acc=j_w P an ops da l acc
 | [],acc=>rfl
 | x::r,acc=>by
   unfold j_w
   simp only[w_9 an ops da cs r]
   rfl
theorem a_er (an:Ann)(ops:Array Oper)(da:DAnn)(cs:Nat→Option CSpec) :e_q P an ops { ord:=da.ord,nb:=da.nb,av:=da.av,dir:=da.dir,sp:=da.sp,cs:=cs } =e_q P an ops da:=by
 unfold e_q
 rw[w_9]
theorem a_h5 (an:Ann)(S:Nat→Prop)(da:DAnn)(ops:Array Oper)(Qx:Exit→a_4)(a:Act)(W:World)(env:Env)(σ:Store)(hd:∀o ∈ ops.toList,∀d,o.dst=some d→d < n∧S d)
   (hr:Rel df P k0 β0 σ0 W0 n a W env σ) (hnd:ND env) (h:a_lx P an da ops (Qx .normal) env σ) :wpAny P .any ops (OutX df P k0 β0 σ0 W0 n S env Qx) ops.size (Array.replicate ops.size false) a { W with drawn:=W.drawn+1 } :=by
 have h:(match e_q P an ops da with | true=>fun env σ=>i_l P ops da.sp fun cs=>m_c P an ops { ord:=da.ord,nb:=da.nb,av:=da.av,dir:=da.dir,sp:=da.sp,cs:=cs } da.ord (Qx .normal) env σ | false=>fun _ _=>False) env σ:=h
 cases hrf:e_q P an ops da with
 | false=>rw[hrf] at h;exact h.elim
 | true=>
   rw[hrf] at h
   have h:i_l P ops da.sp fun cs=>m_c P an ops { ord:=da.ord,nb:=da.nb,av:=da.av,dir:=da.dir,sp:=da.sp,cs:=cs } da.ord (Qx .normal) env σ:=h
   obtain ⟨cs,hsl,hsp,h⟩:=a_ei _ _ h
   have hrf:e_q P an ops { ord:=da.ord,nb:=da.nb,av:=da.av,dir:=da.dir,sp:=da.sp,cs:=cs } =true:=(a_er an ops da cs).trans hrf
   have hsl:∀i c,({ ord:=da.ord,nb:=da.nb,av:=da.av,dir:=da.dir,sp:=da.sp,cs:=cs } :DAnn).cs i=some c→f_9 c:=hsl
   have hsp:∀i o c f,ops[i]? =some o→({ ord:=da.ord,nb:=da.nb,av:=da.av,dir:=da.dir,sp:=da.sp,cs:=cs } :DAnn).cs i=some c→i_1 o.op=some f→∀as0 s,c.pre as0 s→DCalls P f as0 s (c.post as0 s):=hsp
   revert h hrf hsl hsp
   generalize hda':({ ord:=da.ord,nb:=da.nb,av:=da.av,dir:=da.dir,sp:=da.sp,cs:=cs } :DAnn) =da'
   have hord:da.ord=da'.ord:=by rw[←hda']
   rw[hord]
   clear hda' hord
   intro h hrf hsl hsp
   have hg:∀j,(Array.replicate ops.size false).getD j false=false:=fun j=>by
     by_cases hj:j < ops.size <;> simp[hj]
   refine a_o7 (da:=da') hsl hsp hrf _ (fun o ho d hod=>hd o ho d hod) env ops.size _ a _ (by simp) (fun j oj _ hl=>by rw[hg] at hl;cases hl) ?_ ?_
   · unfold e_q at hrf
     simp only[Bool.and_eq_true] at hrf
     exact Nat.le_trans (List.length_filter_le _ _) (Nat.le_of_ble_eq_true hrf.1.1)
   · obtain ⟨hdef,k,β,γ,hX⟩:=hr
     refine ⟨env,σ,?_,⟨⟨hdef,k,β,γ,hX.grow (Grow.drew W)⟩,hnd⟩,fun s _=> .of_eq rfl⟩
     have hall:(da'.ord.filter fun j=> !(Array.replicate ops.size false).getD j true) =da'.ord:=by
       refine List.filter_eq_self.2 fun j hj=>?_
       have hgo:j_w P an ops da' da'.ord []=true:=by
         unfold e_q at hrf
         simp only[Bool.and_eq_true] at hrf
         exact hrf.2
       obtain ⟨c1,c2,hc⟩:=List.append_of_mem hj
       obtain ⟨oj,_,hoj,_⟩:=l_l hgo (fun p hp=>by cases hp) c1 j c2 hc
       have hlt:=(Array.getElem?_eq_some_iff.1 hoj).1
       simp[hlt]
     rw[hall];exact h
theorem a_bf (an:Ann)(S:Nat→Prop)(Qx:Exit→a_4)(a:Act)(W:World)(env:Env)(σ:Store)(hr:Rel df P k0 β0 σ0 W0 n a W env σ)(hnd:ND env) :
   ∀(t:DT) (ops:Array Oper),(∀o ∈ ops.toList,∀d,o.dst=some d→d < n∧S d)→z_x P an t ops (Qx .normal) env σ→
     ∀L,h_v ops (Array.replicate ops.size false) L→wpOps P ops (OutX df P k0 β0 σ0 W0 n S env Qx) L a { W with drawn:=W.drawn+1 }
 | .leaf da,ops,hd,h,L,hL=>x_6 L _ _ _ _ (a_h5 an S da ops Qx a W env σ hd hr hnd h) hL
 | .split i j x y,ops,hd,h,L,hL=>by
   have h:(match Nat.beq i j with
     | true=>fun _ _=>False
     | false=>fun env σ=>z_x P an x (a_7 ops i j) (Qx .normal) env σ∧z_x P an y (a_7 ops j i) (Qx .normal) env σ) env σ:=h
   cases hb:Nat.beq i j with
   | true=>rw[hb] at h;exact h.elim
   | false=>
     rw[hb] at h
     have hij:i≠j:=fun e=>by subst e;rw[Nat.beq_refl] at hb;cases hb
     have hdd:∀i j,∀o ∈ (a_7 ops i j).toList,∀d,o.dst=some d→d < n∧S d:=fun i j o ho d hod=>by
       obtain ⟨o',h1,h2⟩:=a_o4 ho
       exact hd o' h1 d (h2.trans hod)
     rcases u_3 hij L _ hL with hv | hv
     · exact x_s i j L _ _ (a_bf an S Qx a W env σ hr hnd x _ (hdd i j) h.1 L (by rw[a_hr];exact hv))
     · exact x_s j i L _ _ (a_bf an S Qx a W env σ hr hnd y _ (hdd j i) h.2 L (by rw[a_hr];exact hv))
structure WL (P:Program) (wp:Code→(Exit→Act→World→Prop)→Act→World→Prop) :Prop where
 mono:∀{c:Code} {Q Q':Exit→Act→World→Prop} {a:Act} {w:World},(∀e a w,Q e a w→Q' e a w)→wp c Q a w→wp c Q' a w
 skip:∀{Q:Exit→Act→World→Prop} {a:Act} {w:World},Q .normal a w→wp .skip Q a w
 label:∀{l:Nat} {Q:Exit→Act→World→Prop} {a:Act} {w:World},Q .normal a w→wp (.label l) Q a w
 exit:∀{id:Nat} {Q:Exit→Act→World→Prop} {a:Act} {w:World},Q (.exit id) a w→wp (.exit id) Q a w
 ret:∀{Q:Exit→Act→World→Prop} {a:Act} {w:World},Q .ret a w→wp .ret Q a w
 condT:∀{c:Operand} {x y:Code} {Q:Exit→Act→World→Prop} {a:Act} {w:World},a.eval c= .bool true→wp x Q a w→wp (.cond c x y) Q a w
 condF:∀{c:Operand} {x y:Code} {Q:Exit→Act→World→Prop} {a:Act} {w:World},a.eval c= .bool false→wp y Q a w→wp (.cond c x y) Q a w
 block:∀{id:Nat} {c:Code} {Q:Exit→Act→World→Prop} {a:Act} {w:World},wp c (Exit.inBlock id Q) a w→wp (.block id c) Q a w
 seq:∀{x y:Code} {Q:Exit→Act→World→Prop} {a:Act} {w:World},wp x (Exit.then (fun a w=>wp y Q a w) Q) a w→wp (.seq x y) Q a w
 loop:∀{c:Code} {Q:Exit→Act→World→Prop} {a:Act} {w:World} (I:Nat→Act→World→Prop) (n₀:Nat),I n₀ a w→
   (∀n a w,I n a w→wp c (Exit.then (fun a' w'=>∃n',n' < n∧I n' a' w') Q) a w)→wp (.loop c) Q a w
 region:∀{id:Nat} {ops:Array Oper} {Q:Exit→Act→World→Prop} {a:Act} {w:World},wpList P ops Q ops.toList a w→wp (.region id ops false) Q a w
 draw:∀{id:Nat} {ops:Array Oper} {Q:Exit→Act→World→Prop} {a:Act} {w:World},
   (∀L,h_v ops (Array.replicate ops.size false) L→wpOps P ops Q L a { w with drawn:=w.drawn+1 })→wp (.region id ops true) Q a w
theorem a_nq (hm:P.follows .mixedOrders=true) :WL P fun c Q a w=>c.wp P Q a w where
 mono h h2:=Code.wp_mono h h2
 skip:=wp_skip
 label:=wp_label
 exit:=wp_exit
 ret:=wp_ret
 condT:=wp_cond_true
 condF:=wp_cond_false
 block:=wp_block
 seq:=wp_seq
 loop:=wp_loop_ghost
 region:=wp_region_list
 draw:=a_dg hm
theorem a_np {wp:Code→(Exit→Act→World→Prop)→Act→World→Prop}(hw:WL P wp)(an:Ann)(id:Nat)(ops:Array Oper)(Qx:Exit→a_4)(a:Act)(W:World)(env:Env)(σ:Store)(hd:∀o ∈ ops.toList,∀d,o.dst=some d→d < n)
   (hr:Rel df P k0 β0 σ0 W0 n a W env σ) (hnd:ND env) (h:a_li P an id ops (Qx .normal) env σ) :wp (Code.region id ops true) (OutX df P k0 β0 σ0 W0 n (Cl an (.region id ops true)) env Qx) a W:=by
 have hall:∀o ∈ ops.toList,∀d,o.dst=some d→d < n∧Cl an (.region id ops true) d:=fun o ho d hod=>⟨hd o ho d hod,u_y ho hod⟩
 unfold a_li at h
 cases ht:a_ka id an.splits with
 | some t=>
   rw[ht] at h
   exact hw.draw fun L hL=>a_bf an _ Qx a W env σ hr hnd t ops hall h L hL
 | none=>
   rw[ht] at h
   cases hda:a_kr id an.draws with
   | none=>simp only[hda] at h
   | some da=>
     simp only[hda] at h
     exact hw.draw fun L hL=>x_6 L _ _ _ _ (a_h5 an _ da ops Qx a W env σ hall hr hnd h) hL
theorem i_a {wp:Code→(Exit→Act→World→Prop)→Act→World→Prop}(hw:WL P wp)(an:Ann) :
   ∀(c:Code) (Qx:Exit→a_4) (a:Act) (W:World) (env:Env) (σ:Store),(∀d ∈ e_8 c,d < n)→Rel df P k0 β0 σ0 W0 n a W env σ∧ND env→dwp P an c Qx env σ→
     wp c (OutX df P k0 β0 σ0 W0 n (Cl an c) env Qx) a W
 | .skip,Qx,a,W,env,σ,_,hr,h=>hw.skip ⟨env,σ,h,hr,fun s _=> .of_eq rfl⟩
 | .label l,Qx,a,W,env,σ,_,hr,h=>hw.label ⟨env,σ,h,hr,fun s _=> .of_eq rfl⟩
 | .exit id,Qx,a,W,env,σ,_,hr,h=>hw.exit ⟨env,σ,h,hr,fun s _=> .of_eq rfl⟩
 | .ret,Qx,a,W,env,σ,_,hr,h=>hw.ret ⟨env,σ,h,hr,fun s _=> .of_eq rfl⟩
 | .region id ops false,Qx,a,W,env,σ,hd,hr,h=>by
   refine hw.region (a_ca ops an (Cl an (.region id ops false)) (fun o ho d hod=>⟨?_,u_y ho hod⟩) env ops.toList a W (fun o ho=>ho) ⟨env,σ,h,hr,fun s _=> .of_eq rfl⟩)
   exact hd d (by simp only[e_8,List.mem_filterMap];exact ⟨o,ho,hod⟩)
 | .region id ops true,Qx,a,W,env,σ,hd,hr,h=>
   a_np hw an id ops Qx a W env σ (fun o ho d hod=>hd d (by simp only[e_8,List.mem_filterMap];exact ⟨o,ho,hod⟩)) hr.1 hr.2 h
 | .cond c x y,Qx,a,W,env,σ,hd,hr,h=>by
   have hx:=fun Q a W env σ=>i_a hw an x Q a W env σ (fun d hd'=>hd d (by simp[e_8,hd']))
   have hy:=fun Q a W env σ=>i_a hw an y Q a W env σ (fun d hd'=>hd d (by simp[e_8,hd']))
   have h:a_mp (opE env c) (dwp P an x Qx env σ) (dwp P an y Qx env σ):=h
   have sx:∀s,Cl an x s→Cl an (.cond c x y) s:=by intro s hs;unfold Cl h_s;rw[hs]
   have sy:∀s,Cl an y s→Cl an (.cond c x y) s:=by intro s hs;unfold Cl h_s;rw[hs];split <;> rfl
   have go:∀t:Bool,a.eval c= .bool t→(t=true→dwp P an x Qx env σ)→(t=false→dwp P an y Qx env σ)→wp (Code.cond c x y) (OutX df P k0 β0 σ0 W0 n (Cl an (.cond c x y)) env Qx) a W:=by
     intro t ht h1 h2
     cases t with
     | true=>exact hw.condT ht (hw.mono (fun e a W q=>q.mono (fun _ _=> .of_eq rfl) sx (fun _ _ h=>h)) (hx Qx a W env σ hr (h1 rfl)))
     | false=>exact hw.condF ht (hw.mono (fun e a W q=>q.mono (fun _ _=> .of_eq rfl) sy (fun _ _ h=>h)) (hy Qx a W env σ hr (h2 rfl)))
   unfold a_mp at h
   split at h
   · rename_i t hc
     exact go t (a_k3 hr.1 hc) (fun e=>by subst e;exact h) (fun e=>by subst e;exact h)
   · exact h.elim
 | .block id c,Qx,a,W,env,σ,hd,hr,h=>by
   have hc:=i_a hw an c (i_t id Qx) a W env σ hd hr h
   refine hw.block (hw.mono (fun e a W q=>?_) hc)
   obtain ⟨env',σ',q1,q2,q3⟩:=q
   cases e with
   | exit id'=>
     simp only[Exit.inBlock]
     simp only[i_t] at q1
     by_cases he:id'=id
     · rw[if_pos he]
       simp only[he,decide_true] at q1
       exact ⟨env',σ',q1,q2,q3⟩
     · rw[if_neg he]
       simp only[he,decide_false] at q1
       exact ⟨env',σ',q1,q2,q3⟩
   | _=>exact ⟨env',σ',q1,q2,q3⟩
 | .seq x y,Qx,a,W,env,σ,hd,hr,h=>by
   have hx:=fun Q a W env σ=>i_a hw an x Q a W env σ (fun d hd'=>hd d (by simp[e_8,hd']))
   have hy:=fun Q a W env σ=>i_a hw an y Q a W env σ (fun d hd'=>hd d (by simp[e_8,hd']))
   have sx:∀s,Cl an x s→Cl an (.seq x y) s:=by intro s hs;simp only[Cl,h_s,hs]
   have sy:∀s,Cl an y s→Cl an (.seq x y) s:=by intro s hs;simp only[Cl,h_s,hs];cases h_s an s x <;> rfl
   cases hj:l_x (e_6 y) an.joins with
   | some j=>
     have h:a_kl j (fun s=>h_s an s x) (dwp P an x) (dwp P an y Qx) Qx env σ:=by simpa only[dwp,hj] using h
     unfold a_kl at h
     split at h
     · rename_i hok hrefs
       have h:=h (mkM j.mods (m_e env j.keep env0) (fun e σ=>dwp P an y Qx e σ)) (by
         rw[t_8]
         exact a_e2 _ _ _ _ fun e σ' hh=>hh)
       refine hw.seq (hw.mono (fun e a1 W1 q=>?_) (hx _ a W env σ hr h))
       obtain ⟨env1,σ1,q1,q2,q3⟩:=q
       cases e with
       | normal=>
         simp only[m_d] at q1
         obtain ⟨q1,q4⟩:=u_x q1 (fun s hs=>q3 s (by rw[show Cl an x s=(h_s an s x=false) from rfl,(j_v hok hs).1];simp))
         have hex:=x_v j.mods env1 _ _ (m_e env j.keep env0) _ _ (fun e' r r'=>r σ1∧(∀s,WkE (get env1 s) (get e' s))) q1 q1 (a_ig (mods:=j.mods) q4) (fun e' f' g' hw h1 _=>⟨h1,hw⟩)
         obtain ⟨e',⟨⟨h1,h2⟩,h4⟩,h3⟩:=a_ia _ _ _ _ (s_1 (a_f1 _ hex) j.keep (fun s hs=>(j_v hok hs).2))
         have hnd:ND e':=a_ij hrefs (fun s hs=>by rw[h3 s hs,g_z,if_pos hs]) h4
         refine hw.mono (fun e a2 W2 q=>q.mono (fun s hs=>?_) sy (fun _ _ h=>h)) (hy Qx a1 W1 e' σ1 ⟨q2.1.weaken h2,hnd⟩ h1)
         have hsk:s ∈ j.keep:=by
           have hs:h_s an s (.seq x y) =true:=by simpa using hs
           simp only[h_s,hj] at hs
           split at hs
           · rename_i j' _ _ hj'
             injection hj' with hj';subst hj'
             obtain ⟨d,hd,hb⟩:=List.any_eq_true.1 hs
             rw[←Nat.eq_of_beq_eq_true hb];exact hd
           · rename_i hj';cases hj'
           · cases hs
         refine .of_eq ?_
         rw[h3 s hsk,g_z,if_pos hsk]
       | _=>exact ⟨env1,σ1,q1,q2,fun s hs=>q3 s (fun hc=>hs (sx s hc))⟩
     · exact h.elim
   | none=>
     have h:dwp P an x (m_d (dwp P an y Qx) Qx) env σ:=by simpa only[dwp,hj] using h
     refine hw.seq (hw.mono (fun e a1 W1 q=>?_) (hx _ a W env σ hr h))
     obtain ⟨env1,σ1,q1,q2,q3⟩:=q
     cases e with
     | normal=>
       refine hw.mono (fun e a2 W2 q=>q.mono (fun s hs=>q3 s (fun hc=>hs (sx s hc))) sy (fun _ _ h=>h)) (hy Qx a1 W1 env1 σ1 q2 q1)
     | _=>exact ⟨env1,σ1,q1,q2,fun s hs=>q3 s (fun hc=>hs (sx s hc))⟩
 | .loop c,Qx,a,W,env,σ,hd,hr,h=>by
   have hc:=fun Q a W env σ=>i_a hw an c Q a W env σ hd
   cases hl:l_x (e_6 c) an.loops with
   | none=>
     exfalso
     simp only[dwp,hl] at h
   | some l=>
     have sx:∀s,Cl an c s→Cl an (.loop c) s:=by intro s hs;simp only[Cl,h_s,hs]
     have hcase:l.un=0∨∃m0,l.un=m0+1:=by cases l.un;exact .inl rfl;exact .inr ⟨_,rfl⟩
     rcases hcase with hun | ⟨m0,hun⟩
     rotate_left
     · skip
       have h:v_0 (dwp P an c) Qx (m0+1) env σ:=by simpa only[dwp,hl,hun] using h
       let J:Nat→Act→World→Prop:=fun m a1 W1=>∃env1 σ1,Rel df P k0 β0 σ0 W0 n a1 W1 env1 σ1∧ND env1∧v_0 (dwp P an c) Qx m env1 σ1∧∀s,¬Cl an (.loop c) s→FrS env env1 s
       refine hw.loop J (m0+1) ⟨env,σ,hr.1,hr.2,h,fun s _=> .of_eq rfl⟩ fun m a1 W1 hJ=>?_
       obtain ⟨env1,σ1,r1,r2,h1,h2⟩:=hJ
       cases m with
       | zero=>exact h1.elim
       | succ m=>
       refine hw.mono (fun e a2 W2 q=>?_) (hc _ a1 W1 env1 σ1 ⟨r1,r2⟩ h1)
       obtain ⟨env2,σ2,q1,q2,q3⟩:=q
       have fr:∀s,¬Cl an (.loop c) s→FrS env env2 s:=fun s hs=>(h2 s hs).trans (q3 s (fun hc=>hs (sx s hc)))
       cases e with
       | normal=>
         simp only[m_d] at q1
         exact ⟨m,by omega,env2,σ2,q2.1,q2.2,q1,fr⟩
       | _=>exact ⟨env2,σ2,q1,q2,fr⟩
     have h:a_lv l (fun s=>h_s an s c) (dwp P an c) Qx env σ:=by simpa only[dwp,hl,hun] using h
     unfold a_lv at h
     split at h
     · rename_i hok hrefs
       obtain ⟨I,μ,h0,hround⟩:=h
       rw[t_8] at hround
       have hne:∀s ∈ l.keep,∀m ∈ l.mods,m.1≠s:=fun s hs=>(j_v hok hs).2
       let J:Nat→Act→World→Prop:=fun m a W=>exM l.mods I μ (m_e env l.keep env0) fun e i mm=>
         (∃σ',i σ'∧mm σ'=m∧Rel df P k0 β0 σ0 W0 n a W e σ'∧ND e)∧∀s ∈ l.keep,get e s=get env s
       have arrive : ∀ (env1 : Env) (σ1 : Store) (a1 : Act) (W1 : World) (q : (Store → Nat) → Prop), Rel df P k0 β0 σ0 W0 n a1 W1 env1 σ1 → (∀ s ∈ l.keep, get env1 s = get env s) →
           l_h l.mods env1 I (fun i=>i σ1)→l_h l.mods env1 μ q→∃m,J m a1 W1∧∃mm:Store→Nat,q mm∧mm σ1=m:=by
         intro env1 σ1 a1 W1 q hr1 hk1 h1 h2
         have hex:=x_v l.mods env1 I μ (m_e env l.keep env0) _ _ (fun e' i mm=>i σ1∧q mm∧(∀s,WkE (get env1 s) (get e' s))) h1 h2 (a_ig (mods:=l.mods) hk1) (fun e' f' g' hw h1 h2=>⟨h1,h2,hw⟩)
         have hex2:=i_s l.mods (K':=fun e i mm=>∃m,((∃σ',i σ'∧mm σ'=m∧Rel df P k0 β0 σ0 W0 n a1 W1 e σ'∧ND e)∧∀s ∈ l.keep,get e s=get env s)∧∃mm:Store→Nat,q mm∧mm σ1=m)
           (fun e i mm hh=>⟨mm σ1,⟨⟨σ1,hh.1.1.1,rfl,hr1.weaken hh.1.1.2.2,a_ij hrefs (fun s hs=>by rw[hh.2 s hs,g_z,if_pos hs]) hh.1.2⟩,fun s hs=>by rw[hh.2 s hs,g_z,if_pos hs]⟩,mm,hh.1.1.2.1,rfl⟩) (s_1 (a_f1 _ hex) l.keep hne)
         obtain ⟨m,hm⟩:=a_cz l.mods hex2
         refine ⟨m,i_s l.mods (fun e i mm hh=>hh.1) hm,?_⟩
         obtain ⟨_,_,_,hh⟩:=a_c3 l.mods hm
         exact hh.2
       obtain ⟨m0,hJ0,_⟩:=arrive env σ a W (fun _=>True) hr.1 (fun s hs=>rfl) h0 (x_w l.mods μ h0)
       have sx:∀s,Cl an c s→Cl an (.loop c) s:=by intro s hs;simp only[Cl,h_s,hs]
       refine hw.loop J m0 hJ0 fun m a1 W1 hJ=>?_
       obtain ⟨envH,i,mm,g1,⟨σ1,g2,g3,g4⟩,g5⟩:=a_fs l.mods I μ _ _ _ hround hJ
       refine hw.mono (fun e a2 W2 q=>?_) (hc _ a1 W1 envH σ1 g4 (g1 σ1 g2))
       obtain ⟨env2,σ2,q1,q2,q3⟩:=q
       cases e with
       | normal=>
         simp only[m_d] at q1
         obtain ⟨q1,q4⟩:=u_x q1 (fun s hs=>q3 s (by rw[show Cl an c s=(h_s an s c=false) from rfl,(j_v hok hs).1];simp))
         obtain ⟨m',hJ',mm',hlt,he⟩:=arrive env2 σ2 a2 W2 (fun m'=>m' σ2 < mm σ1) q2.1 (fun s hs=>by rw[q4 s hs,g5 s hs]) (t_1 l.mods (fun r hr=>hr.1) q1)
           (x_f l.mods (t_1 l.mods (fun r hr=>hr.2) q1))
         exact ⟨m',by omega,hJ'⟩
       | _=>
         refine ⟨env2,σ2,q1,q2,fun s hs=>?_⟩
         have hsk:s ∈ l.keep:=by
           have hs:h_s an s (.loop c) =true:=by simpa using hs
           simp only[h_s,hl] at hs
           split at hs
           · rename_i l' _ hl'
             injection hl' with hl';subst hl'
             obtain ⟨d,hd,hb⟩:=List.any_eq_true.1 hs
             rw[←Nat.eq_of_beq_eq_true hb];exact hd
           · cases hs
         exact (FrS.of_eq (g5 s hsk)).trans (q3 s (fun hc=>hs (sx s hc)))
     · exact h.elim
 | .rangeFunc ..,Qx,a,W,env,σ,_,hr,h=>h.elim
 | .scope _,Qx,a,W,env,σ,_,hr,h=>h.elim
 | .goto _,Qx,a,W,env,σ,_,hr,h=>h.elim
 | .refuse _,Qx,a,W,env,σ,_,hr,h=>h.elim
theorem a_gr (hm:P.follows .mixedOrders=true)(an:Ann)(c:Code)(Qx:Exit→a_4)(a:Act)(W:World)(env:Env)(σ:Store)(hd:∀d ∈ e_8 c,d < n)(hr:Rel df P k0 β0 σ0 W0 n a W env σ∧ND env)(h:dwp P an c Qx env σ) :
   c.wp P (OutX df P k0 β0 σ0 W0 n (Cl an c) env Qx) a W:=i_a (a_nq hm) an c Qx a W env σ hd hr h
end
end
section
section
variable {df:List Deferred} {P:Program} {k0:Nat→Prop} {β0:Bk} {σ0:Store} {W0:World} {n:Nat} {k:Nat→Prop} {β:Bk} {γ:Nat→Nat}
 {tmps:Array Value} {W W':World} {env:Env} {σ σ':Store} {a:Act} {o:Oper} {K:a_4}
theorem a_d2:∀(as0:List A) (i s:Nat),get (d_q i as0) s=if i≤s then (match as0[s - i]? with | some x=> .val x | none=> .undef) else .undef
 | [],i,s=>by simp[d_q,env0,get]
 | x::r,i,s=>by
   have ih:=a_d2 r (i+1) s
   have e1:d_q i (x::r) =a_t (d_q (i+1) r) i (.val x):=by cases x <;> rfl
   rw[e1]
   by_cases hs:s=i
   · subst hs;rw[b_f];simp
   · rw[a_0 _ _ hs,ih]
     by_cases hle:i≤s
     · have h1:i+1≤s:=by omega
       have h2:s - i=(s - (i+1)) +1:=by omega
       rw[if_pos h1,if_pos hle,h2,List.getElem?_cons_succ]
     · rw[if_neg hle,if_neg (by omega)]
theorem a_d6 (hS:SRel P k β W σ){args:List A}{vs:Array Value}{m:Nat}(hm:args.length≤m)(hsz:vs.size=args.length)
   (hv:∀(i:Nat) v x,vs[i]? =some v→args[i]? =some x→VA k β W v x) :
   Rel [] P k β σ W m { tmps:=vs ++ Array.replicate (m - vs.size) undef,defers:= [] } W (d_q 0 args) σ∧ND (d_q 0 args):=by
 have hg:∀s,get (d_q 0 args) s=match args[s]? with | some x=> .val x | none=> .undef:=fun s=>by
   rw[a_d2];simp
 have hnb:∀s cs,¬f_f (get (d_q 0 args) s) cs:=by
   intro s cs
   rw[hg]
   cases args[s]? <;> rintro (h | h) <;> cases h
 refine ⟨⟨rfl,k,β,fun _=>0,?_⟩,fun s d off h=>by rw[hg] at h;cases hx:args[s]? <;> rw[hx] at h <;> cases h⟩
 exact {
   srel:=hS
   slot:=fun s=>by
     rw[hg]
     cases hx:args[s]? with
     | none=>trivial
     | some x=>
       have hlt:s < vs.size:=by rw[hsz];exact (List.getElem?_eq_some_iff.1 hx).1
       have e1:(vs ++ Array.replicate (m - vs.size) undef).getD s undef=vs[s]:=by
         simp[Array.getElem?_append_left hlt,hlt]
       show VA k β W _ x
       rw[e1]
       exact hv s _ x (Array.getElem?_eq_getElem hlt) hx
   box:=fun s cs hb=>absurd hb (hnb s cs)
   inj:=fun s s' cs cs' hb=>absurd hb (hnb s cs)
   ghost:=Ghost.refl _ _ _ _
   frm:=Frm.refl _ _ _
   size:=by simp;omega }
def q_5 (tmps:Array Value)(r:ResultVar) :Sem Value:=
 match r with
 | .tmp t=>pure (tmps.getD t undef)
 | .cell b t=>do loadVar t (←asAddr (tmps.getD b undef))
theorem p_t {α:Type}{f:α→Sem Value}{r:α}{rs:List α}{v:Value}{vs:List Value}(h1:(f r).run P W= .ok v W)(h2:(rs.mapM f).run P W= .ok vs W) :
   ((r::rs).mapM f).run P W= .ok (v::vs) W:=by
 rw[List.mapM_cons,Sem.run_bind,h1]
 show ((rs.mapM f) >>= fun as0=>pure (v::as0)).run P W=_
 rw[Sem.run_bind,h2]
 rfl
theorem a_dl (h:RelX P k0 β0 σ0 W0 n k β γ tmps W env σ) :∀(rs:List ResultVar) (as0:List A),y_i P env rs=some as0→
   ∃vs:List Value,(rs.mapM (q_5 tmps)).run P W= .ok vs W∧vs.length=as0.length∧∀(i:Nat) v x,vs[i]? =some v→as0[i]? =some x→VA k β W v x
 | [],as0,hd=>by simp[y_i] at hd;subst hd;exact ⟨[],rfl,rfl,fun i v x hv=>by simp at hv⟩
 | r::rs,as0,hd=>by
   have fin : ∀ (u : Value) (x : A) (xs : List A), y_i P env rs = some xs → (q_5 tmps r).run P W = .ok u W → VA k β W u x → some (x :: xs) = some as0 →
       ∃vs:List Value,((r::rs).mapM (q_5 tmps)).run P W= .ok vs W∧vs.length=as0.length∧∀(i:Nat) v x,vs[i]? =some v→as0[i]? =some x→VA k β W v x:=by
     intro u x xs h2 hu hva hd
     injection hd with hd;subst hd
     obtain ⟨vs,q1,q2,q3⟩:=a_dl h rs xs h2
     refine ⟨u::vs,p_t hu q1,by simp[q2],fun i v y hv hy=>?_⟩
     cases i with
     | zero=>simp only[List.getElem?_cons_zero,Option.some.injEq] at hv hy;subst hv hy;exact hva
     | succ i=>exact q3 i v y (by simpa using hv) (by simpa using hy)
   cases r with
   | tmp t=>
     unfold y_i at hd
     split at hd
     · rename_i x xs h1 h2
       exact fin _ x xs h2 rfl (h_o (a_o h { tmps:=tmps,defers:= [] } rfl (.tmp t) 0).1 h1) hd
     · cases hd
   | cell t ty=>
     unfold y_i at hd
     split at hd
     · rename_i s off agg he hagg
       split at hd
       · rename_i cs hg
         split at hd
         · rename_i hle
           have hle:=of_decide_eq_true hle
           have hev:=(a_o h { tmps:=tmps,defers:= [] } rfl (.tmp t) 0).1
           rw[he] at hev
           have hev:tmps.getD t undef= .pointer (some ⟨γ s,off,none⟩):=hev
           obtain ⟨_,_,_,_,arr,t',hheap,_,hVL⟩:=h.box s cs (.inl hg)
           have hsz:arr.size=cs.length:=by simpa using hVL.1
           have hvl:=hVL.drop_take off (P.cellsOf ty)
           obtain ⟨r1,r2⟩:=j_l (P:=P) (W:=W) hagg (b:=γ s) (o':=off) (vals:=(arr.toList.drop off).take (P.cellsOf ty)) (by simp;omega) (fun j v hv=>by
             rw[cell_of_heap hheap]
             rw[List.getElem?_take] at hv
             split at hv
             · simpa using hv
             · cases hv)
           have hrun:∀u,(loadVar ty ⟨γ s,off,none⟩).run P W= .ok u W→(q_5 tmps (.cell t ty)).run P W= .ok u W:=by
             intro u hu
             unfold q_5
             simp only[hev,asAddr,pure_bind]
             exact hu
           split at hd
           · rename_i c as0' h2
             exact fin _ (.agg _) _ h2 (hrun _ (r1 rfl)) ⟨_,rfl,hvl⟩ hd
           · rename_i d as0' hc h2
             rw[hc] at hvl
             have hl:=hvl.1
             cases hvs:(arr.toList.drop off).take (P.cellsOf ty) with
             | nil=>rw[hvs] at hl;simp at hl
             | cons u us=>
               cases us with
               | cons=>rw[hvs] at hl;simp at hl
               | nil=>
                 rw[hvs] at hvl
                 exact fin u (.one d) _ h2 (hrun _ (r2 u rfl hvs)) (hvl.2 0 u d rfl rfl) hd
           · cases hd
         · cases hd
       · cases hd
     · cases hd
theorem a_b {f:FuncId}{fn:Func}{args:List A}{Q:RV→Store→Prop}(hm:P.follows .mixedOrders=true)(hok:g_p P f=true)(hf:P.funcs[f]? =some fn)(an:Ann)
   (h:a_of P fn an args σ Q) :DCalls P f args σ Q:=by
 refine ⟨hok,fun k β W vs hS hsz hv=>?_⟩
 unfold a_of at h
 split at h
 · rename_i c hb
   split at h
   · rename_i hd hm'
     have hm':=Nat.le_of_ble_eq_true hm'
     obtain ⟨hr,hnd⟩:=a_d6 hS hm' hsz hv
     have hw:=a_gr hm an c (retX P fn Q) _ W (d_q 0 args) σ (fun d hd'=>by
       have:=List.all_eq_true.1 hd d hd'
       exact Nat.lt_of_succ_le (Nat.le_of_ble_eq_true this)) ⟨hr,hnd⟩ h
     refine calls_of_wp hf hb (Code.wp_mono (fun e a' W' hq=>?_) hw)
     have fin : ∀ e, (e = .normal ∨ e = .ret) → OutX [] P k β σ W fn.ntmps (Cl an c) (d_q 0 args) (retX P fn Q) e a' W' →
         a'.defers=[]∧∃v,(results fn a'.tmps).run P W'= .ok v W'∧∃v' r σ' k' β',Ending.returned v= .returned v'∧Q r σ'∧VR k' β' W' v' r∧SRel P k' β' W' σ'∧Ghost k β σ W k' β' σ'∧Frm β σ W W':=by
       intro e he hq
       obtain ⟨env',σ',q1,⟨⟨q2,k',β',γ',q3⟩,_⟩,_⟩:=hq
       refine ⟨q2,?_⟩
       have q1:(match y_i P env' fn.results.toList with | some [x]=>Q (.a x) σ' | some as0=>Q (.tup as0) σ' | none=>False):=by
         rcases he with rfl | rfl <;> exact q1
       cases hres:y_i P env' fn.results.toList with
       | none=>rw[hres] at q1;exact q1.elim
       | some as0=>
         rw[hres] at q1
         obtain ⟨vs',r1,r2,r3⟩:=a_dl q3 fn.results.toList as0 hres
         have hrun:(fn.results.mapM (q_5 a'.tmps)).run P W'= .ok vs'.toArray W':=by
           have e1:fn.results=fn.results.toList.toArray:=by simp
           rw[e1,List.mapM_toArray]
           show ((fn.results.toList.mapM (q_5 a'.tmps)) >>= fun x=>pure x.toArray).run P W'=_
           rw[Sem.run_bind,r1]
           rfl
         have hrr:(results fn a'.tmps).run P W'= .ok (if h:vs'.toArray.size=1 then vs'.toArray[0] else .tuple vs'.toArray) W':=by
           show ((fn.results.mapM (q_5 a'.tmps)) >>= fun vs=>pure (if h:vs.size=1 then vs[0] else .tuple vs)).run P W'=_
           rw[Sem.run_bind,hrun]
           rfl
         refine ⟨_,hrr,?_⟩
         match as0,r2,r3,q1 with
         | [x],r2,r3,q1=>
           match vs',r2,r3 with
           | [v],_,r3=>
             exact ⟨v, .a x,σ',k',β',rfl,q1,r3 0 v x rfl rfl,q3.srel,q3.ghost,q3.frm⟩
         | [],r2,r3,q1=>
           match vs',r2 with
           | [],_=>exact ⟨.tuple #[], .tup [],σ',k',β',rfl,q1,⟨#[],rfl,rfl,fun i u y hu=>by simp at hu⟩,q3.srel,q3.ghost,q3.frm⟩
         | x::y::r,r2,r3,q1=>
           match vs',r2,r3 with
           | v::u::w,r2,r3=>
             refine ⟨.tuple (v::u::w).toArray, .tup (x::y::r),σ',k',β',?_,q1,⟨_,rfl,by simpa using r2,fun i u' z hu hz=>r3 i u' z (by simpa using hu) hz⟩,q3.srel,q3.ghost,q3.frm⟩
             rw[dif_neg (by simp)]
     cases e with
     | normal=>exact fin _ (.inl rfl) hq
     | ret=>exact fin _ (.inr rfl) hq
     | _=>
       obtain ⟨env',σ',q1,_⟩:=hq
       exact q1.elim
   · exact h.elim
 · exact h.elim
end
end
end Go.Fw
