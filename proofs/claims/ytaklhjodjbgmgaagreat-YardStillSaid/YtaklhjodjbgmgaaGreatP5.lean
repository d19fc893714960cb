/-
  Proofs that the statement of this claim leans on: part 5.
-/
import Derived.Test.YtaklhjodjbgmgaaGreatP4
set_option linter.unusedVariables false
set_option linter.unusedSimpArgs false
namespace Go.Proofs.YtaklhjodjbgmgaaGreat
open Go.Fw Go.Proofs Go.RowKit
open Go.Proofs.Tryz (prog)
section
variable {σ σ0:Store}
theorem a_e2 {s:Store}{id:Nat}{r:Rd}(h:l_w s id r) :Pure prog g_6 [.one (pO id)] s (.a (iA r.l.length)):=
 v_h (pO id) s _ ⟨trivial,_,_,_,rfl,_,a_d h,ofL r.l,rfl,by rw[a_9];exact ⟨rfl,rfl⟩⟩
def m_k (F:List Fld)(t:List UInt8) :Option (List (List Int)):=
 if t.head? =some 2/\t.length=1+ (F.map Fld.n).sum/\F.all (Fld.right (m_n (F.map Fld.n) (t.drop 1))) =true then some (m_n (F.map Fld.n) (t.drop 1)) else none
theorem rd1 (x:UInt8) :rd [x]=(x.toNat:Int):=by simp[rd,rdL]
structure RdSt (σ0 s:Store) (oid fid rid:Nat) (F:List Fld) (u:List UInt8) (q:Nat) (ds:List D) :Prop where
 le:q<=u.length
 rdr:l_w s rid ⟨0,u.drop q⟩
 flds:s fid= .live c_j (F.map (Fld.enc oid))
 row:s oid= .live i_c [ds]
 own:OwnAll σ0 s ds (m_n (F.map Fld.n) (u.take q))
theorem a_lm {s s':Store}{i:Nat}(he:Ext s s')(h:s' i= .free) :s i= .free:=by
 by_cases hf:s i= .free
 · exact hf
 · have:=he i hf;rw[h] at this;exact this.symm
theorem a_j8 {s:Store}{oid fid:Nat}{F:List Fld}(hF:s fid= .live c_j (F.map (Fld.enc oid)))(ho:s oid= .live i_c [List.replicate F.length .nils])(hn1:σ0 oid= .free)(hn2:σ0 fid= .free)(he:Ext σ0 s)
   (hoff:∀(k:Nat) f,F[k]? =some f->f.off=k) {t:List UInt8} (ht:t.length<=2 ^ 40) (hsum:(F.map Fld.n).sum<=2 ^ 20) (hFl:F.length<=2 ^ 20) :
   DCalls prog q_k [.one (.str (ofL t)),iA 2, .one (.osl fid 0 F.length)] s fun r s'=>Ext σ0 s'/\((m_k F t=none/\r= .a (iA 3))\/∃ls ds,m_k F t=some ls/\r= .a (iA 0)/\s' oid= .live i_c [ds]/\OwnAll σ0 s' ds ls):=by
 have cO:prog.cellsOf i_c≠1:=by rw[a_we];decide
 have cR:prog.cellsOf c_1≠1:=by rw[a_hn];decide
 have cF:prog.cellsOf c_j≠1:=by rw[o_8];decide
 refine a_om (ofL t) 2 (.osl fid 0 F.length) s _ ((k_d t).mono ?_)
 rintro r s1 ⟨rid,rfl,hrid,hr1,he1,ho1⟩
 have hrn:σ0 rid= .free:=a_lm he hrid
 refine ⟨_,rfl,(h_6 hr1 (by show t.length<=2 ^ 60;omega)).mono ?_⟩
 rintro r s2 ⟨rfl,hr2,ho2⟩
 have ex:∀{s s':Store},Ext σ0 s->(∀i,i≠rid->s' i=s i)->Ext σ0 s':=fun h1 h2=>a_iv h1 hrn h2
 have he2:Ext σ0 s2:=ex (ex he ho1) ho2
 cases t with
 | nil=>
   have hn:m_k F []=none:=by unfold m_k;rw[if_neg];rintro ⟨h,_⟩;cases h
   refine ⟨_,rfl,?_⟩
   have:((⟨0,[]⟩ :Rd).num 1).1=0:=rfl
   rw[this]
   exact bcn (fun _=>⟨he2, .inl ⟨hn,rfl⟩⟩) (fun e=>by cases e)
 | cons b u=>
 have hnum:(⟨0,b::u⟩ :Rd).num 1=((b.toNat:Int),⟨0,u⟩):=by rw[j_b (by simp)];simp[rd1]
 rw[hnum] at hr2 ⊢
 refine ⟨_,rfl,bcn (fun hb=>⟨he2, .inl ⟨?_,rfl⟩⟩) (fun hb=>?_)⟩
 · unfold m_k
   rw[if_neg]
   rintro ⟨h,_⟩
   simp at h
   subst h
   exact hb rfl
 have hb2 : b = 2 := UInt8.toNat_inj.1 (by have : b.toNat = 2 := by omega
                                           rw[this];rfl)
 subst hb2
 have hul:u.length<=2 ^ 40:=by simp at ht;omega
 have hno:oid≠rid:=fun e=>by rw[e,hrid] at ho;cases ho
 have hnf:fid≠rid:=fun e=>by rw[e,hrid] at hF;cases hF
 have hfo:fid≠oid:=fun e=>by
   rw[e,ho] at hF
   injection hF with hF _
   exact absurd hF (by decide)
 have h0:RdSt σ0 s2 oid fid rid F u 0 (List.replicate F.length .nils):=by
   refine ⟨by omega,by simpa using hr2,by rw[ho2 _ hnf,ho1 _ hnf];exact hF,by rw[ho2 _ hno,ho1 _ hno];exact ho,?_⟩
   rw[List.take_zero,a_oz,zB]
   exact .nils σ0 he2 _
 have short:u.length < (F.map Fld.n).sum->m_k F (2::u) =none:=fun h=>by
   unfold m_k
   rw[if_neg]
   rintro ⟨_,h2,_⟩
   rw[List.length_cons] at h2;omega
 have hnsl:(F.map Fld.n).length=F.length:=by simp
 have hFat:At prog s2 c_j (.osl fid 0 F.length) (F.map (Fld.enc oid)):=At.fresh h0.flds (by simp;omega) (by simp)
 have hFs:∀{s:Store},s fid= .live c_j (F.map (Fld.enc oid))->At prog s c_j (.osl fid 0 F.length) (F.map (Fld.enc oid)):=fun h=>At.fresh h (by simp;omega) (by simp)
 refine hFat.lenK ⟨fun n s=>∃(k:Nat) (ds:List D),n=k/\k<=F.length/\RdSt σ0 s oid fid rid F u ((F.map Fld.n).take k).sum ds,fun n _=>F.length - n.toNat,⟨0,_,rfl,by omega,h0⟩,?_⟩
 rintro _ s3 ⟨k,ds,rfl,hk,h3⟩
 rw[zB]
 refine bcd (fun hlt=>?_) (fun hge=>?_)
 rotate_left
 · -- all fields are full
   have e:k=F.length:=by omega
   subst e
   rw[List.take_of_length_le (by simp)] at h3
   refine (a_h9 h3.rdr).use ⟨_,rfl,?_⟩
   by_cases hend:u.drop (F.map Fld.n).sum=[]
   · have hlen : u.length = (F.map Fld.n).sum := by
       have:=List.drop_eq_nil_iff.1 hend
       have:=h3.le
       omega
     have htk:u.take (F.map Fld.n).sum=u:=List.take_of_length_le (by omega)
     have h3o:=h3.own
     rw[htk] at h3o
     have hr:=a_ia (hFs h3.flds) h3.row h3o.len (fun k d l a b=>(h3o.own k d l a b).at_) (fun f hf=>by
       obtain ⟨k,hk⟩:=List.mem_iff_getElem?.1 hf
       have:=hoff k f hk
       have:=(zA.1 hk).1
       rw[a_ed,hnsl];omega)
     have hcond:(if (⟨0,u.drop (F.map Fld.n).sum⟩ :Rd).e=0/\(⟨0,u.drop (F.map Fld.n).sum⟩ :Rd).l≠[] then (3:Int) else (⟨0,u.drop (F.map Fld.n).sum⟩ :Rd).e) =0:=by
       rw[if_neg (fun g=>g.2 hend)]
     rw[hcond]
     refine bcn (fun e=>absurd rfl e) (fun _=>hr.use ⟨_,rfl,a_0 (fun hb=>?_) (fun hb=>?_)⟩)
     · refine ⟨h3o.ext, .inl ⟨?_,rfl⟩⟩
       unfold m_k
       rw[if_neg]
       rintro ⟨_,_,h⟩
       rw[show List.drop 1 (2::u) =u from rfl,hb] at h;cases h
     · refine ⟨h3o.ext, .inr ⟨_,ds,?_,rfl,h3.row,h3o⟩⟩
       unfold m_k
       rw[if_pos ⟨rfl,by rw[List.length_cons];omega,hb⟩];rfl
   · have hcond : (if (⟨0, u.drop (F.map Fld.n).sum⟩ : Rd).e = 0 /\ (⟨0, u.drop (F.map Fld.n).sum⟩ : Rd).l ≠ [] then (3 : Int) else (⟨0, u.drop (F.map Fld.n).sum⟩ : Rd).e) = 3 := by
       rw[if_pos ⟨rfl,hend⟩]
     rw[hcond]
     refine bcn (fun _=>⟨h3.own.ext, .inl ⟨?_,rfl⟩⟩) (fun e=>by cases e)
     unfold m_k
     rw[if_neg]
     rintro ⟨_,h2,_⟩
     rw[List.length_cons] at h2
     exact hend (List.drop_eq_nil_of_le (by omega))
 have hlt:k < F.length:=by omega
 obtain ⟨f,hf⟩:=a_c (l:=F) (j:=k) hlt
 have hfk:=hoff k f hf
 have hnk:(F.map Fld.n)[k]? =some f.n:=by rw[zL,hf];rfl
 have hsk:((F.map Fld.n).take (k+1)).sum=((F.map Fld.n).take k).sum+f.n:=by rw[zQ,hnk,Option.toList_some,List.sum_append];simp
 have hskle:((F.map Fld.n).take (k+1)).sum<=(F.map Fld.n).sum:=by
   have:=congrArg List.sum (List.take_append_drop (k+1) (F.map Fld.n))
   rw[List.sum_append] at this;omega
 have hdec:=a_v hlt
 refine (hFs h3.flds).load (a_g hf) o_8 rfl ⟨_,f.n,f.most,rfl,fun n s=>∃(m:Nat) (ds:List D),n=m/\m<=f.n/\RdSt σ0 s oid fid rid F u (((F.map Fld.n).take k).sum+m) ds,fun n _=>f.n - n.toNat,⟨0,ds,rfl,by omega,h3⟩,?_⟩
 clear h3 ds
 rintro _ s4 ⟨m,ds,rfl,hm,h4⟩
 refine bcd (fun hlt2=>?_) (fun hge2=>?_)
 rotate_left
 · have e:m=f.n:=by omega
   subst e
   rw[a_i (by omega)]
   exact ⟨⟨k+1,ds,rfl,hlt,by rw[hsk];exact h4⟩,hdec⟩
 have hlt2:m < f.n:=by omega
 generalize hq:((F.map Fld.n).take k).sum+m=q at h4
 have hqs:q < (F.map Fld.n).sum:=by omega
 have hdec2:=a_v hlt2
 refine (a_e2 h4.rdr).use ⟨_,rfl,bce (fun h0=>⟨h4.own.ext, .inl ⟨short ?_,rfl⟩⟩) (fun h0=>?_)⟩
 · have h0:((u.drop q).length:Int) =0:=h0
   simp at h0;omega
 have hql:q < u.length:=by
   have h0:((u.drop q).length:Int)≠0:=h0
   simp at h0;omega
 obtain ⟨x,hx⟩:=a_c (l:=u) (j:=q) hql
 have hdr:u.drop q=x::u.drop (q+1):=b_k hx
 have hrn1:(⟨0,u.drop q⟩ :Rd).num 1=((x.toNat:Int),⟨0,u.drop (q+1)⟩):=by
   rw[hdr,j_b (by simp)]
   simp[rd1]
 have htk:u.take (q+1) =u.take q ++ [x]:=by rw[zQ,hx,Option.toList_some]
 have hqlen:(u.take q).length=q:=by rw[zR];omega
 obtain ⟨l,g1,g2,g3⟩:=a_jg x (F.map Fld.n) (u.take q) k f.n hnk (by rw[hqlen];omega) (by rw[hqlen];omega)
 obtain ⟨d,hd⟩:=a_c (l:=ds) (j:=k) (by rw[h4.own.len,a_ed,hnsl];exact hlt)
 have lay : ∀ s5, l_w s5 rid ⟨0, u.drop (q + 1)⟩ -> (∀ i, i ≠ rid -> s5 i = s4 i) -> ∀ K : Store -> Prop, (∀ s8 ds', RdSt σ0 s8 oid fid rid F u (q + 1) ds' -> K s8) -> Fw.newObj s5 (.live a_e [[iD (x.toNat : Int)]]) fun id s6 => a_j prog s6 a_e 8 d (.osl id 0 1) fun d3 s7 =>
     (a_u (.el (.osl oid 0 1) 0 f.off:D))/\∃s1 i1 off1,((.el (.osl oid 0 1) 0 f.off:D) =(.el s1 i1 off1:D))/\a_k [d3] s7 s1 i1 off1 K:=by
   intro s5 hr5 ho5 K hK
   have hO5:OwnAll σ0 s5 ds (m_n (F.map Fld.n) (u.take q)):=h4.own.other hrn (h4.own.away h4.rdr cR) ho5
   refine a_f fun id s6 hid _ he6 hs6=>(hO5.ext' he6).append (k:=k) (ns:= [(x.toNat:Int)]) hd g1 (At.fresh hs6 (by simp) rfl) (by simp;omega) fun d' s7 hO7 hs7=>⟨trivial,_,_,_,rfl,?_⟩
   have hO6:=hO5.ext' he6
   have row6:s6 oid= .live i_c [ds]:=e_t (by rw[ho5 _ hno];exact h4.row) he6
   have rdr6:s6 rid= .live c_1 [[iD 0, .str (ofL (u.drop (q+1)))]]:=e_t hr5 he6
   have fld6:s6 fid= .live c_j (F.map (Fld.enc oid)):=e_t (by rw[ho5 _ hnf];exact h4.flds) he6
   have hdm:=zC hd
   have lf:∀{i t rows},s6 i= .live t rows->s6 i≠ .free:=fun h e=>by rw[h] at e;cases e
   have row7:s7 oid= .live i_c [ds]:=by rw[hs7 oid (lf row6) (hO6.away row6 cO d hdm)];exact row6
   have rdr7:s7 rid= .live c_1 [[iD 0, .str (ofL (u.drop (q+1)))]]:=by rw[hs7 rid (lf rdr6) (hO6.away rdr6 cR d hdm)];exact rdr6
   have fld7:s7 fid= .live c_j (F.map (Fld.enc oid)):=by rw[hs7 fid (lf fld6) (hO6.away fld6 cF d hdm)];exact fld6
   have hkl:=(zA.1 hd).1
   refine b_h row7 (by rw[hfk];simp;omega) fun s8 hs8 ho8=>hK s8 (ds.set k d') ⟨hql,by unfold l_w;rw[ho8 _ (Ne.symm hno)];exact rdr7,by rw[ho8 _ hfo];exact fld7,by rw[hs8,hfk,a_zi hd],?_⟩
   rw[htk,g3]
   exact hO7.other hn1 (hO7.away row7 cO) ho8
 refine ⟨⟨trivial,_,_,_,rfl,_,a_d h4.row,d,by rw[hfk];exact c_8 hd,(h_6 h4.rdr (by show (u.drop q).length<=2 ^ 60;simp;omega)).mono ?_⟩,trivial,(h_6 h4.rdr (by show (u.drop q).length<=2 ^ 60;simp;omega)).mono ?_⟩
 · rintro r s5 ⟨rfl,hr5,ho5⟩
   rw[hrn1] at hr5 ⊢
   refine ⟨_,rfl,lay s5 hr5 ho5 _ fun s8 ds' h8=>?_⟩
   rw[a_i (by omega)]
   exact ⟨by first | exact rfl | trivial,⟨m+1,ds',rfl,hlt2,by rw[show ((F.map Fld.n).take k).sum+ (m+1) =q+1 by omega];exact h8⟩,hdec2⟩
 · rintro r s5 ⟨rfl,hr5,ho5⟩
   rw[hrn1] at hr5 ⊢
   refine ⟨_,rfl,_,_,_,rfl,_,a_d (by rw[ho5 _ hno];exact h4.row),d,by rw[hfk];exact c_8 hd,lay s5 hr5 ho5 _ fun s8 ds' h8=>?_⟩
   rw[a_i (by omega)]
   exact ⟨by first | exact rfl | trivial,⟨m+1,ds',rfl,hlt2,by rw[show ((F.map Fld.n).take k).sum+ (m+1) =q+1 by omega];exact h8⟩,hdec2⟩
structure OdFz (d1 d2 d3:D) (o:Od) :Prop where
 pos:∀s,At prog s a_e d1 (o.Pos.map Go.Fw.encI)
 asp:∀s,At prog s a_e d2 (o.Asp.map Go.Fw.encI)
 shut:∀s,At prog s a_e d3 (o.Shut.map Go.Fw.encI)
def p_4 (h:Shp) :List Fld:= [⟨0,h.Pts.length,2⟩,⟨1,h.Sgs.length,2⟩,⟨2,h.Xs.length,1⟩]
theorem a_rj {h:Shp}{t:List UInt8}(hn:m_k (p_4 h) t=none) :g_d h t=none:=by
 unfold m_k at hn
 unfold g_d
 split at hn
 · cases hn
 · rename_i hc
   rw[if_neg]
   rintro ⟨h1,h2,h3⟩
   refine hc ⟨h1,by simp[p_4];omega,?_⟩
   unfold Od.right Od.of at h3
   simp only[zO,decide_eq_true_eq] at h3
   obtain ⟨⟨⟨⟨e1,e2,e3⟩,a1⟩,a2⟩,a3⟩:=h3
   simp only[p_4,List.map_cons,List.map_nil,List.all_cons,List.all_nil,Fld.right,m_n,List.drop_drop,zO,decide_eq_true_eq,Bool.and_true]
   refine ⟨⟨by simp only[List.getD_cons_zero];omega,a1⟩,⟨by simp only[List.getD_cons_succ,List.getD_cons_zero];omega,a2⟩,⟨?_,?_⟩⟩
   · simp only[List.getD_cons_succ,List.getD_cons_zero,<-Nat.add_assoc];omega
   · simp only[List.getD_cons_succ,List.getD_cons_zero,<-Nat.add_assoc];exact a3
theorem a_q4 {h:Shp}{t:List UInt8}{ls:List (List Int)}(hn:m_k (p_4 h) t=some ls) :∃o,g_d h t=some o/\ls=[o.Pos,o.Asp,o.Shut]:=by
 unfold m_k at hn
 split at hn
 · rename_i hc
   obtain ⟨h1,h2,h3⟩:=hc
   injection hn with hn
   refine ⟨Od.of h t,?_,?_⟩
   · unfold g_d
     rw[if_pos]
     refine ⟨h1,by simp[p_4] at h2;omega,?_⟩
     simp only[p_4,List.map_cons,List.map_nil,List.all_cons,List.all_nil,Fld.right,m_n,List.drop_drop,zO,decide_eq_true_eq,Bool.and_true] at h3
     obtain ⟨⟨e1,a1⟩,⟨e2,a2⟩,⟨e3,a3⟩⟩:=h3
     simp only[List.getD_cons_succ,List.getD_cons_zero,<-Nat.add_assoc] at e1 e2 e3 a1 a2 a3
     unfold Od.right Od.of
     simp only[zO,decide_eq_true_eq]
     exact ⟨⟨⟨⟨by omega,by omega,by omega⟩,a1⟩,a2⟩,a3⟩
   · rw[<-hn]
     simp only[p_4,List.map_cons,List.map_nil,m_n,List.drop_drop,Od.of,<-Nat.add_assoc]
 · cases hn
theorem w_b {h0 h1 h2 h3:D}{h:Shp}(hs:ShFz h0 h1 h2 h3 h)(hl:h.Pts.length+h.Sgs.length+h.Xs.length<=2 ^ 20){t:List UInt8}(ht:t.length<=2 ^ 40) :
   DCalls prog f_o [.agg [h0,h1,h2,h3], .one (.str (ofL t))] σ fun r s=>s=σ/\((g_d h t=none/\r= .tup [.agg [.nils, .nils, .nils],iA 3])\/
     ∃o d1 d2 d3,g_d h t=some o/\r= .tup [.agg [d1,d2,d3],iA 0]/\OdFz d1 d2 d3 o):=by
 have key : DCalls prog f_o [.agg [h0, h1, h2, h3], .one (.str (ofL t))] σ fun r s => Ext σ s /\ ((g_d h t = none /\ r = .tup [.agg [.nils, .nils, .nils], iA 3]) \/
     ∃o d1 d2 d3,g_d h t=some o/\r= .tup [.agg [d1,d2,d3],iA 0]/\OwnAll σ s [d1,d2,d3] [o.Pos,o.Asp,o.Shut]):=by
   refine y_7 h0 h1 h2 h3 (ofL t) σ _ (a_f fun oid s1 ho _ he1 hs1=>?_)
   refine a_g3 h0 h1 h2 h3 (pO oid) s1 _ ⟨trivial,_,_,_,rfl,(hs.pts s1).lenK ⟨trivial,_,_,_,rfl,(hs.sgs s1).lenK ⟨trivial,_,_,_,rfl,(hs.xs s1).lenK (a_f fun fid s2 hf _ he2 hs2=>?_)⟩⟩⟩
   rw[zB,zB,zB] at hs2
   have hf0:σ fid= .free:=a_lm he1 hf
   refine ⟨_,rfl,(a_j8 (σ0:=σ) (F:=p_4 h) (oid:=oid) (fid:=fid) hs2 (e_t hs1 he2) ho hf0 (he1.trans he2) ?_ ht (by simp[p_4];omega) (by simp[p_4])).mono ?_⟩
   · intro k f hk
     rcases k with _ | _ | _ | k <;> simp[p_4] at hk <;> subst hk <;> rfl
   rintro r s3 ⟨he3,⟨hn,rfl⟩ | ⟨ls,ds,hsome,rfl,hrow,hO⟩⟩
   · exact ⟨3,rfl,bcn (fun _=>⟨he3, .inl ⟨a_rj hn,rfl⟩⟩) (fun e=>by cases e)⟩
   · obtain ⟨o,g1,rfl⟩:=a_q4 hsome
     have hlen:=hO.len
     match ds,hlen with
     | [d1,d2,d3],_=>
       exact ⟨0,rfl,bcn (fun e=>absurd rfl e) (fun _=>⟨_,a_d hrow,d1,d2,d3,rfl,he3, .inr ⟨o,d1,d2,d3,g1,rfl,hO⟩⟩)⟩
 refine key.ret ?_
 rintro r s ⟨he,⟨hn,rfl⟩ | ⟨o,d1,d2,d3,ho,rfl,hO⟩⟩
 · refine ⟨.tup [.agg [.nils, .nils, .nils],iA 3],σ, .pure he ⟨rfl,fun i x y h1 h2=>?_⟩,rfl, .inl ⟨hn,rfl⟩⟩
   rw[h1] at h2;injection h2 with h2;subst h2
   rcases i with _ | _ | i
   · simp at h1;subst h1;exact .cons .nils (.cons .nils (.cons .nils .nil))
   · simp at h1;subst h1;exact .int _ _
   · simp at h1
 · have o0:=hO.own 0 _ _ rfl rfl
   have o1:=hO.own 1 _ _ rfl rfl
   have o2:=hO.own 2 _ _ rfl rfl
   obtain ⟨b0,f0,g0⟩:=b_s o0.at_ he o0.new (g_c _)
   obtain ⟨b1,f1,g1⟩:=b_s o1.at_ he o1.new (g_c _)
   obtain ⟨b2,f2,g2⟩:=b_s o2.at_ he o2.new (g_c _)
   refine ⟨.tup [.agg [b0,b1,b2],iA 0],σ, .pure he ⟨rfl,fun i x y h1 h2=>?_⟩,rfl, .inr ⟨o,b0,b1,b2,ho,rfl,⟨g0,g1,g2⟩⟩⟩
   rcases i with _ | _ | i
   · simp at h1 h2;subst h1 h2;exact .cons f0 (.cons f1 (.cons f2 .nil))
   · simp at h1 h2;subst h1 h2;exact .int _ _
   · simp at h1
end
end Go.Proofs.YtaklhjodjbgmgaaGreat
namespace Go.Fw
section
def Heap (s:Store)(l:List (Nat × SO)) :Prop:=(l.map (·.1)).Nodup/\∀x ∈ l,s x.1=x.2/\x.2≠ .free
theorem Heap.nil (s:Store) :Heap s []:=⟨.nil,fun x h=>by cases h⟩
theorem Heap.get {s:Store}{l:List (Nat × SO)}(h:Heap s l){i:Nat}{so:SO}(hm:(i,so) ∈ l) :s i=so:=(h.2 _ hm).1
theorem Heap.ext {s s':Store}{l:List (Nat × SO)}(h:Heap s l)(he:Ext s s') :Heap s' l:=
 ⟨h.1,fun x hx=>⟨by rw[he x.1 (by rw[(h.2 x hx).1];exact (h.2 x hx).2)];exact (h.2 x hx).1,(h.2 x hx).2⟩⟩
theorem Heap.perm {s:Store}{l l':List (Nat × SO)}(h:Heap s l)(hp:l.Perm l') :Heap s l':=
 ⟨(hp.map _).nodup_iff.1 h.1,fun x hx=>h.2 x (hp.mem_iff.2 hx)⟩
theorem Heap.new {s s':Store}{l:List (Nat × SO)}(h:Heap s l){id:Nat}{so:SO}(hid:s id= .free)(he:Ext s s')(hs:s' id=so)(hne:so≠ .free) :Heap s' ((id,so) ::l):=by
 have h':=h.ext he
 refine ⟨List.nodup_cons.2 ⟨fun hm=>?_,h.1⟩,fun x hx=>?_⟩
 · obtain ⟨x,hx,e⟩:=List.mem_map.1 hm
   have:=h.2 x hx
   rw[e,hid] at this
   exact this.2 this.1.symm
 · rcases List.mem_cons.1 hx with rfl | hx
   · exact ⟨hs,hne⟩
   · exact h'.2 x hx
theorem Heap.tail {s:Store}{x:Nat × SO}{l:List (Nat × SO)}(h:Heap s (x::l)) :Heap s l:=⟨(List.nodup_cons.1 h.1).2,fun y hy=>h.2 y (List.mem_cons_of_mem _ hy)⟩
theorem Heap.put {s s':Store}{A X B:List (Nat × SO)}(h:Heap s (A ++ X ++ B)){k i:Nat}{so so':SO}(hk:X[k]? =some (i,so))(hs:s' i=so')(hne:so'≠ .free)(ho:∀j,j≠i->s j≠ .free->s' j=s j) :
   Heap s' (A ++ X.set k (i,so') ++ B):=by
 obtain ⟨hkl,hke⟩:=zA.1 hk
 have e1:X.map (·.1) =(X.set k (i,so')).map (·.1):=by
   refine List.ext_getElem? fun j=>?_
   rw[zL,zL]
   by_cases hj:j=k
   · subst hj
     rw[List.getElem?_set_self hkl,hk];rfl
   · rw[List.getElem?_set_ne (Ne.symm hj)]
 have hnd:((A ++ X.set k (i,so') ++ B).map (·.1)).Nodup:=by
   have:=h.1
   rw[List.map_append,List.map_append] at this ⊢
   rw[<-e1];exact this
 have old:∀x ∈ A ++ X ++ B,x.1≠i->s' x.1=x.2/\x.2≠ .free:=fun x hx hne'=>by
   have:=h.2 x hx
   exact ⟨by rw[ho x.1 hne' (by rw[this.1];exact this.2)];exact this.1,this.2⟩
 refine ⟨hnd,fun x hx=>?_⟩
 by_cases hxi:x.1=i
 · -- it is the one
   obtain ⟨m,hm⟩:=List.mem_iff_getElem?.1 hx
   have hidx:(A ++ X.set k (i,so') ++ B)[A.length+k]? =some (i,so'):=by
     rw[zK,zN (by omega),Nat.add_sub_cancel_left,zJ (by simpa using hkl),List.getElem?_set_self hkl]
   have hinj:=List.pairwise_iff_getElem.1 hnd
   have hmk:m=A.length+k:=by
     obtain ⟨hml,hme⟩:=zA.1 hm
     obtain ⟨hkl2,hke2⟩:=zA.1 hidx
     refine Classical.byContradiction fun hne2=>?_
     rcases Nat.lt_or_gt_of_ne hne2 with hlt | hlt
     · refine hinj m (A.length+k) (by simpa using hml) (by simpa using hkl2) hlt ?_
       rw[List.getElem_map,List.getElem_map,hme,hke2];exact hxi
     · refine hinj (A.length+k) m (by simpa using hkl2) (by simpa using hml) hlt ?_
       rw[List.getElem_map,List.getElem_map,hme,hke2];exact hxi.symm
   rw[hmk,hidx] at hm
   injection hm with hm
   subst hm
   exact ⟨hs,hne⟩
 · refine old x ?_ hxi
   rcases List.mem_append.1 hx with hx | hx
   · rcases List.mem_append.1 hx with hx | hx
     · exact zE _ (zE _ hx)
     · rcases List.mem_or_eq_of_mem_set hx with hx | hx
       · exact zE _ (zD _ hx)
       · exact absurd (by rw[hx]) hxi
   · exact zD _ hx
theorem c_d {α β:Type}{l:List α}{m:List β}{k:Nat}{a:α}{b:β}(h:l[k]? =some a)(h':m[k]? =some b) :(l.zip m)[k]? =some (a,b):=List.getElem?_zip_eq_some.2 ⟨h,h'⟩
theorem a_x5 {α β:Type}{l:List α}{m:List β}{k:Nat}{a:α}(h:l[k]? =some a)(b:β) :l.zip (m.set k b) =(l.zip m).set k (a,b):=by
 refine List.ext_getElem? fun j=>?_
 by_cases hj:j=k
 · subst hj
   by_cases hm:j < m.length
   · have hl:=(zA.1 h).1
     rw[List.getElem?_set_self (by simp;omega),c_d h (List.getElem?_set_self hm)]
   · rw[List.set_eq_of_length_le (by omega),List.set_eq_of_length_le (by simp;omega)]
 · rw[List.getElem?_set_ne (Ne.symm hj)]
   simp only[List.zip_eq_zipWith,List.getElem?_zipWith,List.getElem?_set_ne (Ne.symm hj)]
end
end Go.Fw
namespace Go.Proofs.YtaklhjodjbgmgaaGreat
open Go.Fw Go.Proofs Go.RowKit
open Go.Proofs.Tryz (prog)
section
variable {σ σ0:Store}
def p_d (s:Store)(d:D)(l:List Tr) :Prop:=∃rows,At prog s a_m d rows/\rows.length=l.length/\
 ∀(k:Nat) row t,rows[k]? =some row->l[k]? =some t->∃e,row=[e,iD t.Out]/\At prog s a_e e (t.Secs.map Go.Fw.encI)
theorem l_4 (l:List Tr)(t:Tr)(n:Int) :d_i (l ++ [t]) n=d_i l n+t.Secs.count n:=by unfold d_i;simp
theorem o_h (l:List Int)(x n:Int) :(l ++ [x]).count n=l.count n+if x=n then 1 else 0:=by
 rw[List.count_append,List.count_singleton]
 by_cases h:x=n
 · subst h;simp
 · simp[h]
theorem u_b {s:Store}{id:Nat}{row:List D}{tr:D}{l:List Tr}(h:s id= .live a_y [row])(htr:row[14]? =some tr)(ht:p_d s tr l)(hl:l.length<=2 ^ 10)(hs:∀t ∈ l,t.Secs.length<=2 ^ 45)(n:Int) :
   Pure prog b_j [.one (pO id),iA n] s (.a (iA (d_i l n:Nat))):=by
 obtain ⟨rows,hat,hrl,hrow⟩:=ht
 have hbound:∀j≤l.length,d_i (l.take j) n<=j * 2 ^ 45:=by
   intro j
   induction j with
   | zero=>intro _;simp[d_i]
   | succ j ih=>
     intro hj
     obtain ⟨t,htj⟩:=a_c (l:=l) (j:=j) (by omega)
     rw[zQ,htj,Option.toList_some,l_4]
     have h1:=ih (by omega)
     have h2:=hs t (zC htj)
     have h3:t.Secs.count n<=t.Secs.length:=List.count_le_length
     have e:(j+1) * 2 ^ 45=j * 2 ^ 45+2 ^ 45:=by omega
     omega
 refine y_a (pO id) n s _ ⟨trivial,_,_,_,rfl,_,a_d h,tr,c_8 htr,hat.lenK ⟨fun m k s'=>s'=s/\∃j:Nat,k=j/\j<=l.length/\m=(d_i (l.take j) n:Nat),fun _ k _=>l.length - k.toNat,⟨rfl,0,rfl,by omega,by simp[d_i]⟩,?_⟩⟩
 rintro _ _ s' ⟨rfl,j,rfl,hj,rfl⟩
 rw[hrl]
 refine bcd (fun hlt=>?_) (fun hge=>?_)
 rotate_left
 · have e:j=l.length:=by omega
   subst e
   rw[zT];exact ⟨rfl,rfl⟩
 have hlt:j < l.length:=by omega
 obtain ⟨t,htj⟩:=a_c (l:=l) (j:=j) hlt
 obtain ⟨r,hr⟩:=a_c (l:=rows) (j:=j) (by omega)
 obtain ⟨e,rfl,hae⟩:=hrow j r t hr htj
 have hts:=hs t (zC htj)
 have hb:=hbound j (by omega)
 have hjb:j * 2 ^ 45<=2 ^ 10 * 2 ^ 45:=Nat.mul_le_mul_right _ (by omega)
 generalize hm0:d_i (l.take j) n=m0 at *
 have hdec:=a_v hlt
 refine hat.load hr b_4 rfl ⟨e,t.Out,rfl,hae.lenK ⟨fun m k s2=>s2=s'/\∃q:Nat,k=q/\q<=t.Secs.length/\m=(m0+ (t.Secs.take q).count n:Nat),fun _ k _=>t.Secs.length - k.toNat,⟨rfl,0,rfl,by omega,by simp⟩,?_⟩⟩
 rintro _ _ s2 ⟨rfl,q,rfl,hq,rfl⟩
 rw[zB]
 refine bcd (fun hlt2=>?_) (fun hge=>?_)
 · have hlt2:q < t.Secs.length:=by omega
   obtain ⟨x,hx⟩:=a_c (l:=t.Secs) (j:=q) hlt2
   have htk:t.Secs.take (q+1) =t.Secs.take q ++ [x]:=by rw[zQ,hx,Option.toList_some]
   have hdec2:=a_v hlt2
   have hc:(t.Secs.take q).count n<=q:=by have:=List.count_le_length (l:=t.Secs.take q) (a:=n);rw[zR] at this;omega
   refine hae.load (a_g hx) c_int rfl ⟨x,rfl,?_⟩
   have hwq:w64 ((q:Int) +1) =((q+1:Nat) :Int):=a_i (by omega)
   have hwm:w64 (((m0+ (t.Secs.take q).count n:Nat) :Int) +1) =((m0+ (t.Secs.take q).count n+1:Nat) :Int):=a_i (by omega)
   rw[hwq,hwm]
   refine bce (fun he=>⟨⟨rfl,q+1,rfl,hlt2,?_⟩,hdec2⟩) (fun he=>⟨⟨rfl,q+1,rfl,hlt2,?_⟩,hdec2⟩)
   · rw[htk,o_h,if_pos he];rfl
   · rw[htk,o_h,if_neg he];rfl
 · have e2:q=t.Secs.length:=by omega
   subst e2
   rw[zT,a_i (by omega)]
   refine ⟨⟨rfl,j+1,rfl,hlt,?_⟩,hdec⟩
   rw[zQ,htj,Option.toList_some,l_4,hm0]
theorem p_3 {s:Store}{id:Nat}{row:List D}{c0 c1 c2 c3 c4:D}{c:Cf}(h:s id= .live a_y [row])(h3:row[3]? =some c2)(hc:∀s,CfAt s c0 c1 c2 c3 c4 c)(a e:Int) :
   Pure prog c_x [.one (pO id),iA a,iA e] s (.a (iA (c.sigAt a e))):=
 u_q (pO id) a e s _ ⟨trivial,_,_,_,rfl,_,a_d h,c2,c_8 h3,(p_f (⟨a,e⟩ :Sg) (hc s).sigs).use ⟨_,rfl,rfl,rfl⟩⟩
theorem q_7 {s:Store}{id:Nat}{row:List D}{c0 c1 c2 c3 c4:D}{c:Cf}(h:s id= .live a_y [row])(h2:row[2]? =some c1)(h3:row[3]? =some c2)(hc:∀s,CfAt s c0 c1 c2 c3 c4 c)(a e:Int) :
   Pure prog c_a [.one (pO id),iA a,iA e] s (.a (bA (c.stands a e))):=by
 refine v_t (pO id) a e s _ ⟨trivial,_,_,_,rfl,_,a_d h,c1,c_8 h2,(e_0 a e (hc s).jts).mono ?_⟩
 rintro r s' ⟨rfl,rfl⟩
 unfold Cf.stands
 cases hn:nxt c.Jts a e with
 | none=>exact ⟨0,0,false,rfl,a_0 (fun _=>⟨rfl,rfl⟩) (fun e=>by cases e)⟩
 | some p=>
   refine ⟨p.1,p.2,true,rfl,a_0 (fun e=>by cases e) (fun _=>(p_3 h h3 hc a e).use ⟨_,rfl,?_,rfl⟩)⟩
   simp only[Option.isNone_some,Bool.false_or]
theorem a_mc {s:Store}{id:Nat}{row:List D}{c0 c1 c2 c3 c4 tr d:D}{c:Cf}{l:List Tr}{t:Tr}(h:s id= .live a_y [row])(h1:row[1]? =some c0)(h2:row[2]? =some c1)(h3:row[3]? =some c2)(h14:row[14]? =some tr)
   (hc:∀s,CfAt s c0 c1 c2 c3 c4 c) (hl:p_d s tr l) (hll:l.length<=2 ^ 10) (hs:∀t ∈ l,t.Secs.length<=2 ^ 45) (ht:At prog s a_e d (t.Secs.map Go.Fw.encI)) :
   Pure prog i_v [.one (pO id), .agg [d,iD t.Out]] s (.a (bA (c.trFits l t))):=by
 have hts:=ht.size
 rw[zB] at hts
 refine a_ax (pO id) d t.Out s _ ?_
 intro R hR
 refine ht.lenK ?_
 rw[zB]
 match hsec:t.Secs with
 | []=>
   have hF:c.trFits l t=false:=by unfold Cf.trFits;rw[hsec]
   exact bcn (fun _=>⟨by rw[hF],rfl⟩) (fun e=>by simp at e)
 | a::b::r=>
   have hF:c.trFits l t=false:=by unfold Cf.trFits;rw[hsec]
   exact bcn (fun _=>⟨by rw[hF],rfl⟩) (fun e=>by simp at e;omega)
 | [a]=>
   have hF:c.trFits l t=match a_n c.Secs a with
     | some x=>decide (x.Kind=0) && decide (t.Out=0\/t.Out=1) && decide (d_i l a=0) && c.stands a t.Out
     | none=>false:=by unfold Cf.trFits;rw[hsec] <;> rfl
   rw[hsec] at ht
   refine bcn (fun e=>absurd rfl e) (fun _=>ht.load (j:=0) rfl c_int rfl ⟨a,rfl,bcd (fun hn=>?_) (fun hn=>ht.load (j:=0) rfl c_int rfl ⟨a,rfl,trivial,_,_,_,rfl,_,a_d h,c0,c_8 h1,(hc s).secs.lenK (bcd (fun hg=>?_) (fun hg=>hR s ?_))⟩)⟩)
   · exact ⟨by rw[hF,a_5 hn],rfl⟩
   · rw[zB] at hg
     exact ⟨by rw[hF,b_u (l:=c.Secs) (i:=a) hg],rfl⟩
   rw[zB] at hg
   obtain ⟨j,rfl⟩:=zI (show 0<=a by omega)
   obtain ⟨x,hx⟩:=a_c (l:=c.Secs) (j:=j) (by omega)
   have hgx:a_n c.Secs (j:Int) =some x:=by rw[a_1,hx]
   rw[hgx] at hF
   have hth:=u_b h h14 hl hll hs (j:Int)
   have hst:=q_7 h h2 h3 hc (j:Int) t.Out
   have tail:x.Kind=0->(t.Out=0\/t.Out=1)->DCalls prog b_j [.one (pO id),iA (j:Int)] s fun r s1=>∃n2:Int,(r= .a (iA n2))/\a_b (n2 == 0) (DCalls prog c_a [.one (pO id),iA (j:Int),iA t.Out] s1 fun r1 s2=>∃b:Bool,(r1= .a (bA b))/\(RV.a (bA b) = .a (bA (c.trFits l t))/\s2=s)) (RV.a (bA false) = .a (bA (c.trFits l t))/\s1=s):=fun hk ho=>by
     refine hth.use ⟨_,rfl,bce (fun h0=>hst.use ⟨_,rfl,?_,rfl⟩) (fun h0=>⟨?_,rfl⟩)⟩
     · rw[hF];simp only;rw[decide_eq_true hk,decide_eq_true ho,decide_eq_true (show d_i l (j:Int) =0 by omega)];rfl
     · rw[hF];simp only;rw[decide_eq_false (show ¬d_i l (j:Int) =0 by omega),Bool.and_false,Bool.false_and]
   refine ht.load (j:=0) rfl c_int rfl ⟨(j:Int),rfl,trivial,_,_,_,rfl,_,a_d h,c0,c_8 h1,(hc s).secs.load (a_g hx) a_x rfl ⟨x.Kind,rfl,bce (fun hk=>bce (fun ho=>tail hk (.inl ho)) (fun ho=>bce (fun ho1=>tail hk (.inr ho1)) (fun ho1=>⟨?_,rfl⟩))) (fun hk=>⟨?_,rfl⟩)⟩⟩
   · rw[hF];simp only;rw[decide_eq_false (show ¬(t.Out=0\/t.Out=1) from fun g=>g.elim ho ho1),Bool.and_false,Bool.false_and,Bool.false_and]
   · rw[hF];simp only;rw[decide_eq_false hk,Bool.false_and,Bool.false_and,Bool.false_and]
theorem a_ow (k i p:Int) :Pure prog k_1 [iA k,iA i,iA p] σ (opt1 (e_e k i p)):=by
 refine Pure.of (a_rr k i p σ _ ((o_r k).mono ?_)) ?_
 rotate_left
 · cases e_e k i p with
   | none=>exact .tup [iD 0, .bool false] (by intro d hd;simp at hd;rcases hd with rfl | rfl;exact .int _ _;exact .bool _)
   | some x=>exact .tup [iD x, .bool true] (by intro d hd;simp at hd;rcases hd with rfl | rfl;exact .int _ _;exact .bool _)
 rintro r s ⟨rfl,d,rfl,hd⟩
 have hat:=hd s
 have hwl:=n_g k
 refine ⟨_,rfl,hat.lenK ⟨fun n s'=>s'=s/\Rng (d_5 k) (fun r=>q_5 r i p=e_e k i p) n,fun n _=>(d_5 k).length - n.toNat,⟨rfl, .start rfl⟩,?_⟩⟩
 rintro n s' ⟨rfl,hr⟩
 refine bcd (fun hlt=>?_) (fun hge=>?_)
 · obtain ⟨j,w,rfl,hw,hj,hE,nx⟩:=hr.step (by simp) hwl hlt
   refine hat.load (a_g hw) i_u rfl ⟨w.1,w.2.1,w.2.2,rfl,(y_5 w.1 w.2.1 w.2.2 i).mono ?_⟩
   rintro r s2 ⟨rfl,rfl⟩
   rw[q_5] at hE
   have next:q_5 ((d_5 k).drop (j+1)) i p=e_e k i p->(s2=s2/\Rng (d_5 k) (fun r=>q_5 r i p=e_e k i p) (w64 ((j:Int) +1)))/\(d_5 k).length - (w64 ((j:Int) +1)).toNat < (d_5 k).length - ((j:Int)).toNat:=fun h=>by
     have:=nx (fun r=>q_5 r i p=e_e k i p) h
     exact ⟨⟨rfl,this.1⟩,this.2⟩
   cases ho:(if i=w.1 then some w.2.1 else if i=w.2.1 then some w.1 else none:Option Int) with
   | none=>
     rw[ho] at hE
     exact ⟨0,false,rfl,bc (fun e=>by cases e) (fun _=>next hE)⟩
   | some o=>
     rw[ho] at hE
     simp only at hE
     refine ⟨o,true,rfl,bc (fun _=>bce (fun h0=>?_) (fun h0=>bce (fun h1=>?_) (fun h1=>next ?_))) (fun e=>by cases e)⟩
     · rw[if_pos (.inl h0)] at hE;rw[<-hE];exact ⟨rfl, .refl _⟩
     · rw[if_pos (.inr h1)] at hE;rw[<-hE];exact ⟨rfl, .refl _⟩
     · rw[if_neg (fun g=>g.elim h0 h1)] at hE;exact hE
 · have:=hr.done (by simp) hge
   rw[q_5] at this
   rw[<-this];exact ⟨rfl, .refl _⟩
end
section
variable {σ σ0:Store}
structure PL where
 i:Nat
 j:Nat
 h0:D
 h1:D
 h2:D
 h3:D
 lost:Int
 num:Int
structure YL where
 mp:Nat
 clk:Nat
 es:List Ent
 c0:D
 c1:D
 c2:D
 c3:D
 c4:D
 p:Nat
 g:Nat
 l:Nat
 po:Nat
 poJ:List (List D)
 ps:List PL
 trd:Option (Nat × List (List D))
 tk:List (Nat × List (List D))
def n_4 (k:Int × Int) :A:= .agg [iD k.1,iD k.2]
def g_e (x:PL × Pst) :Nat × SO:=(x.1.i, .live d_j [[pO x.1.j,x.1.h0,x.1.h1,x.1.h2,x.1.h3,iD x.2.Stamp]])
def l_0 (x:PL × Pst) :Nat × SO:=(x.1.j, .live b_o [[iD x.2.R.Last,iD x.1.lost,iD x.1.num,iD x.2.R.Peer,iD x.2.R.Age]])
def tkE (x:(Nat × List (List D)) × Tr) :Nat × SO:=(x.1.1, .live a_e (x.2.Secs.map Go.Fw.encI ++ x.1.2))
def a_z (x:(Nat × List (List D)) × Tr) :List D:= [.osl x.1.1 0 x.2.Secs.length,iD x.2.Out]
def trE (L:YL)(y:Yd) :List (Nat × SO):=match L.trd with
 | none=> []
 | some x=> [(x.1, .live a_m ((L.tk.zip y.Trs).map a_z ++ x.2))]
def trD (L:YL)(n:Nat) :D:=match L.trd with
 | none=> .nils
 | some x=> .osl x.1 0 n
def g_q (L:YL)(y:Yd) :List D:=
 [.omap L.mp,L.c0,L.c1,L.c2,L.c3,L.c4,iD y.C.Age,iD y.C.Brake,iD y.C.Hold,iD y.C.Budget, .osl L.p 0 y.Pts.length, .osl L.g 0 y.Gts.length, .osl L.l 0 y.Lps.length, .osl L.po 0 y.Psts.length,trD L y.Trs.length,iD y.Now]
def b_i (id:Nat)(L:YL)(y:Yd) :List (Nat × SO):=
 [(id, .live a_y [g_q L y]),(L.mp, .mp L.clk L.es),(L.p, .live a_l (y.Pts.map Th.enc)),(L.g, .live a_l (y.Gts.map Th.enc)),(L.l, .live b_c (y.Lps.map Lp.enc)),
   (L.po, .live b_5 (L.ps.map (fun x=> [pO x.i]) ++ L.poJ))]
def b_8 (id:Nat)(L:YL)(y:Yd)(fr:List (Nat × SO)) :List (Nat × SO):=
 b_i id L y ++ ((L.ps.zip y.Psts).map g_e ++ ((L.ps.zip y.Psts).map l_0 ++ (trE L y ++ ((L.tk.zip y.Trs).map tkE ++ fr))))
structure YdIn (s:Store) (id:Nat) (L:YL) (y:Yd) (fr:List (Nat × SO)) :Prop where
 heap:Heap s (b_8 id L y fr)
 cfg:∀s,CfAt s L.c0 L.c1 L.c2 L.c3 L.c4 y.C
 keys:f_l prog j_k L.es
 flt:∀k,(b_e (n_4 k) L.es).getD (bA false) =bA (y.Flt k)
 psl:L.ps.length=y.Psts.length
 sh:∀(k:Nat) pl p,L.ps[k]? =some pl->y.Psts[k]? =some p->ShFz pl.h0 pl.h1 pl.h2 pl.h3 p.H
 tkl:L.tk.length=y.Trs.length
 trn:L.trd=none->y.Trs=[]
structure Ywf (y:Yd) (N:Nat) :Prop where
 chk:y.C.check=0
 pts:y.Pts.length=y.C.Secs.length
 gts:y.Gts.length=y.C.Xs.length
 lps:y.Lps.length=y.C.Sigs.length
 psts:y.Psts.length=4
 pst:∀(k:Nat) p,y.Psts[k]? =some p->p.H=y.C.shape k/\p.R.Peer=(k:Int) +50/\p.R.Age=y.C.Age/\-1<=p.Stamp/\p.Stamp<=4294967296
 trs:y.Trs.length<=4
 tr:∀t ∈ y.Trs,t.Secs≠[]/\t.Secs.length<=N/\∀s ∈ t.Secs,∃x,a_n y.C.Secs s=some x
 now:0<=y.Now/\y.Now<=9223372036854775807
 last:∀l ∈ y.Lps,-1<=l.Last/\l.Last<=9223372036854775807
 left:∀x ∈ y.Pts ++ y.Gts,0<=x.Left/\x.Left<=2
theorem c_m {c:Cf}(h:c.check=0) :c.Secs.length<=16/\c.Jts.length<=24/\c.Sigs.length<=12/\c.Xs.length<=4:=by
 obtain ⟨h1,h2,h3,_⟩:=h_m h
 unfold c_s at h1
 unfold Cf.sigsOk at h2
 unfold Cf.xsOk at h3
 simp only[zO,decide_eq_true_eq] at h1 h2 h3
 exact ⟨h1.1.2.1,h1.1.2.2,h2.2,h3.2⟩
theorem a_s6 {tk:List (Int × Int)} :∀(l:List Sec) (i:Int) (ls:List Int),q_d tk l i ls=true->∀s ∈ l,0<=s.OC/\s.OC<=3
 | [],_,_,_,s,hs=>by cases hs
 | x::r,i,ls,h,s,hs=>by
   unfold q_d at h
   split at h
   · cases h
   · rename_i hc
     rcases List.mem_cons.1 hs with rfl | hs
     · exact Classical.byContradiction fun hn=>hc (.inr (.inl hn))
     · exact a_s6 r _ _ h s hs
theorem a_up {c:Cf}(h:c.check=0){s:Sec}(hs:s ∈ c.Secs) :0<=s.OC/\s.OC<=3:=by
 have h1:=(h_m h).1
 unfold c_s at h1
 simp only[zO] at h1
 have h2:=h1.2
 split at h2
 · cases h2
 · exact a_s6 _ _ _ h2 s hs
section
variable {s:Store} {id:Nat} {L:YL} {y:Yd} {fr:List (Nat × SO)} {N:Nat}
theorem YdIn.ext (h:YdIn s id L y fr){s':Store}(he:Ext s s') :YdIn s' id L y fr:=⟨h.heap.ext he,h.cfg,h.keys,h.flt,h.psl,h.sh,h.tkl,h.trn⟩
theorem YdIn.base (h:YdIn s id L y fr){x:Nat × SO}(hx:x ∈ b_i id L y) :s x.1=x.2:=h.heap.get (zE _ hx)
theorem YdIn.row (h:YdIn s id L y fr) :s id= .live a_y [g_q L y]:=h.base (x:=(id,_)) (by simp[b_i])
theorem YdIn.mp (h:YdIn s id L y fr) :s L.mp= .mp L.clk L.es:=h.base (x:=(L.mp,_)) (by simp[b_i])
theorem YdIn.pts (h:YdIn s id L y fr) :s L.p= .live a_l (y.Pts.map Th.enc):=h.base (x:=(L.p,_)) (by simp[b_i])
theorem YdIn.gts (h:YdIn s id L y fr) :s L.g= .live a_l (y.Gts.map Th.enc):=h.base (x:=(L.g,_)) (by simp[b_i])
theorem YdIn.lps (h:YdIn s id L y fr) :s L.l= .live b_c (y.Lps.map Lp.enc):=h.base (x:=(L.l,_)) (by simp[b_i])
theorem YdIn.pos (h:YdIn s id L y fr) :s L.po= .live b_5 (L.ps.map (fun x=> [pO x.i]) ++ L.poJ):=h.base (x:=(L.po,_)) (by simp[b_i])
theorem YdIn.post (h:YdIn s id L y fr){k:Nat}{pl:PL}{p:Pst}(h1:L.ps[k]? =some pl)(h2:y.Psts[k]? =some p) :s pl.i= .live d_j [[pO pl.j,pl.h0,pl.h1,pl.h2,pl.h3,iD p.Stamp]]:=
 h.heap.get (i:=pl.i) (zD _ (zE _ (List.mem_map.2 ⟨(pl,p),zC (c_d h1 h2),rfl⟩)))
theorem YdIn.rcv (h:YdIn s id L y fr){k:Nat}{pl:PL}{p:Pst}(h1:L.ps[k]? =some pl)(h2:y.Psts[k]? =some p) :s pl.j= .live b_o [[iD p.R.Last,iD pl.lost,iD pl.num,iD p.R.Peer,iD p.R.Age]]:=
 h.heap.get (i:=pl.j) (zD _ (zD _ (zE _ (List.mem_map.2 ⟨(pl,p),zC (c_d h1 h2),rfl⟩))))
theorem YdIn.tk (h:YdIn s id L y fr){k:Nat}{x:Nat × List (List D)}{t:Tr}(h1:L.tk[k]? =some x)(h2:y.Trs[k]? =some t) :s x.1= .live a_e (t.Secs.map Go.Fw.encI ++ x.2):=
 h.heap.get (i:=x.1) (zD _ (zD _ (zD _ (zD _ (zE _ (List.mem_map.2 ⟨(x,t),zC (c_d h1 h2),rfl⟩))))))
theorem YdIn.trd (h:YdIn s id L y fr){x:Nat × List (List D)}(h1:L.trd=some x) :s x.1= .live a_m ((L.tk.zip y.Trs).map a_z ++ x.2):=
 h.heap.get (i:=x.1) (zD _ (zD _ (zD _ (zE _ (by unfold trE;rw[h1];simp)))))
theorem o_p {P:Program}{s:Store}{t:TypeId}{i n:Nat}{rows J:List (List D)}(hs:s i= .live t (rows ++ J))(hn:n=rows.length)(hsz:rows.length < 2 ^ 60) :At P s t (.osl i 0 n) rows:=
 ⟨⟨t,rows ++ J,hs,rfl,by simp;omega,by subst hn;simp⟩,hsz,fun es rows e=>by cases e⟩
theorem YdIn.ptsAt (h:YdIn s id L y fr)(hw:Ywf y N) :At prog s a_l (.osl L.p 0 y.Pts.length) (y.Pts.map Th.enc):=by
 have:=c_m hw.chk
 exact At.fresh h.pts (by simp;have:=hw.pts;omega) (by simp)
theorem YdIn.gtsAt (h:YdIn s id L y fr)(hw:Ywf y N) :At prog s a_l (.osl L.g 0 y.Gts.length) (y.Gts.map Th.enc):=by
 have:=c_m hw.chk
 exact At.fresh h.gts (by simp;have:=hw.gts;omega) (by simp)
theorem YdIn.lpsAt (h:YdIn s id L y fr)(hw:Ywf y N) :At prog s b_c (.osl L.l 0 y.Lps.length) (y.Lps.map Lp.enc):=by
 have:=c_m hw.chk
 exact At.fresh h.lps (by simp;have:=hw.lps;omega) (by simp)
theorem YdIn.posAt (h:YdIn s id L y fr)(hw:Ywf y N) :At prog s b_5 (.osl L.po 0 y.Psts.length) (L.ps.map fun x=> [pO x.i]):=o_p h.pos (by simp[h.psl]) (by simp[h.psl,hw.psts])
theorem YdIn.tkAt (h:YdIn s id L y fr){k:Nat}{x:Nat × List (List D)}{t:Tr}(h1:L.tk[k]? =some x)(h2:y.Trs[k]? =some t)(hl:t.Secs.length < 2 ^ 60) :At prog s a_e (.osl x.1 0 t.Secs.length) (t.Secs.map Go.Fw.encI):=
 o_p (h.tk h1 h2) (by simp) (by simpa using hl)
theorem YdIn.trAt (h:YdIn s id L y fr)(hw:Ywf y N) :At prog s a_m (trD L y.Trs.length) ((L.tk.zip y.Trs).map a_z):=by
 unfold trD
 cases ht:L.trd with
 | none=>
   have:=h.trn ht
   rw[this];simp only[List.zip_nil_right,List.map_nil];exact .nil
 | some x=>exact o_p (h.trd ht) (by simp[h.tkl]) (by simp;have:=hw.trs;omega)
theorem YdIn.trsAt (h:YdIn s id L y fr)(hw:Ywf y N)(hN:N<=2 ^ 45) :p_d s (trD L y.Trs.length) y.Trs:=by
 refine ⟨_,h.trAt hw,by simp[h.tkl],fun k row t hr ht=>?_⟩
 rw[zL] at hr
 obtain ⟨x,hx⟩:=a_c (l:=L.tk) (j:=k) (by rw[h.tkl];exact (zA.1 ht).1)
 rw[c_d hx ht] at hr
 injection hr with hr
 subst hr
 have:=(hw.tr t (zC ht)).2.1
 exact ⟨_,rfl,h.tkAt hx ht (by show t.Secs.length < 2 ^ 60;omega)⟩
theorem YdIn.there (h:YdIn s id L y fr)(hw:Ywf y N)(hN:N<=2 ^ 45)(n:Int) :Pure prog b_j [.one (pO id),iA n] s (.a (iA (y.there n))):=
 u_b h.row rfl (h.trsAt hw hN) (by have:=hw.trs;omega) (fun t ht=>Nat.le_trans (hw.tr t ht).2.1 hN) n
theorem YdIn.signal (h:YdIn s id L y fr)(a e:Int) :Pure prog c_x [.one (pO id),iA a,iA e] s (.a (iA (y.C.sigAt a e))):=p_3 h.row rfl h.cfg a e
theorem YdIn.stands (h:YdIn s id L y fr)(a e:Int) :Pure prog c_a [.one (pO id),iA a,iA e] s (.a (bA (y.C.stands a e))):=q_7 h.row rfl rfl h.cfg a e
theorem YdIn.fault (h:YdIn s id L y fr)(k n:Int) :Pure prog b_f [.one (pO id),iA k,iA n] s (.a (bA (y.Flt (k,n)))):=by
 refine j_3 (pO id) k n s _ ⟨trivial,_,_,_,rfl,_,a_d h.row, .omap L.mp,rfl,b_e (n_4 (k,n)) L.es,⟨by kernel_rfl, .inr ⟨L.mp,L.clk,L.es,rfl,h.mp,h.keys,rfl⟩⟩,y.Flt (k,n),h.flt (k,n),rfl,rfl⟩
theorem f_h {s:Store}{i n j:Nat}{l:List Th}{x:Th}(h:At prog s a_l (.osl i 0 n) (l.map Th.enc))(hx:l[j]? =some x) :Pure prog b_y [.one (.el (.osl i 0 n) j 0)] s (.a (bA (decide (x.Left > 0)))):=
 u_m _ s _ ⟨trivial,_,_,_,rfl,_,h.row (a_g hx),x.Left,rfl,rfl,rfl⟩
theorem YdIn.wayAt (h:YdIn s id L y fr)(hw:Ywf y N){s2:Store}(e1:s2 id=s id)(e2:s2 L.p=s L.p){a:Int}{sec:Sec}(ha:a_n y.C.Secs a=some sec)(i:Int) :Pure prog d_a [.one (pO id),iA a,iA i] s2 (.a (iA (y.way a i))):=by
 obtain ⟨h0,h1,h2⟩:=b_w ha
 obtain ⟨j,rfl⟩:=zI h0
 rw[zF] at h2
 obtain ⟨x,hx⟩:=a_c (l:=y.Pts) (j:=j) (by have:=hw.pts;omega)
 have hl16:=c_m hw.chk
 have hrow:s2 id= .live a_y [g_q L y]:=e1.trans h.row
 have hP:At prog s2 a_l (.osl L.p 0 y.Pts.length) (y.Pts.map Th.enc):=At.fresh (e2.trans h.pts) (by simp;have:=hw.pts;omega) (by simp)
 have hpos:y.pos (j:Int) =if x.Left > 0 then 0 else x.At:=by unfold Yd.pos;rw[a_1,hx];rfl
 have hway:y.way (j:Int) i=(e_e sec.Kind i (y.pos (j:Int))).getD (-1):=by unfold Yd.way;rw[ha];rfl
 have fin:∀p,y.pos (j:Int) =p->DCalls prog k_1 [iA sec.Kind,iA i,iA p] s2 fun r s'=>∃n2:Int,∃b1:Bool,(r= .tup [iA n2,bA b1])/\a_b (!b1) (RV.a (iA (-1)) = .a (iA (y.way (j:Int) i))/\s'=s2) (RV.a (iA n2) = .a (iA (y.way (j:Int) i))/\s'=s2):=by
   rintro p rfl
   refine (a_ow _ _ _).mono ?_
   rintro r s' ⟨rfl,rfl⟩
   rw[hway]
   cases e_e sec.Kind i (y.pos (j:Int)) with
   | none=>exact ⟨0,false,rfl,a_0 (fun _=>⟨rfl,rfl⟩) (fun e=>by cases e)⟩
   | some o=>exact ⟨o,true,rfl,a_0 (fun e=>by cases e) (fun _=>⟨rfl,rfl⟩)⟩
 refine a_cq (pO id) j i s2 _ ⟨trivial,_,_,_,rfl,_,a_d hrow,_,rfl,hP.load (a_g hx) b_9 rfl ⟨x.At,rfl,trivial,_,_,_,rfl,_,a_d hrow,_,rfl,hP.idxK b_9 rfl (by simpa using (zA.1 hx).1) ?_⟩⟩
 rw[zF]
 refine (f_h hP hx).use ⟨_,rfl,bcd (fun hm=>?_) (fun hm=>?_)⟩
 · exact ⟨trivial,_,_,_,rfl,_,a_d hrow,_,rfl,(h.cfg s2).secs.load (a_g h2) a_x rfl ⟨sec.Kind,rfl,fin 0 (by rw[hpos,if_pos hm])⟩⟩
 · exact ⟨trivial,_,_,_,rfl,_,a_d hrow,_,rfl,(h.cfg s2).secs.load (a_g h2) a_x rfl ⟨sec.Kind,rfl,fin x.At (by rw[hpos,if_neg hm])⟩⟩
theorem YdIn.way (h:YdIn s id L y fr)(hw:Ywf y N){a:Int}{sec:Sec}(ha:a_n y.C.Secs a=some sec)(i:Int) :Pure prog d_a [.one (pO id),iA a,iA i] s (.a (iA (y.way a i))):=h.wayAt hw rfl rfl ha i
theorem YdIn.shut (h:YdIn s id L y fr)(hw:Ywf y N){j:Nat}{x:Th}(hx:y.Gts[j]? =some x) :Pure prog g_b [.one (pO id),iA j] s (.a (bA (y.shut j))):=by
 have hG:=h.gtsAt hw
 have hsh:y.shut (j:Int) =(decide (¬x.Left > 0) && decide (x.At=1)):=by unfold Yd.shut;rw[a_1,hx];rfl
 refine a_ah (pO id) j s _ ⟨trivial,_,_,_,rfl,_,a_d h.row,_,rfl,hG.idxK b_9 rfl (by simpa using (zA.1 hx).1) ?_⟩
 rw[zF]
 refine (f_h hG hx).use ⟨_,rfl,?_⟩
 rw[hsh]
 refine a_0 (fun hm=>⟨trivial,_,_,_,rfl,_,a_d h.row,_,rfl,hG.load (a_g hx) b_9 rfl ⟨x.At,rfl,?_,rfl⟩⟩) (fun hm=>⟨?_,rfl⟩)
 · have hm:=of_decide_eq_false hm
   rw[decide_eq_true hm,Bool.true_and];rfl
 · have hm:=zM hm
   rw[decide_eq_false (by simpa using hm),Bool.false_and]
theorem YdIn.train (h:YdIn s id L y fr)(hw:Ywf y N)(t:Int) :Pure prog c_k [.one (pO id),iA t] s (.a (.one (if 0<=t/\t < y.Trs.length then .el (trD L y.Trs.length) t.toNat 0 else .nilp))):=by
 have hT:=h.trAt hw
 have hl:((L.tk.zip y.Trs).map a_z).length=y.Trs.length:=by simp[h.tkl]
 refine y_n (pO id) t s _ (bcd (fun h0=>⟨by rw[if_neg (by omega)],rfl⟩) (fun h0=>⟨trivial,_,_,_,rfl,_,a_d h.row,_,rfl,hT.lenK ?_⟩))
 rw[hl]
 refine bcd (fun h1=>⟨by rw[if_neg (by omega)],rfl⟩) (fun h1=>⟨trivial,_,_,_,rfl,_,a_d h.row,_,rfl,hT.idxK (j:=t.toNat) b_4 (by omega) (by rw[hl];omega) ⟨by rw[if_pos (by omega)],rfl⟩⟩)
theorem YdIn.shows (h:YdIn s id L y fr)(hw:Ywf y N)(x:Int) :Pure prog e_b [.one (pO id),iA x] s (.a (iA (y.shows x))):=by
 have hLp:=h.lpsAt hw
 have hPo:=h.posAt hw
 refine x_z (pO id) x s _ ?_
 intro R hR
 refine bcd (fun h0=>⟨by unfold Yd.shows;rw[a_5 h0],rfl⟩) (fun h0=>⟨trivial,_,_,_,rfl,_,a_d h.row,_,rfl,hLp.lenK ?_⟩)
 rw[zB]
 refine bcd (fun h1=>⟨by unfold Yd.shows;rw[b_u h1],rfl⟩) (fun h1=>hR s ?_)
 obtain ⟨j,rfl⟩:=zI (show 0<=x by omega)
 obtain ⟨l,hl⟩:=a_c (l:=y.Lps) (j:=j) (by omega)
 obtain ⟨g,hg⟩:=a_c (l:=y.C.Sigs) (j:=j) (by have:=hw.lps;omega)
 obtain ⟨sec,hsec⟩:=a_sr hw.chk (zC hg)
 obtain ⟨q0,q1,q2⟩:=b_w hsec
 have hoc:=a_up hw.chk (zC q2)
 obtain ⟨oc,hoce⟩:=zI hoc.1
 obtain ⟨p,hp⟩:=a_c (l:=y.Psts) (j:=oc) (by rw[hw.psts];omega)
 obtain ⟨pl,hpl⟩:=a_c (l:=L.ps) (j:=oc) (by rw[h.psl,hw.psts];omega)
 have hpw:=hw.pst oc p hp
 have hnow:=hw.now
 have hpost:=h.post hpl hp
 have hsh:y.shows (j:Int) =if p.Stamp < 0\/y.Now - p.Stamp > y.C.Age then 0 else l.Asp:=by
   unfold Yd.shows
   rw[a_1,hl,a_1,hg]
   simp only[hsec,hoce,a_1,hp]
 have hgj:(y.C.Secs.map Sec.enc)[g.Sec.toNat]? =some sec.enc:=a_g q2
 refine ⟨trivial,_,_,_,rfl,_,a_d h.row,_,rfl,trivial,_,_,_,rfl,_,a_d h.row,_,rfl,trivial,_,_,_,rfl,_,a_d h.row,_,rfl,(h.cfg s).sigs.load (a_g hg) d_b rfl ⟨g.Sec,rfl,(h.cfg s).secs.load (j:=g.Sec.toNat) hgj a_x (by omega) ⟨sec.OC,rfl,?_⟩⟩⟩
 rw[hoce]
 refine hPo.load (a_g (f:=fun x:PL=> [pO x.i]) hpl) m_v rfl ⟨pO pl.i,rfl,trivial,_,_,_,rfl,_,a_d hpost,p.Stamp,rfl,bcd (fun hs=>⟨by rw[hsh,if_pos (.inl hs)],rfl⟩) (fun hs=>⟨trivial,_,_,_,rfl,_,a_d h.row,y.Now,rfl,trivial,_,_,_,rfl,_,a_d hpost,p.Stamp,rfl,trivial,_,_,_,rfl,_,a_d h.row,y.C.Age,rfl,?_⟩)⟩
 rw[a_r (by omega) (by omega)]
 refine bcd (fun ha=>⟨by rw[hsh,if_pos (.inr ha)],rfl⟩) (fun ha=>⟨trivial,_,_,_,rfl,_,a_d h.row,_,rfl,hLp.load (a_g hl) h_r rfl ⟨l.Asp,rfl,by rw[hsh,if_neg (fun g=>g.elim hs ha)],rfl⟩⟩)
end
end
section
variable {σ σ0:Store}
theorem a_mx {s:Store}{el el':TypeId}{d d':D}{rs rs':List (List D)}(h:At prog s el d rs)(h':At prog s el' d' rs')(hc:prog.cellsOf el≠prog.cellsOf el') :Apart d d':=by
 intro i h1 h2
 cases d with
 | osl j a n=>
   have:j=i:=by simpa[h_c] using h1
   subst this
   cases d' with
   | osl j' a' n'=>
     have:j'=j:=by simpa[h_c] using h2
     subst this
     obtain ⟨t,rows,g1,g2,_⟩:=h.rows
     obtain ⟨t',rows',g3,g4,_⟩:=h'.rows
     rw[g1] at g3
     injection g3 with g3 _
     rw[<-g3] at g4
     exact hc (g2.symm.trans g4)
   | _=>simp[h_c] at h2
 | _=>simp[h_c] at h1
def TrsOwn (σ0 s:Store)(d:D)(l:List Tr) :Prop:=∃rows,Own prog σ0 s a_m d rows/\rows.length=l.length/\
 ∀(k:Nat) row t,rows[k]? =some row->l[k]? =some t->∃e,row=[e,iD t.Out]/\Own prog σ0 s a_e e (t.Secs.map Go.Fw.encI)
theorem TrsOwn.nil {s:Store}(he:Ext σ0 s) :TrsOwn σ0 s .nils []:=⟨[], .nil _ he,rfl,fun k row t h=>by simp at h⟩
theorem TrsOwn.ext' {s s':Store}{d:D}{l:List Tr}(h:TrsOwn σ0 s d l)(he:Ext s s') :TrsOwn σ0 s' d l:=by
 obtain ⟨rows,h1,h2,h3⟩:=h
 exact ⟨rows,h1.ext' he,h2,fun k row t a b=>by obtain ⟨e,e1,e2⟩:=h3 k row t a b;exact ⟨e,e1,e2.ext' he⟩⟩
theorem TrsOwn.push {s s1:Store}{d e:D}{l:List Tr}{t:Tr}(h:TrsOwn σ0 s d l)(he:Own prog s s1 a_e e (t.Secs.map Go.Fw.encI))(hl:32 * l.length<=140737488351232){K:D->Store->Prop}(hK:∀d' s',TrsOwn σ0 s' d' (l ++ [t])->K d' s') :
   Fw.newObj s1 (.live a_m [[e,iD t.Out]]) fun id s2=>a_j prog s2 a_m 32 d (.osl id 0 1) K:=by
 refine a_f fun id s2 hid _ he2 hs2=>?_
 obtain ⟨rows,h1,h2,h3⟩:=(h.ext' he.ext).ext' he2
 have he':Own prog σ0 s2 a_e e (t.Secs.map Go.Fw.encI):=(he.from (by obtain ⟨rows,h1,_⟩:=h;exact h1.ext)).ext' he2
 refine h1.append (At.fresh hs2 (by simp) rfl) (by simp;omega) (by simp;omega) fun d' s' ho g1 g2=>hK d' s' ⟨rows ++ [[e,iD t.Out]],ho,by simp[h2],fun k row t' a b=>?_⟩
 have keep:∀{x:D} {rs:List (List D)},Own prog σ0 s2 a_e x rs->Own prog σ0 s' a_e x rs:=fun {x rs} hx=>
   hx.stay (d:=d) (fun i hi hd=>g1 i hi fun a b e=>hd (by rw[e];rfl)) (a_mx hx.at_ h1.at_ (by rw[c_int,b_4];decide)) ho.ext
 by_cases hk:k < rows.length
 · rw[zJ hk] at a
   rw[zJ (by omega)] at b
   obtain ⟨e',e1,e2⟩:=h3 k row t' a b
   exact ⟨e',e1,keep e2⟩
 · have hkk : k = rows.length := by
     have:=(zA.1 a).1
     simp at this;omega
   subst hkk
   rw[zN (by omega),Nat.sub_self] at a
   rw[zN (by omega),show rows.length - l.length=0 by omega] at b
   injection a with a;injection b with b
   subst a b
   exact ⟨e,rfl,keep he'⟩
theorem a_ol {s:Store}(he:Ext σ0 s) :∀(rows:List (List D)) (l:List Tr),rows.length=l.length->(∀(k:Nat) row t,rows[k]? =some row->l[k]? =some t->∃e,row=[e,iD t.Out]/\Own prog σ0 s a_e e (t.Secs.map Go.Fw.encI))->
   ∃rows':List (List D),rows'.length=rows.length/\(∀(k:Nat) row row',rows[k]? =some row->rows'[k]? =some row'->FzL prog s (fun i=>σ0 i≠ .free) row row')/\
     ∀(k:Nat) row' t,rows'[k]? =some row'->l[k]? =some t->∃e,row'=[e,iD t.Out]/\∀s,At prog s a_e e (t.Secs.map Go.Fw.encI)
 | [],l,hl,h=>⟨[],rfl,fun k row row' a=>by simp at a,fun k row' t a=>by simp at a⟩
 | r::rows,[],hl,h=>by simp at hl
 | r::rows,t::l,hl,h=>by
   obtain ⟨rows',q1,q2,q3⟩:=a_ol he rows l (by simpa using hl) (fun k row t a b=>h (k+1) row t (by simpa using a) (by simpa using b))
   obtain ⟨e,rfl,ho⟩:=h 0 r t rfl rfl
   obtain ⟨e',f1,f2⟩:=b_s ho.at_ he ho.new (g_c _)
   refine ⟨[e',iD t.Out]::rows',by simp[q1],fun k row row' a b=>?_,fun k row' t' a b=>?_⟩
   · rcases k with _ | k
     · simp at a b;subst a b;exact .cons f1 (.cons (.int _ _) .nil)
     · exact q2 k row row' (by simpa using a) (by simpa using b)
   · rcases k with _ | k
     · simp at a b;subst a b;exact ⟨e',rfl,f2⟩
     · exact q3 k row' t' (by simpa using a) (by simpa using b)
theorem TrsOwn.ret {s:Store}{d:D}{l:List Tr}(h:TrsOwn σ0 s d l) :∃d',Fz prog s (fun i=>σ0 i≠ .free) d d'/\∀s,p_d s d' l:=by
 obtain ⟨rows,h1,h2,h3⟩:=h
 obtain ⟨rows',q1,q2,q3⟩:=a_ol h1.ext rows l h2 h3
 have hr:=h1.at_.rows
 have hsz:=h1.at_.size
 have hn:=h1.new
 have hnl:=h1.nsl
 have hnz:=h1.nz
 cases d with
 | nils=>
   have:rows=[]:=hr
   subst this
   exact ⟨.nils, .nils,fun s=>⟨[], .nil,h2,fun k row t a=>by simp at a⟩⟩
 | zsl=>exact absurd rfl hnz
 | sl es rs=>exact absurd trivial hnl
 | osl i a n=>
   obtain ⟨t,full,g1,g2,g3,g4⟩:=hr
   have hrl:rows.length=n:=by rw[g4];simp;omega
   have key:∀(j:Nat) row,full[a+j]? =some row->j < n->rows[j]? =some row:=fun j row hj hlt=>by
     rw[g4,List.getElem?_take_of_lt hlt,List.getElem?_drop];exact hj
   refine ⟨.sl (prog.cellsOf t) rows', .osl i a n t full rows' (fun hc=>hc (hn _ _ _ rfl)) g1 g3 (by omega) (fun j row row' x y=>?_) (fun j row row' m d d' x y z w=>?_),fun s=>⟨rows',⟨⟨rfl, .inr g2⟩,by omega,fun es rs e=>?_⟩,by omega,fun k row t a b=>?_⟩⟩
   · have hj:=(zA.1 y).1
     exact (q2 j row row' (key j row x (by omega)) y).1
   · have hj:=(zA.1 y).1
     exact (q2 j row row' (key j row x (by omega)) y).2 m d d' z w
   · rw[<-(D.sl.inj e).1];exact g2
   · obtain ⟨e,e1,e2⟩:=q3 k row t a b
     exact ⟨e,e1,e2 s⟩
 | _=>exact hr.elim
def a_sn (σ:Store)(l:List Tr)(r:RV)(s:Store) :Prop:=s=σ/\∃d,r= .a (.one d)/\∀s,p_d s d l
theorem a_cl {d:D}{l:List Tr}(h:∀s,p_d s d l)(hs:∀t ∈ l,8 * t.Secs.length<=140737488351232)(hl:32 * l.length<=140737488351232) :DCalls prog i_b [.one d] σ (a_sn σ l):=by
 have key:DCalls prog i_b [.one d] σ fun r s=>∃d',r= .a (.one d')/\TrsOwn σ s d' l:=by
   obtain ⟨rows0,hat0,hrl0,_⟩:=h σ
   refine a_fh d σ _ (hat0.lenK ⟨fun d1 n s=>∃j:Nat,n=j/\j<=l.length/\TrsOwn σ s d1 (l.take j),fun _ n _=>l.length - n.toNat,⟨0,rfl,by omega, .nil (.refl _)⟩,?_⟩)
   rw[hrl0]
   rintro d1 _ s ⟨j,rfl,hj,ho⟩
   refine bcd (fun hlt=>?_) (fun hge=>?_)
   · have hlt:j < l.length:=by omega
     obtain ⟨rows,hat,hrl,hrow⟩:=h s
     obtain ⟨t,ht⟩:=a_c (l:=l) (j:=j) hlt
     obtain ⟨r,hr⟩:=a_c (l:=rows) (j:=j) (by omega)
     obtain ⟨e,rfl,hae⟩:=hrow j r t hr ht
     have hts:=hs t (zC ht)
     refine hat.load hr b_4 rfl ⟨e,t.Out,rfl,a_kw hae (by simp;omega) fun e' s1 hoe=>ho.push hoe (by simp;omega) fun d' s' ho'=>?_⟩
     rw[a_i (by omega)]
     exact ⟨⟨j+1,rfl,hlt,by rw[zQ,ht,Option.toList_some];exact ho'⟩,a_v hlt⟩
   · have e:j=l.length:=by omega
     subst e
     rw[zT] at ho
     exact ⟨_,rfl,ho⟩
 refine key.ret ?_
 rintro r s ⟨d',rfl,ho⟩
 obtain ⟨d2,f1,f2⟩:=ho.ret
 have he:Ext σ s:=by obtain ⟨rows,h1,_⟩:=ho;exact h1.ext
 exact ⟨.a (.one d2),σ, .pure he f1,rfl,d2,rfl,f2⟩
structure HtIn (σ0 s:Store) (oid:Nat) (l:List Ht) :Prop where
 new:σ0 oid= .free
 cell:∃d,s oid= .live x_1 [[d]]/\Own prog σ0 s j_k d (l.map Ht.enc)
theorem HtIn.ext {s:Store}{oid:Nat}{l:List Ht}(h:HtIn σ0 s oid l) :Ext σ0 s:=by obtain ⟨d,_,h⟩:=h.cell;exact h.ext
theorem h_3 {s:Store}{oid:Nat}{l:List Ht}(h:HtIn σ0 s oid l)(hl:l.length<=2 ^ 40)(w:Bool)(k n:Int) :
   DCalls prog a_7 [bA w,iA k,iA n, .one (pO oid)] s fun r s'=>r= .tup []/\HtIn σ0 s' oid (l ++ if w=true then [⟨k,n⟩] else []):=by
 have hI:=h
 obtain ⟨hn,d,h1,h2⟩:=h
 refine u_t w k n (pO oid) s _ (bc (fun hw=>⟨_,_,_,rfl,_,a_d h1,d,rfl,a_f fun id s1 hid _ he hs=>?_⟩) (fun hw=>⟨rfl,by rw[hw];simpa using hI⟩))
 have h1':=e_t h1 he
 have haw:=away h2.at_ h1 (by rw[a_px,a_w3];decide)
 refine (h2.ext' he).append (At.fresh (rs:= [Ht.enc ⟨k,n⟩]) hs (by simp) rfl) (by simp;omega) (by simp;omega) fun d' s' ho g1 g2=>⟨_,_,_,rfl,?_⟩
 have h3:s' oid= .live x_1 [[d]]:=by rw[g1 oid (by rw[h1'];intro e;cases e) (fun a b e=>haw (by rw[e];rfl))];exact h1'
 refine b_h h3 (by simp) fun s2 hs2 ho2=>⟨rfl,hn,d',by rw[hs2];rfl,?_⟩
 rw[if_pos hw]
 have:=r_1 ho hn (away ho.at_ h3 (by rw[a_px,a_w3];decide)) ho2
 simpa using this
section
variable {s:Store} {id:Nat} {L:YL} {y:Yd} {fr:List (Nat × SO)} {N:Nat}
theorem YdIn.trains (h:YdIn s id L y fr)(hw:Ywf y N)(hN:N<=2 ^ 43) :DCalls prog e_7 [.one (pO id)] s (a_sn s y.Trs):=by
 have htl:=hw.trs
 have key:DCalls prog e_7 [.one (pO id)] s fun r s'=>∃d',r= .a (.one d')/\TrsOwn s s' d' y.Trs:=by
   obtain ⟨rows0,hat0,hrl0,_⟩:=h.trsAt hw (by omega)
   refine w_8 (pO id) s _ ⟨trivial,_,_,_,rfl,_,a_d h.row,_,rfl,hat0.lenK ⟨fun d1 n s'=>∃j:Nat,n=j/\j<=y.Trs.length/\TrsOwn s s' d1 (y.Trs.take j),fun _ n _=>y.Trs.length - n.toNat,⟨0,rfl,by omega, .nil (.refl _)⟩,?_⟩⟩
   rw[hrl0]
   rintro d1 _ s' ⟨j,rfl,hj,ho⟩
   refine bcd (fun hlt=>?_) (fun hge=>?_)
   · have hlt:j < y.Trs.length:=by omega
     have he:Ext s s':=by obtain ⟨rows,h1,_⟩:=ho;exact h1.ext
     obtain ⟨rows,hat,hrl,hrow⟩:=(h.ext he).trsAt hw (by omega)
     obtain ⟨t,ht⟩:=a_c (l:=y.Trs) (j:=j) hlt
     obtain ⟨r,hr⟩:=a_c (l:=rows) (j:=j) (by omega)
     obtain ⟨x,hx⟩:=a_c (l:=L.tk) (j:=j) (by rw[h.tkl];exact hlt)
     have hts:=(hw.tr t (zC ht)).2.1
     have hae:=(h.ext he).tkAt hx ht (by omega)
     have hat:=(h.ext he).trAt hw
     have hz:((L.tk.zip y.Trs).map a_z)[j]? =some [.osl x.1 0 t.Secs.length,iD t.Out]:=by rw[zL,c_d hx ht];rfl
     refine hat.load hz b_4 rfl ⟨_,t.Out,rfl,(x_h hae (by intro e;cases e) (by simp;omega)).mono ?_⟩
     rintro r' s1 ⟨e',rfl,hoe⟩
     refine ⟨e',rfl,ho.push hoe (by simp;omega) fun d' s2 ho'=>?_⟩
     rw[a_i (by omega)]
     exact ⟨⟨j+1,rfl,hlt,by rw[zQ,ht,Option.toList_some];exact ho'⟩,a_v hlt⟩
   · have e:j=y.Trs.length:=by omega
     subst e
     rw[zT] at ho
     exact ⟨_,rfl,ho⟩
 refine key.ret ?_
 rintro r s' ⟨d',rfl,ho⟩
 obtain ⟨d2,f1,f2⟩:=ho.ret
 have he:Ext s s':=by obtain ⟨rows,h1,_⟩:=ho;exact h1.ext
 exact ⟨.a (.one d2),s, .pure he f1,rfl,d2,rfl,f2⟩
theorem a_uk (y:Yd) :(∀(l:List Sec) (i:Int),(j_7 y l i).length<=l.length/\(j_8 y l i).length<=l.length)/\(∀(l:List Int) (i:Int),(m_h y l i).length<=l.length)/\∀l:List Tr,(p_0 l).length<=l.length:=by
 refine ⟨fun l=>?_,fun l=>?_,fun l=>?_⟩ <;> induction l with
 | nil=>first | (intro i;simp[j_7,j_8,m_h]) | simp[p_0]
 | cons x l ih=>
   first
     | (intro i;have:=ih (i+1);simp only[j_7,j_8,zP,List.length_cons];refine ⟨?_,?_⟩ <;> split <;> simp <;> omega)
     | (intro i;have:=ih (i+1);simp only[m_h,zP,List.length_cons];split <;> simp <;> omega)
     | (simp only[p_0,zP,List.length_cons];split <;> simp <;> omega)
theorem YdIn.hits (h:YdIn s id L y fr)(hw:Ywf y N)(hN:N<=2 ^ 43) :DCalls prog e_o [.one (pO id)] s (f_n s j_k (y.hits.map Ht.enc)):=by
 have htl:=hw.trs
 have hcl:=c_m hw.chk
 obtain ⟨q1,q3,q4⟩:=a_uk y
 have key:DCalls prog e_o [.one (pO id)] s fun r s'=>∃d',r= .a (.one d')/\Own prog s s' j_k d' (y.hits.map Ht.enc):=by
   refine z_4 (pO id) s _ (a_f fun oid s1 hoid _ he1 hs1=>?_)
   have h0:HtIn s s1 oid []:=⟨hoid, .nils,hs1, .nil _ he1⟩
   refine ⟨trivial,_,_,_,rfl,_,a_d (h.ext he1).row,_,rfl,(h.cfg s1).secs.lenK ⟨fun n s'=>∃(j:Nat) (out:List Ht),n=j/\j<=y.C.Secs.length/\HtIn s s' oid out/\out ++ j_7 y (y.C.Secs.drop j) j=j_7 y y.C.Secs 0,fun n _=>y.C.Secs.length - n.toNat,⟨0,[],rfl,by omega,h0,rfl⟩,?_⟩⟩
   rintro _ s2 ⟨j,out,rfl,hj,ho,hE⟩
   rw[zB]
   have hYs:∀{s'},Ext s s'->YdIn s' id L y fr:=fun he=>h.ext he
   have a1:=(q1 y.C.Secs 0).1
   have hol:=congrArg List.length hE
   rw[zP] at hol
   refine bcd (fun hlt=>?_) (fun hge=>?_)
   · have hlt:j < y.C.Secs.length:=by omega
     obtain ⟨x,hx⟩:=a_c (l:=y.C.Secs) (j:=j) hlt
     have hdec:=a_v hlt
     refine ((hYs ho.ext).there hw (by omega) j).use ⟨_,rfl,_,_,_,_,_,rfl,rfl,rfl,(h_3 ho (by omega) (decide (y.there j > 1)) 1 j).mono ?_⟩
     rintro r s3 ⟨rfl,ho3⟩
     rw[a_i (by omega)]
     refine ⟨rfl,⟨j+1,_,rfl,hlt,ho3,?_⟩,hdec⟩
     rw[b_k hx,j_7] at hE
     rw[<-hE,zK,show ((j:Int) +1) =((j+1:Nat) :Int) by omega]
     congr 2
     by_cases hc:y.there j > 1
     · rw[if_pos hc,if_pos (decide_eq_true hc)]
     · rw[if_neg hc,if_neg (by simpa using hc)]
   have e:j=y.C.Secs.length:=by omega
   subst e
   rw[List.drop_length,j_7,zS] at hE
   subst hE
   clear hol hge hj
   refine ⟨trivial,_,_,_,rfl,_,a_d (hYs ho.ext).row,_,rfl,(h.cfg s2).secs.lenK ⟨fun n s'=>∃(j:Nat) (out:List Ht),n=j/\j<=y.C.Secs.length/\HtIn s s' oid (j_7 y y.C.Secs 0 ++ out)/\out ++ j_8 y (y.C.Secs.drop j) j=j_8 y y.C.Secs 0,fun n _=>y.C.Secs.length - n.toNat,⟨0,[],rfl,by omega,by simpa using ho,rfl⟩,?_⟩⟩
   clear ho s2
   rintro _ s2 ⟨j,out,rfl,hj,ho,hE⟩
   rw[zB]
   have a2:=(q1 y.C.Secs 0).2
   have hol:=congrArg List.length hE
   rw[zP] at hol
   refine bcd (fun hlt=>?_) (fun hge=>?_)
   · have hlt:j < y.C.Secs.length:=by omega
     obtain ⟨x,hx⟩:=a_c (l:=y.C.Secs) (j:=j) hlt
     obtain ⟨p,hp⟩:=a_c (l:=y.Pts) (j:=j) (by rw[hw.pts];exact hlt)
     have hdec:=a_v hlt
     have hP:=(hYs ho.ext).ptsAt hw
     rw[b_k hx,j_8] at hE
     have fin : ∀ (s3 : Store), s3 = s2 -> ∀ w : Bool, (w = true ↔ (x.Kind = 1 /\ y.there (j : Int) > 0 /\ (((a_n y.Pts (j : Int)).map Th.Left).getD 0) > 0)) -> DCalls prog a_7 [bA w, iA 2, iA j, .one (pO oid)] s3 fun r s4 => r = .tup [] /\
         ((∃(j':Nat) (out:List Ht),w64 ((j:Int) +1) =j'/\j'<=y.C.Secs.length/\HtIn s s4 oid (j_7 y y.C.Secs 0 ++ out)/\out ++ j_8 y (y.C.Secs.drop j') j'=j_8 y y.C.Secs 0)/\y.C.Secs.length - (w64 ((j:Int) +1)).toNat < y.C.Secs.length - (j:Int).toNat):=by
       rintro s3 rfl w hwc
       refine (h_3 ho (by simp;omega) w 2 j).mono ?_
       rintro r s4 ⟨rfl,ho4⟩
       rw[a_i (by omega)]
       rw[zK] at ho4
       refine ⟨rfl,⟨j+1,_,rfl,hlt,ho4,?_⟩,hdec⟩
       rw[<-hE,zK,show ((j:Int) +1) =((j+1:Nat) :Int) by omega]
       congr 2
       by_cases hc:w=true
       · rw[if_pos hc,if_pos (hwc.1 hc)]
       · rw[if_neg hc,if_neg (fun g=>hc (hwc.2 g))]
     have hgp:((a_n y.Pts (j:Int)).map Th.Left).getD 0=p.Left:=by rw[a_1,hp];rfl
     rw[hgp] at fin
     refine (h.cfg s2).secs.load (a_g hx) a_x rfl ⟨x.Kind,x.OC,x.Line,rfl,bce (fun hk=>((hYs ho.ext).there hw (by omega) j).use ⟨_,rfl,bcd (fun ht=>?_) (fun ht=>⟨_,_,_,_,_,rfl,rfl,rfl,fin s2 rfl false ⟨fun e=>(by cases e),fun g=>absurd g.2.1 ht⟩⟩)⟩) (fun hk=>⟨_,_,_,_,_,rfl,rfl,rfl,fin s2 rfl false ⟨fun e=>(by cases e),fun g=>absurd g.1 hk⟩⟩)⟩
     refine ⟨trivial,_,_,_,rfl,_,a_d (hYs ho.ext).row,_,rfl,hP.idxK b_9 rfl (by simpa using (zA.1 hp).1) ?_⟩
     rw[zF]
     exact (f_h hP hp).use ⟨_,rfl,_,_,_,_,_,rfl,rfl,rfl,fin s2 rfl _ ⟨fun g=>⟨hk,ht,zM g⟩,fun g=>decide_eq_true g.2.2⟩⟩
   have e:j=y.C.Secs.length:=by omega
   subst e
   rw[List.drop_length,j_8,zS] at hE
   subst hE
   clear hol hge hj
   refine ⟨trivial,_,_,_,rfl,_,a_d (hYs ho.ext).row,_,rfl,(h.cfg s2).xs.lenK ⟨fun n s'=>∃(j:Nat) (out:List Ht),n=j/\j<=y.C.Xs.length/\HtIn s s' oid (j_7 y y.C.Secs 0 ++ j_8 y y.C.Secs 0 ++ out)/\out ++ m_h y (y.C.Xs.drop j) j=m_h y y.C.Xs 0,fun n _=>y.C.Xs.length - n.toNat,⟨0,[],rfl,by omega,by simpa using ho,rfl⟩,?_⟩⟩
   clear ho s2
   rintro _ s2 ⟨j,out,rfl,hj,ho,hE⟩
   rw[zB]
   have a3:=q3 y.C.Xs 0
   have hol:=congrArg List.length hE
   rw[zP] at hol
   refine bcd (fun hlt=>?_) (fun hge=>?_)
   · have hlt:j < y.C.Xs.length:=by omega
     obtain ⟨x,hx⟩:=a_c (l:=y.C.Xs) (j:=j) hlt
     obtain ⟨p,hp⟩:=a_c (l:=y.Gts) (j:=j) (by rw[hw.gts];exact hlt)
     have hdec:=a_v hlt
     rw[b_k hx,m_h] at hE
     have fin : ∀ w : Bool, (w = true ↔ (y.there x > 0 /\ y.shut (j : Int) = false)) -> DCalls prog a_7 [bA w, iA 3, iA x, .one (pO oid)] s2 fun r s4 => r = .tup [] /\
         ((∃(j':Nat) (out:List Ht),w64 ((j:Int) +1) =j'/\j'<=y.C.Xs.length/\HtIn s s4 oid (j_7 y y.C.Secs 0 ++ j_8 y y.C.Secs 0 ++ out)/\out ++ m_h y (y.C.Xs.drop j') j'=m_h y y.C.Xs 0)/\y.C.Xs.length - (w64 ((j:Int) +1)).toNat < y.C.Xs.length - (j:Int).toNat):=by
       intro w hwc
       refine (h_3 ho (by simp;omega) w 3 x).mono ?_
       rintro r s4 ⟨rfl,ho4⟩
       rw[a_i (by omega)]
       rw[zK] at ho4
       refine ⟨rfl,⟨j+1,_,rfl,hlt,ho4,?_⟩,hdec⟩
       rw[<-hE,zK,show ((j:Int) +1) =((j+1:Nat) :Int) by omega]
       congr 2
       by_cases hc:w=true
       · rw[if_pos hc,if_pos (hwc.1 hc)]
       · rw[if_neg hc,if_neg (fun g=>hc (hwc.2 g))]
     refine (h.cfg s2).xs.load (a_g hx) c_int rfl ⟨x,rfl,((hYs ho.ext).there hw (by omega) x).use ⟨_,rfl,bcd (fun ht=>((hYs ho.ext).shut hw hp).use ⟨_,rfl,_,_,_,_,_,rfl,rfl,rfl,fin _ ?_⟩) (fun ht=>⟨_,_,_,_,_,rfl,rfl,rfl,fin false ⟨fun e=>(by cases e),fun g=>absurd g.1 ht⟩⟩)⟩⟩
     exact ⟨fun g=>⟨ht,by simpa using g⟩,fun g=>by simpa using g.2⟩
   have e:j=y.C.Xs.length:=by omega
   subst e
   rw[List.drop_length,m_h,zS] at hE
   subst hE
   clear hol hge hj
   have hT0:=(hYs ho.ext).trAt hw
   have hTl:((L.tk.zip y.Trs).map a_z).length=y.Trs.length:=by simp[h.tkl]
   refine ⟨trivial,_,_,_,rfl,_,a_d (hYs ho.ext).row,_,rfl,hT0.lenK ⟨fun n s'=>∃(j:Nat) (out:List Ht),n=j/\j<=y.Trs.length/\HtIn s s' oid (j_7 y y.C.Secs 0 ++ j_8 y y.C.Secs 0 ++ m_h y y.C.Xs 0 ++ out)/\out ++ p_0 (y.Trs.drop j) =p_0 y.Trs,fun n _=>y.Trs.length - n.toNat,⟨0,[],rfl,by omega,by simpa using ho,rfl⟩,?_⟩⟩
   clear ho s2 hT0
   rintro _ s2 ⟨j,out,rfl,hj,ho,hE⟩
   rw[hTl]
   have a4:=q4 y.Trs
   have hol:=congrArg List.length hE
   rw[zP] at hol
   refine bcd (fun hlt=>?_) (fun hge=>?_)
   · have hlt:j < y.Trs.length:=by omega
     obtain ⟨t,ht⟩:=a_c (l:=y.Trs) (j:=j) hlt
     obtain ⟨x,hx⟩:=a_c (l:=L.tk) (j:=j) (by rw[h.tkl];exact hlt)
     obtain ⟨hne,hts,_⟩:=hw.tr t (zC ht)
     have hdec:=a_v hlt
     have hz:((L.tk.zip y.Trs).map a_z)[j]? =some [.osl x.1 0 t.Secs.length,iD t.Out]:=by rw[zL,c_d hx ht];rfl
     have hae:=(hYs ho.ext).tkAt hx ht (by omega)
     rw[b_k ht,p_0] at hE
     obtain ⟨a,ha⟩:=a_c (l:=t.Secs) (j:=0) (by cases hsec:t.Secs with
       | nil=>exact absurd hsec hne
       | cons=>simp)
     have hhd:t.hd=a:=by
       unfold Tr.hd
       rw[List.head?_eq_getElem?,ha];rfl
     refine ((hYs ho.ext).trAt hw).load hz b_4 rfl ⟨_,t.Out,rfl,hae.load (j:=0) (a_g ha) c_int rfl ⟨a,rfl,_,_,_,_,_,rfl,rfl,rfl,(h_3 ho (by simp;omega) (decide (t.Out < 0)) 4 a).mono ?_⟩⟩
     rintro r s4 ⟨rfl,ho4⟩
     rw[a_i (by omega)]
     rw[zK] at ho4
     refine ⟨rfl,⟨j+1,_,rfl,hlt,ho4,?_⟩,hdec⟩
     rw[<-hE,zK,hhd]
     congr 2
     by_cases hc:t.Out < 0
     · rw[if_pos hc,if_pos (decide_eq_true hc)]
     · rw[if_neg hc,if_neg (by simpa using hc)]
   have e:j=y.Trs.length:=by omega
   subst e
   rw[List.drop_length,p_0,zS] at hE
   subst hE
   obtain ⟨hn,d,g1,g2⟩:=ho
   exact ⟨_,a_d g1,d,rfl,d,rfl,g2⟩
 refine key.ret ?_
 rintro r s' ⟨d',rfl,ho⟩
 exact g_0 ho (fun row hr x hx=>by
   obtain ⟨w,_,rfl⟩:=List.mem_map.1 hr
   simp[Ht.enc] at hx
   rcases hx with rfl | rfl <;> exact .int _ _)
end
end
section
variable {σ σ0:Store}
theorem b_m {s:Store}{id n j:Nat}{t:TypeId}{rows:List (List D)}{row xs:List D}{off:Nat}{K:Store->Prop}(hs:s id= .live t rows)(hj:j < n)(hr:rows[j]? =some row)(ho:off+xs.length<=row.length)
   (hK:∀s',s' id= .live t (rows.set j (patch row off xs))->(∀i,i≠id->s' i=s i)->K s') :a_k xs s (.osl id 0 n) j off K:=
 ⟨id,0,n,t,rows,row,rfl,hj,hs,by rw[Nat.zero_add];exact hr,ho,by rw[Nat.zero_add];exact hK _ (Store.set_same _ _ _) fun i hi=>Store.set_ne _ _ hi⟩
theorem f_q {α:Type}{l:List α}{j:Nat}{x:α}(h:l[j]? =some x) :l.set j x=l:=by
 obtain ⟨h1,rfl⟩:=zA.1 h
 exact List.set_getElem_self h1
theorem b_6 {α β:Type}(f:α->β)(l:List α)(j:Nat)(x:α) :(l.set j x).map f=(l.map f).set j (f x):=List.map_set ..
theorem r_4 {α:Type}{l l':List α}{j:Nat}{x:α}(hl:l'.length=l.length)(hx:l'[j]? =some x) :(l'.take j ++ l.drop j).set j x=l'.take (j+1) ++ l.drop (j+1):=by
 have hj:=(zA.1 hx).1
 obtain ⟨z,hz⟩:=a_c (l:=l) (j:=j) (by omega)
 rw[List.set_append_right _ _ (by simp;omega),zR,Nat.min_eq_left (by omega),Nat.sub_self,b_k hz,List.set_cons_zero,zQ,hx,Option.toList_some,zK]
 rfl
theorem r_0 {α:Type}{l l':List α}{j:Nat}(hl:l'.length=l.length)(hj:j < l.length) :(l'.take j ++ l.drop j)[j]? =l[j]? :=by
 rw[zN (by simp;omega),List.getElem?_drop,zR,Nat.min_eq_left (by omega),Nat.sub_self];rfl
section
variable {s:Store} {id:Nat} {L:YL} {y:Yd} {fr:List (Nat × SO)} {N:Nat}
def p_2 (L:YL)(y:Yd)(fr:List (Nat × SO)) :List (Nat × SO):=(L.ps.zip y.Psts).map g_e ++ ((L.ps.zip y.Psts).map l_0 ++ (trE L y ++ ((L.tk.zip y.Trs).map tkE ++ fr)))
theorem YdIn.putP (h:YdIn s id L y fr){l:List Th}(hl:l.length=y.Pts.length){s':Store}(hs:s' L.p= .live a_l (l.map Th.enc))(ho:Keep L.p s s') :YdIn s' id L { y with Pts:=l } fr:=by
 have hp:=Heap.put (A:= []) (X:=b_i id L y) (B:=p_2 L y fr) (k:=2) h.heap rfl hs (by intro e;cases e) ho
 refine ⟨?_,h.cfg,h.keys,h.flt,h.psl,h.sh,h.tkl,h.trn⟩
 have e:b_8 id L { y with Pts:=l } fr=[] ++ (b_i id L y).set 2 (L.p, .live a_l (l.map Th.enc)) ++ p_2 L y fr:=by
   unfold b_8 b_i g_q;simp only[hl];rfl
 rw[e];exact hp
theorem YdIn.putG (h:YdIn s id L y fr){l:List Th}(hl:l.length=y.Gts.length){s':Store}(hs:s' L.g= .live a_l (l.map Th.enc))(ho:Keep L.g s s') :YdIn s' id L { y with Gts:=l } fr:=by
 have hp:=Heap.put (A:= []) (X:=b_i id L y) (B:=p_2 L y fr) (k:=3) h.heap rfl hs (by intro e;cases e) ho
 refine ⟨?_,h.cfg,h.keys,h.flt,h.psl,h.sh,h.tkl,h.trn⟩
 have e:b_8 id L { y with Gts:=l } fr=[] ++ (b_i id L y).set 3 (L.g, .live a_l (l.map Th.enc)) ++ p_2 L y fr:=by
   unfold b_8 b_i g_q;simp only[hl];rfl
 rw[e];exact hp
theorem YdIn.putL (h:YdIn s id L y fr){l:List Lp}(hl:l.length=y.Lps.length){s':Store}(hs:s' L.l= .live b_c (l.map Lp.enc))(ho:Keep L.l s s') :YdIn s' id L { y with Lps:=l } fr:=by
 have hp:=Heap.put (A:= []) (X:=b_i id L y) (B:=p_2 L y fr) (k:=4) h.heap rfl hs (by intro e;cases e) ho
 refine ⟨?_,h.cfg,h.keys,h.flt,h.psl,h.sh,h.tkl,h.trn⟩
 have e:b_8 id L { y with Lps:=l } fr=[] ++ (b_i id L y).set 4 (L.l, .live b_c (l.map Lp.enc)) ++ p_2 L y fr:=by
   unfold b_8 b_i g_q;simp only[hl];rfl
 rw[e];exact hp
theorem YdIn.putNow (h:YdIn s id L y fr){n:Int}{s':Store}(hs:s' id= .live a_y [g_q L { y with Now:=n }])(ho:Keep id s s') :YdIn s' id L { y with Now:=n } fr:=by
 have hp:=Heap.put (A:= []) (X:=b_i id L y) (B:=p_2 L y fr) (k:=0) h.heap rfl hs (by intro e;cases e) ho
 exact ⟨hp,h.cfg,h.keys,h.flt,h.psl,h.sh,h.tkl,h.trn⟩
def a_ky (id:Nat)(F:Int × Int->Bool)(az:List A)(s:Store) :Prop:=∃k n:Int,az=[.one (pO id),iA k,iA n]/\∃(row:List D) (mp clk:Nat) (es:List Ent),s id= .live a_y [row]/\row[0]? =some (.omap mp)/\s mp= .mp clk es/\f_l prog j_k es/\∀k,(b_e (n_4 k) es).getD (bA false) =bA (F k)
def r_7 (id:Nat)(F:Int × Int->Bool)(az:List A)(s:Store)(r:RV)(s':Store) :Prop:=s'=s/\∃k n:Int,az=[.one (pO id),iA k,iA n]/\r= .a (bA (F (k,n)))
theorem a_ez (id:Nat)(F:Int × Int->Bool) :b_7 prog b_f (a_ky id F) (r_7 id F):=by
 refine ⟨?_,?_,?_,?_,?_⟩
 · rintro az s ⟨k,n,rfl,row,mp,clk,es,h1,h2,h3,h4,h5⟩
   have h2':row= .omap mp::row.drop 1:=by
     cases row with
     | nil=>cases h2
     | cons a r=>simp at h2;subst h2;rfl
   refine j_3 (pO id) k n s _ ⟨trivial,_,_,_,rfl,_,a_d h1, .omap mp,by rw[h2'];rfl,b_e (n_4 (k,n)) es,⟨by kernel_rfl, .inr ⟨mp,clk,es,rfl,h3,h4,rfl⟩⟩,F (k,n),h5 (k,n),rfl,k,n,rfl,rfl⟩
 · rintro az s ⟨k,n,rfl,_⟩ hf
   exact ⟨.a (bA (F (k,n))),s,⟨rfl,k,n,rfl,rfl⟩,hf⟩
 · rintro az s r s' ⟨rfl,_⟩ hf;exact hf
 · rintro az s i so h0 hso ⟨k,n,rfl,row,mp,clk,es,h1,h2,h3,h4,h5⟩
   have g1:(s.set i so) id= .live a_y [row]:=e_t h1 (Ext.new h0 so)
   have g3:(s.set i so) mp= .mp clk es:=(Ext.new h0 so mp (by rw[h3];intro e;cases e)).trans h3
   refine ⟨⟨k,n,rfl,row,mp,clk,es,g1,h2,g3,h4,h5⟩,?_⟩
   rintro r s' ⟨rfl,hr⟩
   exact ⟨s,⟨rfl,hr⟩,h0,rfl⟩
 · rintro az s r s' _ ⟨rfl,_⟩ i hi
   rfl
theorem YdIn.fltp (h:YdIn s id L y fr)(k n:Int) :a_ky id y.Flt [.one (pO id),iA k,iA n] s:=⟨k,n,rfl,_,L.mp,L.clk,L.es,h.row,rfl,h.mp,h.keys,h.flt⟩
theorem k_8 {i n j:Nat}{l:List Th}{x:Th}(h:s i= .live a_l (l.map Th.enc))(hn:n=l.length)(hsz:l.length<=2 ^ 20)(hx:l[j]? =some x)(hl:0<=x.Left/\x.Left<=2)(stuck:Bool) :
   DCalls prog f_p [.one (.el (.osl i 0 n) j 0),bA stuck] s fun r s'=>r= .tup []/\s' i= .live a_l ((l.set j (x.tick stuck)).map Th.enc)/\∀k,k≠i->s' k=s k:=by
 have hj:=(zA.1 hx).1
 have hA:At prog s a_l (.osl i 0 n) (l.map Th.enc):=by subst hn;exact At.fresh h (by simp;omega) (by simp)
 have same:x.tick stuck=x->(RV.tup []= .tup []/\s i= .live a_l ((l.set j (x.tick stuck)).map Th.enc)/\∀k,k≠i->s k=s k):=fun e=>⟨rfl,by rw[e,f_q hx];exact h,fun _ _=>rfl⟩
 refine y_d _ stuck s _ ((f_h hA hx).use ⟨_,rfl,a_0 (fun hm=>?_) (fun hm=>bc (fun hst=>?_) (fun hst=>⟨trivial,_,_,_,rfl,_,hA.row (a_g hx),x.Left,rfl,trivial,_,_,_,rfl,b_m h (by omega) (a_g hx) (by simp[Th.enc]) fun s1 h1 o1=>?_⟩))⟩)
 · exact same (by unfold Th.tick;rw[if_neg];rintro ⟨g,_⟩;exact of_decide_eq_false hm g)
 · exact same (by unfold Th.tick;rw[if_neg];rintro ⟨_,g⟩;rw[g] at hst;cases hst)
 have hm:=zM hm
 rw[a_r (by omega) (by omega)] at h1
 have h1:s1 i= .live a_l ((l.set j ⟨x.At,x.To,x.Left - 1⟩).map Th.enc):=by rw[h1,b_6];rfl
 have hx1:(l.set j (⟨x.At,x.To,x.Left - 1⟩ :Th))[j]? =some ⟨x.At,x.To,x.Left - 1⟩:=List.getElem?_set_self hj
 have hA1:At prog s1 a_l (.osl i 0 n) ((l.set j ⟨x.At,x.To,x.Left - 1⟩).map Th.enc):=by subst hn;exact At.fresh h1 (by simp;omega) (by simp)
 have htick:x.tick stuck=if x.Left - 1 > 0 then { x with Left:=x.Left - 1 } else ⟨x.To,x.To,x.Left - 1⟩:=by
   unfold Th.tick;rw[if_pos ⟨hm,by simpa using hst⟩]
 refine (f_h hA1 hx1).use ⟨_,rfl,a_0 (fun hm2=>?_) (fun hm2=>?_)⟩
 · have hm2:¬x.Left - 1 > 0:=of_decide_eq_false hm2
   refine ⟨trivial,_,_,_,rfl,_,hA1.row (a_g hx1),x.To,rfl,trivial,_,_,_,rfl,b_m h1 (by omega) (a_g hx1) (by simp[Th.enc]) fun s2 h2 o2=>⟨rfl,?_,fun k hk=>(o2 k hk).trans (o1 k hk)⟩⟩
   rw[h2,htick,if_neg hm2,b_6 _ l j ⟨x.At,x.To,x.Left - 1⟩,List.set_set,b_6];rfl
 · have hm2:x.Left - 1 > 0:=zM hm2
   refine ⟨rfl,?_,o1⟩
   rw[h1,htick,if_pos hm2]
theorem j_5 {i n j:Nat}{l:List Th}{x:Th}(h:s i= .live a_l (l.map Th.enc))(hn:n=l.length)(hsz:l.length<=2 ^ 20)(hx:l[j]? =some x)(to:Int) :
   DCalls prog f_b [.one (.el (.osl i 0 n) j 0),iA to] s fun r s'=>r= .tup []/\s' i= .live a_l ((l.set j (x.order to)).map Th.enc)/\∀k,k≠i->s' k=s k:=by
 have hj:=(zA.1 hx).1
 have hA:At prog s a_l (.osl i 0 n) (l.map Th.enc):=by subst hn;exact At.fresh h (by simp;omega) (by simp)
 refine w_y _ to s _ ⟨trivial,_,_,_,rfl,_,hA.row (a_g hx),x.To,rfl,bcn (fun hne=>⟨trivial,_,_,_,rfl,b_m h (by omega) (a_g hx) (by simp[Th.enc]) fun s1 h1 o1=>?_⟩) (fun he=>⟨rfl,?_,fun _ _=>rfl⟩)⟩
 · have hr1:((l.map Th.enc).set j (patch x.enc (0+1) [iD to]))[j]? =some (patch x.enc (0+1) [iD to]):=List.getElem?_set_self (by simpa using hj)
   refine ⟨trivial,_,_,_,rfl,b_m h1 (by omega) hr1 (by simp[Th.enc,patch]) fun s2 h2 o2=>⟨rfl,?_,fun k hk=>(o2 k hk).trans (o1 k hk)⟩⟩
   rw[h2,List.set_set,b_6]
   unfold Th.order
   rw[if_pos hne];rfl
 · unfold Th.order
   rw[if_neg (by simpa using he),f_q hx];exact h
theorem i_2 (f:Int->Bool) :∀(l:List Th) (i:Int),(h_l f l i).length=l.length
 | [],_=>rfl
 | x::r,i=>by simp[h_l,i_2 f r]
theorem i_x (f:Int->Bool) :∀(l:List Th) (i:Int) (j:Nat),(h_l f l i)[j]? =(l[j]?).map fun x=>x.tick (f (i+j))
 | [],_,_=>rfl
 | x::r,i,0=>by simp[h_l]
 | x::r,i,j+1=>by
   rw[h_l,List.getElem?_cons_succ,List.getElem?_cons_succ,i_x f r,show i+1+ (j:Int) =i+ ((j+1:Nat) :Int) by omega]
theorem r_6 (f:Int->Int)(n:Int) :∀(l:List Lp) (i:Int),(o_9 f n l i).length=l.length
 | [],_=>rfl
 | x::r,i=>by simp[o_9,r_6 f n r]
theorem k_p (f:Int->Int)(n:Int) :∀(l:List Lp) (i:Int) (j:Nat),(o_9 f n l i)[j]? =(l[j]?).map fun x=>if f (i+j)≠0 then { x with Last:=n } else x
 | [],_,_=>rfl
 | x::r,i,0=>by simp[o_9]
 | x::r,i,j+1=>by
   rw[o_9,List.getElem?_cons_succ,List.getElem?_cons_succ,k_p f n r,show i+1+ (j:Int) =i+ ((j+1:Nat) :Int) by omega]
theorem YdIn.tick (h:YdIn s id L y fr)(hw:Ywf y N)(now:Int) :DCalls prog f_8 [.one (pO id),iA now] s fun r s'=>r= .tup []/\YdIn s' id L (y.tick now) fr:=by
 have hcl:=c_m hw.chk
 have hpl:=hw.pts
 have hgl:=hw.gts
 have htick:y.tick now=if now<=y.Now then y else { y with Now:=now,Pts:=h_l (fun i=>y.Flt (3,i)) y.Pts 0,Gts:=h_l (fun i=>y.Flt (6,i)) y.Gts 0 } :=rfl
 refine a_bd (pO id) now s _ ⟨trivial,_,_,_,rfl,_,a_d h.row,y.Now,rfl,bcd (fun hle=>?_) (fun hgt=>⟨trivial,_,_,_,rfl,b_h h.row (by simp[g_q]) fun s1 h1 o1=>?_⟩)⟩
 · rw[htick,if_pos hle];exact ⟨rfl,h⟩
 rw[htick,if_neg hgt]
 have hy1:YdIn s1 id L { y with Now:=now } fr:=h.putNow h1 (.of o1)
 generalize hP:h_l (fun i=>y.Flt (3,i)) y.Pts 0=P'
 generalize hG:h_l (fun i=>y.Flt (6,i)) y.Gts 0=G'
 have hPl:P'.length=y.Pts.length:=by rw[<-hP];exact i_2 _ _ _
 have hGl:G'.length=y.Gts.length:=by rw[<-hG];exact i_2 _ _ _
 have hw1:Ywf { y with Now:=y.Now } N:=hw
 refine ⟨trivial,_,_,_,rfl,_,a_d hy1.row,_,rfl,?_⟩
 have hA1:At prog s1 a_l (.osl L.p 0 y.Pts.length) (y.Pts.map Th.enc):=At.fresh hy1.pts (by simp;omega) (by simp)
 refine hA1.lenK ⟨fun n s'=>∃j:Nat,n=j/\j<=y.Pts.length/\YdIn s' id L { y with Now:=now,Pts:=P'.take j ++ y.Pts.drop j } fr,fun n _=>y.Pts.length - n.toNat,⟨0,rfl,by omega,by simpa using hy1⟩,?_⟩
 rintro _ s2 ⟨j,rfl,hj,hy⟩
 rw[zB]
 have hml:(P'.take j ++ y.Pts.drop j).length=y.Pts.length:=by simp;omega
 refine bcd (fun hlt=>?_) (fun hge=>?_)
 · have hlt:j < y.Pts.length:=by omega
   obtain ⟨x,hx⟩:=a_c (l:=y.Pts) (j:=j) hlt
   have hxm:(P'.take j ++ y.Pts.drop j)[j]? =some x:=(r_0 hPl hlt).trans hx
   have hA:At prog s2 a_l (.osl L.p 0 (P'.take j ++ y.Pts.drop j).length) ((P'.take j ++ y.Pts.drop j).map Th.enc):=At.fresh hy.pts (by simp;omega) (by simp)
   refine ⟨a_ky id y.Flt,r_7 id y.Flt,a_ez id y.Flt,trivial,_,_,_,rfl,_,a_d hy.row,_,rfl,hA.idxK b_9 rfl (by rw[zB,hml];exact hlt) ⟨trivial,_,_,_,rfl,hy.fltp 3 j,?_⟩⟩
   rintro r s3 ⟨rfl,k,n,he,rfl⟩
   have e1:k=3/\n=(j:Int):=by simp at he;exact ⟨he.1.symm,he.2.symm⟩
   obtain ⟨rfl,rfl⟩:=e1
   refine ⟨_,rfl,?_⟩
   rw[zF]
   refine (k_8 (l:=P'.take j ++ y.Pts.drop j) hy.pts rfl (by omega) hxm (hw.left x (zE _ (zC hx))) (y.Flt (3,(j:Int)))).mono ?_
   rintro r s4 ⟨rfl,h4,o4⟩
   rw[a_i (by omega)]
   refine ⟨rfl,⟨j+1,rfl,hlt,?_⟩,a_v hlt⟩
   have hy4:=hy.putP (l:=(P'.take j ++ y.Pts.drop j).set j (x.tick (y.Flt (3,(j:Int))))) (by simp) h4 (.of o4)
   rw[r_4 hPl (by rw[<-hP,i_x,hx,Option.map_some,Int.zero_add])] at hy4
   exact hy4
 have e:j=y.Pts.length:=by omega
 subst e
 rw[<-hPl,zT,hPl,List.drop_length,zS] at hy
 clear hml hge hj hA1 hy1 h1 o1
 have hA1:At prog s2 a_l (.osl L.g 0 y.Gts.length) (y.Gts.map Th.enc):=At.fresh hy.gts (by simp;omega) (by simp)
 refine ⟨trivial,_,_,_,rfl,_,a_d hy.row,_,rfl,hA1.lenK ⟨fun n s'=>∃j:Nat,n=j/\j<=y.Gts.length/\YdIn s' id L { y with Now:=now,Pts:=P',Gts:=G'.take j ++ y.Gts.drop j } fr,fun n _=>y.Gts.length - n.toNat,⟨0,rfl,by omega,by simpa using hy⟩,?_⟩⟩
 clear hA1 hy s2 s1
 rintro _ s2 ⟨j,rfl,hj,hy⟩
 rw[zB]
 have hml:(G'.take j ++ y.Gts.drop j).length=y.Gts.length:=by simp;omega
 refine bcd (fun hlt=>?_) (fun hge=>?_)
 · have hlt:j < y.Gts.length:=by omega
   obtain ⟨x,hx⟩:=a_c (l:=y.Gts) (j:=j) hlt
   have hxm:(G'.take j ++ y.Gts.drop j)[j]? =some x:=(r_0 hGl hlt).trans hx
   have hA:At prog s2 a_l (.osl L.g 0 (G'.take j ++ y.Gts.drop j).length) ((G'.take j ++ y.Gts.drop j).map Th.enc):=At.fresh hy.gts (by simp;omega) (by simp)
   refine ⟨a_ky id y.Flt,r_7 id y.Flt,a_ez id y.Flt,trivial,_,_,_,rfl,_,a_d hy.row,_,rfl,hA.idxK b_9 rfl (by rw[zB,hml];exact hlt) ⟨trivial,_,_,_,rfl,hy.fltp 6 j,?_⟩⟩
   rintro r s3 ⟨rfl,k,n,he,rfl⟩
   have e1:k=6/\n=(j:Int):=by simp at he;exact ⟨he.1.symm,he.2.symm⟩
   obtain ⟨rfl,rfl⟩:=e1
   refine ⟨_,rfl,?_⟩
   rw[zF]
   refine (k_8 (l:=G'.take j ++ y.Gts.drop j) hy.gts rfl (by omega) hxm (hw.left x (zD _ (zC hx))) (y.Flt (6,(j:Int)))).mono ?_
   rintro r s4 ⟨rfl,h4,o4⟩
   rw[a_i (by omega)]
   refine ⟨rfl,⟨j+1,rfl,hlt,?_⟩,a_v hlt⟩
   have hy4:=hy.putG (l:=(G'.take j ++ y.Gts.drop j).set j (x.tick (y.Flt (6,(j:Int))))) (by simp) h4 (.of o4)
   rw[r_4 hGl (by rw[<-hG,i_x,hx,Option.map_some,Int.zero_add])] at hy4
   exact hy4
 have e:j=y.Gts.length:=by omega
 subst e
 rw[<-hGl,zT,hGl,List.drop_length,zS] at hy
 exact ⟨rfl,hy⟩
theorem a_jh {l:List Lp}(hl:∀j:Nat,(l[j]?).map Lp.Asp=(y.Lps[j]?).map Lp.Asp)(x:Int) :({ y with Lps:=l } :Yd).shows x=y.shows x:=by
 have hg:(a_n l x).map Lp.Asp=(a_n y.Lps x).map Lp.Asp:=by
   by_cases hx:0<=x
   · obtain ⟨j,rfl⟩:=zI hx
     rw[a_1,a_1];exact hl j
   · rw[a_5 (by omega),a_5 (by omega)]
 have hg:(a_n l x).map Lp.Asp=(a_n y.Lps x).map Lp.Asp:=hg
 unfold Yd.shows
 show (match a_n l x,a_n y.C.Sigs x with | some l,some g=>_ | _,_=>_) =_
 cases h1:a_n l x with
 | none=>
   cases h2:a_n y.Lps x with
   | none=>rfl
   | some a=>rw[h1,h2] at hg;cases hg
 | some b=>
   cases h2:a_n y.Lps x with
   | none=>rw[h1,h2] at hg;cases hg
   | some a=>
     rw[h1,h2] at hg
     have hg:some b.Asp=some a.Asp:=hg
     injection hg with hg
     cases a_n y.C.Sigs x with
     | none=>rfl
     | some g=>simp only[hg]
theorem YdIn.look (h:YdIn s id L y fr)(hw:Ywf y N) :DCalls prog g_a [.one (pO id)] s fun r s'=>r= .tup []/\YdIn s' id L y.look fr:=by
 have hcl:=c_m hw.chk
 have hll:=hw.lps
 have hlook:y.look= { y with Lps:=o_9 y.shows y.Now y.Lps 0 } :=rfl
 rw[hlook]
 generalize hP:o_9 y.shows y.Now y.Lps 0=P'
 have hPl:P'.length=y.Lps.length:=by rw[<-hP];exact r_6 _ _ _ _
 refine a_a6 (pO id) s _ ⟨trivial,_,_,_,rfl,_,a_d h.row,_,rfl,?_⟩
 refine (h.lpsAt hw).lenK ⟨fun n s'=>∃j:Nat,n=j/\j<=y.Lps.length/\YdIn s' id L { y with Lps:=P'.take j ++ y.Lps.drop j } fr,fun n _=>y.Lps.length - n.toNat,⟨0,rfl,by omega,by simpa using h⟩,?_⟩
 rintro _ s2 ⟨j,rfl,hj,hy⟩
 rw[zB]
 have hml:(P'.take j ++ y.Lps.drop j).length=y.Lps.length:=by simp;omega
 have hPm:∀(k:Nat) p,P'[k]? =some p->∃x,y.Lps[k]? =some x/\p.Asp=x.Asp/\(p.Last=x.Last\/p.Last=y.Now):=fun k p hp=>by
   rw[<-hP,k_p] at hp
   cases hx:y.Lps[k]? with
   | none=>rw[hx] at hp;cases hp
   | some x=>
     rw[hx] at hp
     have hp:some (if y.shows (0+k)≠0 then { x with Last:=y.Now } else x) =some p:=hp
     injection hp with hp
     subst hp
     refine ⟨x,rfl,?_,?_⟩
     · split <;> rfl
     · split
       · exact .inr rfl
       · exact .inl rfl
 have hmix:∀(k:Nat) p,(P'.take j ++ y.Lps.drop j)[k]? =some p->∃x,y.Lps[k]? =some x/\p.Asp=x.Asp/\(p.Last=x.Last\/p.Last=y.Now):=fun k p hp=>by
   by_cases hk:k < j
   · rw[zJ (by simp;omega),List.getElem?_take,if_pos hk] at hp
     exact hPm k p hp
   · rw[zN (by simp;omega),List.getElem?_drop,zR,Nat.min_eq_left (by omega),show j+ (k - j) =k by omega] at hp
     exact ⟨p,hp,rfl, .inl rfl⟩
 have hwj:Ywf { y with Lps:=P'.take j ++ y.Lps.drop j } N:=by
   refine ⟨hw.chk,hw.pts,hw.gts,hml.trans hw.lps,hw.psts,hw.pst,hw.trs,hw.tr,hw.now,fun l hl=>?_,hw.left⟩
   obtain ⟨k,hk⟩:=List.mem_iff_getElem?.1 hl
   obtain ⟨x,hx,_,h2⟩:=hmix k l hk
   have:=hw.last x (zC hx)
   have:=hw.now
   omega
 have hsh:({ y with Lps:=P'.take j ++ y.Lps.drop j } :Yd).shows (j:Int) =y.shows (j:Int):=a_jh (fun k=>by
   cases hk:(P'.take j ++ y.Lps.drop j)[k]? with
   | none=>
     have:y.Lps[k]? =none:=by rw[List.getElem?_eq_none_iff] at hk ⊢;omega
     rw[this]
   | some p=>
     obtain ⟨x,hx,h1,_⟩:=hmix k p hk
     rw[hx];simp[h1]) _
 refine bcd (fun hlt=>?_) (fun hge=>?_)
 · have hlt:j < y.Lps.length:=by omega
   obtain ⟨x,hx⟩:=a_c (l:=y.Lps) (j:=j) hlt
   have hxm:(P'.take j ++ y.Lps.drop j)[j]? =some x:=(r_0 hPl hlt).trans hx
   have hPj:P'[j]? =some (if y.shows (j:Int)≠0 then { x with Last:=y.Now } else x):=by rw[<-hP,k_p,hx,Option.map_some,Int.zero_add]
   have hA:At prog s2 b_c (.osl L.l 0 (P'.take j ++ y.Lps.drop j).length) ((P'.take j ++ y.Lps.drop j).map Lp.enc):=At.fresh hy.lps (by simp;omega) (by simp)
   have hset:=r_4 (l:=y.Lps) hPl hPj
   have hdec:=a_v hlt
   refine (hy.shows hwj j).use ⟨_,rfl,?_⟩
   rw[hsh,a_i (by omega)]
   refine bcn (fun hne=>⟨trivial,_,_,_,rfl,_,a_d hy.row,_,rfl,trivial,_,_,_,rfl,_,a_d hy.row,y.Now,rfl,hA.idxK h_r rfl (by rw[zB,hml];exact hlt) ?_⟩) (fun he=>?_)
   · rw[zF]
     refine b_m hy.lps (by rw[hml];exact hlt) (a_g hxm) (by simp[Lp.enc]) fun s3 h3 o3=>⟨⟨j+1,rfl,hlt,?_⟩,hdec⟩
     rw[if_pos hne] at hset
     rw[<-hset]
     exact hy.putL (by simp) (by rw[h3,b_6];rfl) (.of o3)
   · rw[if_neg (by simpa using he),f_q hxm] at hset
     rw[hset] at hy
     exact ⟨⟨j+1,rfl,hlt,hy⟩,hdec⟩
 have e:j=y.Lps.length:=by omega
 subst e
 rw[<-hPl,zT,hPl,List.drop_length,zS] at hy
 exact ⟨rfl,hy⟩
end
end
end Go.Proofs.YtaklhjodjbgmgaaGreat
namespace Go.Fw
section
theorem i_t {α:Type}{l:List α}{i:Nat}{x:α}(h:l[i]? =some x)(f:α->α) :l.modify i f=l.set i (f x):=by
 refine List.ext_getElem? fun j=>?_
 rw[List.getElem?_modify]
 by_cases hj:i=j
 · subst hj
   rw[List.getElem?_set_self (zA.1 h).1,h];simp
 · rw[List.getElem?_set_ne hj]
   cases l[j]? <;> simp[hj]
theorem u_p {α:Type}{l:List α}{i:Nat}{f:α->α}{x:α}(h:x ∈ l.modify i f) :∃z ∈ l,x=z\/x=f z:=by
 obtain ⟨k,hk⟩:=List.mem_iff_getElem?.1 h
 rw[List.getElem?_modify] at hk
 cases hz:l[k]? with
 | none=>rw[hz] at hk;cases hk
 | some z=>
   rw[hz] at hk
   have hk:some (if i=k then f z else z) =some x:=hk
   injection hk with hk
   refine ⟨z,zC hz,?_⟩
   split at hk
   · exact .inr hk.symm
   · exact .inl hk.symm
theorem r_r (i o:Int)(is os:List Int)(l:List Th) :e_9 (i::is) (o::os) l=e_9 is os (l.modify i.toNat fun x=>x.order o):=by rw[e_9]
theorem r_h (i o:Int)(is os:List Int)(l:List Th) :f_c (i::is) (o::os) l=f_c is os (if o≠0 then l.modify i.toNat fun x=>x.order o else l):=by rw[f_c]
theorem a_a9 (i o:Int)(is os:List Int)(l:List Lp) :q_6 (i::is) (o::os) l=q_6 is os (l.modify i.toNat fun x=> { x with Asp:=o }):=by rw[q_6]
theorem v_1 (os:List Int)(l:List Th) :e_9 [] os l=l:=by cases os <;> rfl
theorem v_d (os:List Int)(l:List Th) :f_c [] os l=l:=by cases os <;> rfl
theorem a_gs (os:List Int)(l:List Lp) :q_6 [] os l=l:=by cases os <;> rfl
theorem a_du {p:Th->Prop}(hp:∀x o,p x->p (x.order o)) :∀(is os:List Int) (l:List Th),(∀x ∈ l,p x)->(∀x ∈ e_9 is os l,p x)/\(e_9 is os l).length=l.length
 | [],os,l,h=>by rw[v_1];exact ⟨h,rfl⟩
 | i::is,[],l,h=>⟨h,rfl⟩
 | i::is,o::os,l,h=>by
   rw[r_r]
   have:=a_du hp is os (l.modify i.toNat fun x=>x.order o) (fun x hx=>by
     obtain ⟨z,hz,rfl | rfl⟩:=u_p hx
     · exact h _ hz
     · exact hp _ _ (h _ hz))
   exact ⟨this.1,by rw[this.2,List.length_modify]⟩
theorem a_d2 {p:Th->Prop}(hp:∀x o,p x->p (x.order o)) :∀(is os:List Int) (l:List Th),(∀x ∈ l,p x)->(∀x ∈ f_c is os l,p x)/\(f_c is os l).length=l.length
 | [],os,l,h=>by rw[v_d];exact ⟨h,rfl⟩
 | i::is,[],l,h=>⟨h,rfl⟩
 | i::is,o::os,l,h=>by
   rw[r_h]
   have:=a_d2 hp is os (if o≠0 then l.modify i.toNat fun x=>x.order o else l) (fun x hx=>by
     split at hx
     · obtain ⟨z,hz,rfl | rfl⟩:=u_p hx
       · exact h _ hz
       · exact hp _ _ (h _ hz)
     · exact h x hx)
   refine ⟨this.1,by rw[this.2];split <;> simp⟩
theorem a_pc {p:Lp->Prop}(hp:∀(x:Lp) o,p x->p { x with Asp:=o }) :∀(is os:List Int) (l:List Lp),(∀x ∈ l,p x)->(∀x ∈ q_6 is os l,p x)/\(q_6 is os l).length=l.length
 | [],os,l,h=>by rw[a_gs];exact ⟨h,rfl⟩
 | i::is,[],l,h=>⟨h,rfl⟩
 | i::is,o::os,l,h=>by
   rw[a_a9]
   have:=a_pc hp is os (l.modify i.toNat fun x=> { x with Asp:=o }) (fun x hx=>by
     obtain ⟨z,hz,rfl | rfl⟩:=u_p hx
     · exact h _ hz
     · exact hp _ _ (h _ hz))
   exact ⟨this.1,by rw[this.2,List.length_modify]⟩
theorem y_r (oc:Int) :∀(l:List Sec) (i:Int),∀x ∈ g_v oc l i,i<=x/\x < i+l.length
 | [],i,x,h=>by cases h
 | s::r,i,x,h=>by
   rw[g_v] at h
   have ih:=y_r oc r (i+1) x
   simp only[List.length_cons]
   split at h
   · rcases List.mem_cons.1 h with rfl | h
     · omega
     · have:=ih h;omega
   · have:=ih h;omega
theorem a_dj (c:Cf)(oc:Int) :∀(l:List Int) (i:Int),∀x ∈ o_w c oc l i,i<=x/\x < i+l.length
 | [],i,x,h=>by cases h
 | s::r,i,x,h=>by
   rw[o_w] at h
   have ih:=a_dj c oc r (i+1) x
   simp only[List.length_cons]
   split at h
   · rcases List.mem_cons.1 h with rfl | h
     · omega
     · have:=ih h;omega
   · have:=ih h;omega
theorem a_fs (c:Cf)(oc:Int) :∀(l:List Sg) (i:Int),∀x ∈ j_i c oc l i,i<=x/\x < i+l.length
 | [],i,x,h=>by cases h
 | s::r,i,x,h=>by
   rw[j_i] at h
   have ih:=a_fs c oc r (i+1) x
   simp only[List.length_cons]
   split at h
   · rcases List.mem_cons.1 h with rfl | h
     · omega
     · have:=ih h;omega
   · have:=ih h;omega
theorem a_iq {h:Shp}{t:List UInt8}{o:Od}(hr:g_d h t=some o) :o.Pos.length=h.Pts.length/\o.Asp.length=h.Sgs.length/\o.Shut.length=h.Xs.length:=by
 unfold g_d at hr
 split at hr
 · rename_i hc
   injection hr with hr
   subst hr
   have h3:=hc.2.2
   unfold Od.right at h3
   simp only[zO,decide_eq_true_eq] at h3
   exact h3.1.1.1
 · cases hr
theorem a_wi (t:List UInt8) :(a_2 t).b.length<=1000:=by
 unfold a_2
 split
 · simp
 split
 · simp
 split
 · simp
 · rename_i h1 h2 h3
   show ((e_w t).1.drop 7).length<=1000
   rw[List.length_drop];omega
theorem a_o7 {r:Rc}{n:Int}{t:List UInt8}(h:(r.take n t).2.2≠0) :(r.take n t).1=r:=by
 unfold Rc.take at h ⊢
 split
 · rfl
 split
 · rfl
 split
 · rfl
 split
 · rfl
 split
 · rfl
 · rename_i h1 h2 h3 h4 h5
   rw[if_neg h1,if_neg h2,if_neg h3,if_neg h4,if_neg h5] at h
   exact absurd rfl h
theorem a_kb {r:Rc}{n:Int}{t:List UInt8}(h:(r.take n t).2.2=0) :(r.take n t).1= { r with Last:=(a_2 t).s }/\(r.take n t).2.1=(a_2 t).b:=by
 unfold Rc.take at h ⊢
 split
 · rename_i h1;rw[if_pos h1] at h;exact absurd h h1
 split
 · rename_i h1 h2;rw[if_neg h1,if_pos h2] at h;cases h
 split
 · rename_i h1 h2 h3;rw[if_neg h1,if_neg h2,if_pos h3] at h;cases h
 split
 · rename_i h1 h2 h3 h4;rw[if_neg h1,if_neg h2,if_neg h3,if_pos h4] at h;cases h
 split
 · rename_i h1 h2 h3 h4 h5;rw[if_neg h1,if_neg h2,if_neg h3,if_neg h4,if_pos h5] at h;cases h
 · exact ⟨rfl,rfl⟩
end
end Go.Fw
namespace Go.Proofs.YtaklhjodjbgmgaaGreat
open Go.Fw Go.Proofs Go.RowKit
open Go.Proofs.Tryz (prog)
section
variable {σ σ0:Store}
theorem zip2 {α β:Type}(l:List α)(m:List β)(k:Nat)(a:α)(b:β) :(l.set k a).zip (m.set k b) =(l.zip m).set k (a,b):=by
 refine List.ext_getElem? fun j=>?_
 by_cases hj:j=k
 · subst hj
   by_cases h1:j < l.length
   · by_cases h2:j < m.length
     · rw[c_d (List.getElem?_set_self h1) (List.getElem?_set_self h2),List.getElem?_set_self (by simp;omega)]
     · rw[List.getElem?_eq_none (by simp;omega),List.getElem?_eq_none (by simp;omega)]
   · rw[List.getElem?_eq_none (by simp;omega),List.getElem?_eq_none (by simp;omega)]
 · rw[List.getElem?_set_ne (Ne.symm hj)]
   simp only[List.zip_eq_zipWith,List.getElem?_zipWith,List.getElem?_set_ne (Ne.symm hj)]
section
variable {s:Store} {id:Nat} {L:YL} {y:Yd} {fr:List (Nat × SO)} {N:Nat}
theorem YdIn.putRcv (h:YdIn s id L y fr){k:Nat}{pl:PL}{p:Pst}(hpl:L.ps[k]? =some pl)(hp:y.Psts[k]? =some p){r:Rc}{lost num:Int}{s':Store}
   (hs:s' pl.j= .live b_o [[iD r.Last,iD lost,iD num,iD r.Peer,iD r.Age]]) (ho:Keep pl.j s s') :
   YdIn s' id { L with ps:=L.ps.set k { pl with lost:=lost,num:=num } } { y with Psts:=y.Psts.set k { p with R:=r } } fr:=by
 have hz:=c_d hpl hp
 have hk:=(zA.1 hpl).1
 have hX:((L.ps.zip y.Psts).map l_0)[k]? =some (pl.j, .live b_o [[iD p.R.Last,iD pl.lost,iD pl.num,iD p.R.Peer,iD p.R.Age]]):=by rw[zL,hz];rfl
 have h0:Heap s ((b_i id L y ++ (L.ps.zip y.Psts).map g_e) ++ (L.ps.zip y.Psts).map l_0 ++ (trE L y ++ ((L.tk.zip y.Trs).map tkE ++ fr))):=by
   have:=h.heap;unfold b_8 at this;simpa only[zK] using this
 have hp':=Heap.put h0 hX hs (by intro e;cases e) ho
 have eb:b_i id { L with ps:=L.ps.set k { pl with lost:=lost,num:=num } } { y with Psts:=y.Psts.set k { p with R:=r } } =b_i id L y:=by
   unfold b_i g_q
   have e2:(L.ps.set k { pl with lost:=lost,num:=num }).map (fun x=> [pO x.i]) =L.ps.map (fun x=> [pO x.i]):=by
     rw[b_6,f_q (by rw[zL,hpl];rfl)]
   simp only[e2,List.length_set];rfl
 refine ⟨?_,h.cfg,h.keys,h.flt,by simpa using h.psl,fun k' pl' p' a b=>?_,h.tkl,h.trn⟩
 · have e : b_8 id { L with ps := L.ps.set k { pl with lost := lost, num := num } } { y with Psts := y.Psts.set k { p with R := r } } fr =
       (b_i id L y ++ (L.ps.zip y.Psts).map g_e) ++ ((L.ps.zip y.Psts).map l_0).set k (pl.j, .live b_o [[iD r.Last,iD lost,iD num,iD r.Peer,iD r.Age]]) ++ (trE L y ++ ((L.tk.zip y.Trs).map tkE ++ fr)):=by
     unfold b_8
     rw[eb]
     simp only[zip2,b_6]
     rw[f_q (x:=g_e _) (by rw[zL,hz];rfl)]
     simp only[zK];rfl
   rw[e];exact hp'
 · have a:(L.ps.set k { pl with lost:=lost,num:=num })[k']? =some pl':=a
   have b:(y.Psts.set k { p with R:=r })[k']? =some p':=b
   by_cases hkk:k'=k
   · subst hkk
     rw[List.getElem?_set_self hk] at a
     rw[List.getElem?_set_self (by rw[<-h.psl];exact hk)] at b
     injection a with a;injection b with b
     subst a b
     exact h.sh k' pl p hpl hp
   · rw[List.getElem?_set_ne (Ne.symm hkk)] at a b
     exact h.sh k' pl' p' a b
theorem YdIn.putStamp (h:YdIn s id L y fr){k:Nat}{pl:PL}{p:Pst}(hpl:L.ps[k]? =some pl)(hp:y.Psts[k]? =some p){n:Int}{s':Store}
   (hs:s' pl.i= .live d_j [[pO pl.j,pl.h0,pl.h1,pl.h2,pl.h3,iD n]]) (ho:Keep pl.i s s') :
   YdIn s' id L { y with Psts:=y.Psts.set k { p with Stamp:=n } } fr:=by
 have hz:=c_d hpl hp
 have hk:=(zA.1 hpl).1
 have hX:((L.ps.zip y.Psts).map g_e)[k]? =some (pl.i, .live d_j [[pO pl.j,pl.h0,pl.h1,pl.h2,pl.h3,iD p.Stamp]]):=by rw[zL,hz];rfl
 have h0:Heap s (b_i id L y ++ (L.ps.zip y.Psts).map g_e ++ ((L.ps.zip y.Psts).map l_0 ++ (trE L y ++ ((L.tk.zip y.Trs).map tkE ++ fr)))):=by
   have:=h.heap;unfold b_8 at this;simpa only[zK] using this
 have hp':=Heap.put h0 hX hs (by intro e;cases e) ho
 have eb:b_i id L { y with Psts:=y.Psts.set k { p with Stamp:=n } } =b_i id L y:=by
   unfold b_i g_q
   simp only[List.length_set]
 refine ⟨?_,h.cfg,h.keys,h.flt,by simpa using h.psl,fun k' pl' p' a b=>?_,h.tkl,h.trn⟩
 · have e : b_8 id L { y with Psts := y.Psts.set k { p with Stamp := n } } fr =
       b_i id L y ++ ((L.ps.zip y.Psts).map g_e).set k (pl.i, .live d_j [[pO pl.j,pl.h0,pl.h1,pl.h2,pl.h3,iD n]]) ++ ((L.ps.zip y.Psts).map l_0 ++ (trE L y ++ ((L.tk.zip y.Trs).map tkE ++ fr))):=by
     unfold b_8
     rw[eb]
     simp only[a_x5 hpl,b_6]
     rw[f_q (x:=l_0 _) (by rw[zL,hz];rfl)]
     simp only[zK];rfl
   rw[e];exact hp'
 · have b:(y.Psts.set k { p with Stamp:=n })[k']? =some p':=b
   by_cases hkk:k'=k
   · subst hkk
     rw[List.getElem?_set_self (by rw[<-h.psl];exact hk)] at b
     injection b with b
     subst b
     rw[hpl] at a;injection a with a;subst a
     exact h.sh k' pl p hpl hp
   · rw[List.getElem?_set_ne (Ne.symm hkk)] at b
     exact h.sh k' pl' p' a b
theorem YdIn.take (h:YdIn s id L y fr)(hw:Ywf y N)(oc:Int){t:List UInt8}(ht:t.length<=2 ^ 59) :
   DCalls prog f_5 [.one (pO id),iA oc, .one (.str (ofL t))] s fun r s'=>r= .a (iA (y.take oc t).2)/\∃L',YdIn s' id L' (y.take oc t).1 fr:=by
 have hcl:=c_m hw.chk
 have hPo:=h.posAt hw
 have hpsl:=h.psl
 have hYt:y.take oc t=match a_n y.Psts oc with
   | none=>(y,20)
   | some p=>
     if (p.R.take y.Now t).2.2≠0 then (y,(p.R.take y.Now t).2.2) else
     match g_d p.H (p.R.take y.Now t).2.1 with
     | none=>({ y with Psts:=y.Psts.set oc.toNat { p with R:=(p.R.take y.Now t).1 } },3)
     | some o=>({ y with Psts:=y.Psts.set oc.toNat ⟨(p.R.take y.Now t).1,p.H,(p.R.take y.Now t).1.Last⟩,Pts:=f_c p.H.Pts o.Pos y.Pts,Gts:=e_9 p.H.Xs o.Shut y.Gts,Lps:=q_6 p.H.Sgs o.Asp y.Lps },0):=rfl
 refine a_bf (pO id) oc (ofL t) s _ ?_
 intro R hR
 refine bcd (fun h0=>⟨?_,L,?_⟩) (fun h0=>⟨trivial,_,_,_,rfl,_,a_d h.row,_,rfl,hPo.lenK ?_⟩)
 · rw[hYt,a_5 h0]
 · rw[hYt,a_5 h0];exact h
 rw[zB]
 refine bcd (fun h1=>⟨?_,L,?_⟩) (fun h1=>hR s ?_)
 · rw[hYt,b_u (by omega)]
 · rw[hYt,b_u (by omega)];exact h
 clear hR R
 obtain ⟨k,rfl⟩:=zI (show 0<=oc by omega)
 obtain ⟨pl,hpl⟩:=a_c (l:=L.ps) (j:=k) (by omega)
 obtain ⟨p,hp⟩:=a_c (l:=y.Psts) (j:=k) (by omega)
 obtain ⟨w1,w2,w3,w4,w5⟩:=hw.pst k p hp
 have hk:=(zA.1 hpl).1
 have hk':=(zA.1 hp).1
 rw[a_1,hp] at hYt
 have hYt : y.take (k : Int) t = if (p.R.take y.Now t).2.2 ≠ 0 then (y, (p.R.take y.Now t).2.2) else
     match g_d p.H (p.R.take y.Now t).2.1 with
     | none=>({ y with Psts:=y.Psts.set k { p with R:=(p.R.take y.Now t).1 } },3)
     | some o=>({ y with Psts:=y.Psts.set k ⟨(p.R.take y.Now t).1,p.H,(p.R.take y.Now t).1.Last⟩,Pts:=f_c p.H.Pts o.Pos y.Pts,Gts:=e_9 p.H.Xs o.Shut y.Gts,Lps:=q_6 p.H.Sgs o.Asp y.Lps },0):=hYt
 have hrc:RcIn s pl.j p.R:=⟨_,_,h.rcv hpl hp⟩
 refine ⟨trivial,_,_,_,rfl,_,a_d h.row,_,rfl,hPo.load (j:=k) (show (L.ps.map fun x=> [pO x.i])[k]? =some [pO pl.i] by rw[zL,hpl];rfl) m_v rfl ⟨pO pl.i,rfl,trivial,_,_,_,rfl,_,a_d (h.post hpl hp),pO pl.j,rfl,trivial,_,_,_,rfl,_,a_d h.row,y.Now,rfl,(p_m hrc hw.now.2 ht).mono ?_⟩⟩
 rintro r s1 ⟨rfl,⟨lost,num,hr1⟩,keep1⟩
 have hy1:=h.putRcv hpl hp hr1 keep1
 refine ⟨_,_,rfl,bcn (fun he=>?_) (fun he=>?_)⟩
 · rw[hYt,if_pos he]
   have e1:y.Psts.set k ({ p with R:=p.R } :Pst) =y.Psts:=f_q hp
   rw[a_o7 he,e1] at hy1
   exact ⟨rfl,_,hy1⟩
 rw[hYt,if_neg (by rw[he];simp)]
 clear hYt
 obtain ⟨k1,k2⟩:=a_kb he
 generalize hr':(p.R.take y.Now t).1=r' at *
 generalize hb:(p.R.take y.Now t).2.1=b at *
 have hbl:b.length<=1000:=by rw[k2];exact a_wi t
 have hpl1:(L.ps.set k { pl with lost:=lost,num:=num })[k]? =some { pl with lost:=lost,num:=num } :=List.getElem?_set_self hk
 have hp1:(y.Psts.set k { p with R:=r' })[k]? =some { p with R:=r' } :=List.getElem?_set_self hk'
 have hsh:=h.sh k pl p hpl hp
 obtain ⟨l1,l2,l3⟩:=v_v y.C k
 have l1:p.H.Pts.length<=y.C.Secs.length:=by rw[w1];exact (l1 y.C.Secs 0).2
 have l2:p.H.Xs.length<=y.C.Xs.length:=by rw[w1];exact l2 y.C.Xs 0
 have l3:p.H.Sgs.length<=y.C.Sigs.length:=by rw[w1];exact l3 y.C.Sigs 0
 have row1:=hy1.post hpl1 hp1
 refine ⟨trivial,_,_,_,rfl,_,a_d row1,pl.h0,pl.h1,pl.h2,pl.h3,rfl,(w_b hsh (by omega) (by omega)).mono ?_⟩
 rintro r s2 ⟨rfl,⟨hn,rfl⟩ | ⟨o,d1,d2,d3,ho,rfl,hO⟩⟩
 · rw[hn]
   exact ⟨_,_,_,3,rfl,bcn (fun _=>⟨rfl,_,hy1⟩) (fun e=>by cases e)⟩
 rw[ho]
 obtain ⟨m1,m2,m3⟩:=a_iq ho
 refine ⟨d1,d2,d3,0,rfl,bcn (fun e=>absurd rfl e) (fun _=>⟨trivial,_,_,_,rfl,_,a_d row1,pO pl.j,rfl,trivial,_,_,_,rfl,(s_5 ⟨_,_,hy1.rcv hpl1 hp1⟩).use ⟨r'.Last,rfl,trivial,_,_,_,rfl,b_h row1 (by simp) fun s3 h3 o3=>?_⟩⟩)⟩
 have hy3:=hy1.putStamp hpl1 hp1 h3 (.of o3)
 have hy3:YdIn s3 id { L with ps:=L.ps.set k { pl with lost:=lost,num:=num } } { y with Psts:=y.Psts.set k ⟨r',p.H,r'.Last⟩ } fr:=by
   have e:(y.Psts.set k { p with R:=r' }).set k { ({ p with R:=r' } :Pst) with Stamp:=r'.Last } =y.Psts.set k ⟨r',p.H,r'.Last⟩:=by rw[List.set_set]
   have hy3:YdIn s3 id { L with ps:=L.ps.set k { pl with lost:=lost,num:=num } } { y with Psts:=(y.Psts.set k { p with R:=r' }).set k { ({ p with R:=r' } :Pst) with Stamp:=r'.Last } } fr:=hy3
   rwa [e] at hy3
 have hp3:(y.Psts.set k (⟨r',p.H,r'.Last⟩ :Pst))[k]? =some ⟨r',p.H,r'.Last⟩:=List.getElem?_set_self hk'
 clear row1 h3 o3 hy1 hp1 hr1 keep1 hrc hPo
 generalize hL':({ L with ps:=L.ps.set k { pl with lost:=lost,num:=num } } :YL) =L' at hy3
 have hpl3:L'.ps[k]? =some { pl with lost:=lost,num:=num } :=by rw[<-hL'];exact hpl1
 generalize hy':({ y with Psts:=y.Psts.set k ⟨r',p.H,r'.Last⟩ } :Yd) =y' at hy3
 have row3:∀{s4 P G Q},YdIn s4 id L' { y' with Pts:=P,Gts:=G,Lps:=Q } fr->s4 pl.i= .live d_j [[pO pl.j,pl.h0,pl.h1,pl.h2,pl.h3,iD r'.Last]]:=fun hy=>hy.post hpl3 (by rw[<-hy'];exact hp3)
 have eC:y'.C=y.C:=by rw[<-hy']
 have e1:y'.Pts=y.Pts:=by rw[<-hy']
 have e2:y'.Gts=y.Gts:=by rw[<-hy']
 have e3:y'.Lps=y.Lps:=by rw[<-hy']
 have hPts:∀i ∈ p.H.Pts,0<=i/\i < y.Pts.length:=fun i hi=>by
   rw[w1] at hi
   have:=y_r _ _ _ i hi
   have:=hw.pts
   omega
 have hXs:∀i ∈ p.H.Xs,0<=i/\i < y.Gts.length:=fun i hi=>by
   rw[w1] at hi
   have:=a_dj _ _ _ _ i hi
   have:=hw.gts
   omega
 have hSgs:∀i ∈ p.H.Sgs,0<=i/\i < y.Lps.length:=fun i hi=>by
   rw[w1] at hi
   have:=a_fs _ _ _ _ i hi
   have:=hw.lps
   omega
 have hpl:=hw.pts
 have hgl:=hw.gts
 have hll:=hw.lps
 refine ⟨trivial,_,_,_,rfl,_,a_d (row3 (P:=y'.Pts) (G:=y'.Gts) (Q:=y'.Lps) hy3),pl.h1,rfl,(hsh.pts s3).lenK ⟨fun n s'=>∃(j:Nat) (P:List Th),n=j/\j<=p.H.Pts.length/\P.length=y.Pts.length/\YdIn s' id L' { y' with Pts:=P } fr/\f_c (p.H.Pts.drop j) (o.Pos.drop j) P=f_c p.H.Pts o.Pos y.Pts,fun n _=>p.H.Pts.length - n.toNat,⟨0,y.Pts,rfl,by omega,rfl,by rw[<-e1];exact hy3,rfl⟩,?_⟩⟩
 rw[zB]
 rintro _ s4 ⟨j,P,rfl,hj,hPl,hy4,hE⟩
 refine bcd (fun hlt=>?_) (fun hge=>?_)
 · have hlt:j < p.H.Pts.length:=by omega
   obtain ⟨i,hi⟩:=a_c (l:=p.H.Pts) (j:=j) hlt
   obtain ⟨v,hv⟩:=a_c (l:=o.Pos) (j:=j) (by omega)
   obtain ⟨i0,i1⟩:=hPts i (zC hi)
   obtain ⟨q,rfl⟩:=zI i0
   obtain ⟨x,hx⟩:=a_c (l:=P) (j:=q) (by omega)
   have hdec:=a_v hlt
   rw[b_k hi,b_k hv,r_h] at hE
   refine (hsh.pts s4).load (a_g hi) c_int rfl ⟨(q:Int),rfl,(hO.pos s4).load (a_g hv) c_int rfl ⟨v,rfl,?_⟩⟩
   rw[a_i (by omega)]
   refine bcn (fun hne=>?_) (fun he0=>⟨by first | exact rfl | trivial,⟨j+1,P,rfl,hlt,hPl,hy4,by rw[if_neg (by rw[he0];simp)] at hE;exact hE⟩,hdec⟩)
   have hA:At prog s4 a_l (.osl L'.p 0 P.length) (P.map Th.enc):=At.fresh hy4.pts (by simp;omega) (by simp)
   refine ⟨trivial,_,_,_,rfl,_,a_d hy4.row,_,rfl,hA.idxK b_9 rfl (by simpa using (zA.1 hx).1) ((hO.pos s4).load (a_g hv) c_int rfl ⟨v,rfl,?_⟩)⟩
   rw[zF]
   refine (j_5 (l:=P) hy4.pts rfl (by omega) hx v).mono ?_
   rintro r s5 ⟨rfl,h5,o5⟩
   refine ⟨rfl,by first | exact rfl | trivial,⟨j+1,P.set q (x.order v),rfl,hlt,by simpa using hPl,hy4.putP (by simp) h5 (.of o5),?_⟩,hdec⟩
   rw[if_pos hne,zF,i_t hx] at hE
   exact hE
 have e:j=p.H.Pts.length:=by omega
 subst e
 rw[List.drop_length,v_d] at hE
 subst hE
 clear hge hj hy3
 generalize hPe:f_c p.H.Pts o.Pos y.Pts=P' at hy4
 refine ⟨trivial,_,_,_,rfl,_,a_d (row3 (P:=P') (G:=y'.Gts) (Q:=y'.Lps) hy4),pl.h2,rfl,(hsh.xs s4).lenK ⟨fun n s'=>∃(j:Nat) (P:List Th),n=j/\j<=p.H.Xs.length/\P.length=y.Gts.length/\YdIn s' id L' { y' with Pts:=P',Gts:=P } fr/\e_9 (p.H.Xs.drop j) (o.Shut.drop j) P=e_9 p.H.Xs o.Shut y.Gts,fun n _=>p.H.Xs.length - n.toNat,⟨0,y.Gts,rfl,by omega,rfl,by rw[<-e2];exact hy4,rfl⟩,?_⟩⟩
 clear hy4 s4
 rw[zB]
 rintro _ s4 ⟨j,P,rfl,hj,hGl,hy4,hE⟩
 refine bcd (fun hlt=>?_) (fun hge=>?_)
 · have hlt:j < p.H.Xs.length:=by omega
   obtain ⟨i,hi⟩:=a_c (l:=p.H.Xs) (j:=j) hlt
   obtain ⟨v,hv⟩:=a_c (l:=o.Shut) (j:=j) (by omega)
   obtain ⟨i0,i1⟩:=hXs i (zC hi)
   obtain ⟨q,rfl⟩:=zI i0
   obtain ⟨x,hx⟩:=a_c (l:=P) (j:=q) (by omega)
   have hdec:=a_v hlt
   rw[b_k hi,b_k hv,r_r,zF,i_t hx] at hE
   have hA:At prog s4 a_l (.osl L'.g 0 P.length) (P.map Th.enc):=At.fresh hy4.gts (by simp;omega) (by simp)
   refine (hsh.xs s4).load (a_g hi) c_int rfl ⟨(q:Int),rfl,trivial,_,_,_,rfl,_,a_d hy4.row,_,rfl,hA.idxK b_9 rfl (by simpa using (zA.1 hx).1) ((hO.shut s4).load (a_g hv) c_int rfl ⟨v,rfl,?_⟩)⟩
   rw[zF]
   refine (j_5 (l:=P) hy4.gts rfl (by omega) hx v).mono ?_
   rintro r s5 ⟨rfl,h5,o5⟩
   rw[a_i (by omega)]
   exact ⟨rfl,by first | exact rfl | trivial,⟨j+1,P.set q (x.order v),rfl,hlt,by simpa using hGl,hy4.putG (by simp) h5 (.of o5),hE⟩,hdec⟩
 have e:j=p.H.Xs.length:=by omega
 subst e
 rw[List.drop_length,v_1] at hE
 subst hE
 clear hge hj
 generalize hGe:e_9 p.H.Xs o.Shut y.Gts=G' at hy4
 refine ⟨trivial,_,_,_,rfl,_,a_d (row3 (P:=P') (G:=G') (Q:=y'.Lps) hy4),pl.h3,rfl,(hsh.sgs s4).lenK ⟨fun n s'=>∃(j:Nat) (P:List Lp),n=j/\j<=p.H.Sgs.length/\P.length=y.Lps.length/\YdIn s' id L' { y' with Pts:=P',Gts:=G',Lps:=P } fr/\q_6 (p.H.Sgs.drop j) (o.Asp.drop j) P=q_6 p.H.Sgs o.Asp y.Lps,fun n _=>p.H.Sgs.length - n.toNat,⟨0,y.Lps,rfl,by omega,rfl,by rw[<-e3];exact hy4,rfl⟩,?_⟩⟩
 clear hy4 s4
 rw[zB]
 rintro _ s4 ⟨j,P,rfl,hj,hLl,hy4,hE⟩
 refine bcd (fun hlt=>?_) (fun hge=>?_)
 · have hlt:j < p.H.Sgs.length:=by omega
   obtain ⟨i,hi⟩:=a_c (l:=p.H.Sgs) (j:=j) hlt
   obtain ⟨v,hv⟩:=a_c (l:=o.Asp) (j:=j) (by omega)
   obtain ⟨i0,i1⟩:=hSgs i (zC hi)
   obtain ⟨q,rfl⟩:=zI i0
   obtain ⟨x,hx⟩:=a_c (l:=P) (j:=q) (by omega)
   have hdec:=a_v hlt
   rw[b_k hi,b_k hv,a_a9,zF,i_t hx] at hE
   have hA:At prog s4 b_c (.osl L'.l 0 P.length) (P.map Lp.enc):=At.fresh hy4.lps (by simp;omega) (by simp)
   refine (hsh.sgs s4).load (a_g hi) c_int rfl ⟨(q:Int),rfl,trivial,_,_,_,rfl,_,a_d hy4.row,_,rfl,(hO.asp s4).load (a_g hv) c_int rfl ⟨v,rfl,hA.idxK h_r rfl (by simpa using (zA.1 hx).1) ?_⟩⟩
   rw[zF]
   refine b_m hy4.lps (zA.1 hx).1 (a_g hx) (by simp[Lp.enc]) fun s5 h5 o5=>?_
   rw[a_i (by omega)]
   exact ⟨by first | exact rfl | trivial,⟨j+1,P.set q { x with Asp:=v },rfl,hlt,by simpa using hLl,hy4.putL (by simp) (by rw[h5,b_6];rfl) (.of o5),hE⟩,hdec⟩
 have e:j=p.H.Sgs.length:=by omega
 subst e
 rw[List.drop_length,a_gs] at hE
 subst hE
 refine ⟨rfl,L',?_⟩
 rw[<-hy'] at hy4
 subst hPe hGe
 exact hy4
end
end
end Go.Proofs.YtaklhjodjbgmgaaGreat
namespace Go.Proofs.YtaklhjodjbgmgaaGreat
open Go.Fw Go.Proofs Go.RowKit
section
variable {σ σ0:Store}
section
variable {s:Store} {id:Nat} {L:YL} {y:Yd} {fr:List (Nat × SO)} {N:Nat}
theorem Th.tick_left {x:Th}{b:Bool}(h:0<=x.Left/\x.Left<=2) :0<=(x.tick b).Left/\(x.tick b).Left<=2:=by
 unfold Th.tick
 split
 · split <;> (simp only;omega)
 · exact h
theorem Th.order_left (x:Th)(o:Int)(h:0<=x.Left/\x.Left<=2) :0<=(x.order o).Left/\(x.order o).Left<=2:=by
 unfold Th.order
 split
 · simp only;omega
 · exact h
theorem Ywf.tick (hw:Ywf y N){now:Int}(hn:now<=9223372036854775807) :Ywf (y.tick now) N:=by
 unfold Yd.tick
 split
 · exact hw
 refine ⟨hw.chk,(i_2 _ _ _).trans hw.pts,(i_2 _ _ _).trans hw.gts,hw.lps,hw.psts,hw.pst,hw.trs,hw.tr,?_,hw.last,fun x hx=>?_⟩
 · have:=hw.now
   show 0<=now/\now<=9223372036854775807
   omega
 · rcases List.mem_append.1 hx with hx | hx
   · obtain ⟨j,hj⟩:=List.mem_iff_getElem?.1 hx
     rw[i_x] at hj
     cases hz:y.Pts[j]? with
     | none=>rw[hz] at hj;cases hj
     | some z=>
       rw[hz] at hj
       injection hj with hj
       rw[<-hj]
       exact Th.tick_left (hw.left z (zE _ (zC hz)))
   · obtain ⟨j,hj⟩:=List.mem_iff_getElem?.1 hx
     rw[i_x] at hj
     cases hz:y.Gts[j]? with
     | none=>rw[hz] at hj;cases hj
     | some z=>
       rw[hz] at hj
       injection hj with hj
       rw[<-hj]
       exact Th.tick_left (hw.left z (zD _ (zC hz)))
theorem Ywf.look (hw:Ywf y N) :Ywf y.look N:=by
 refine ⟨hw.chk,hw.pts,hw.gts,(r_6 _ _ _ _).trans hw.lps,hw.psts,hw.pst,hw.trs,hw.tr,hw.now,fun l hl=>?_,hw.left⟩
 obtain ⟨j,hj⟩:=List.mem_iff_getElem?.1 hl
 have hj:(o_9 y.shows y.Now y.Lps 0)[j]? =some l:=hj
 rw[k_p] at hj
 cases hz:y.Lps[j]? with
 | none=>rw[hz] at hj;cases hj
 | some z=>
   rw[hz] at hj
   injection hj with hj
   rw[<-hj]
   split
   · have:=hw.now;show -1<=y.Now/\y.Now<=9223372036854775807;omega
   · exact hw.last z (zC hz)
theorem Ywf.take (hw:Ywf y N)(oc:Int)(t:List UInt8) :Ywf (y.take oc t).1 N:=by
 unfold Yd.take
 split
 · exact hw
 rename_i p hp
 obtain ⟨h0,h1,h2⟩:=b_w hp
 obtain ⟨k,rfl⟩:=zI h0
 rw[zF] at h2
 split
 · exact hw
 rename_i he
 have he:(p.R.take y.Now t).2.2=0:=Classical.byContradiction he
 have hr:=(a_kb he).1
 obtain ⟨w1,w2,w3,w4,w5⟩:=hw.pst k p h2
 have hs:=a_ey t
 have pst:∀(q:Pst),q.H=p.H->q.R=(p.R.take y.Now t).1->(q.Stamp=p.Stamp\/q.Stamp=(p.R.take y.Now t).1.Last)->∀(k':Nat) p',(y.Psts.set k q)[k']? =some p'->p'.H=y.C.shape k'/\p'.R.Peer=(k':Int) +50/\p'.R.Age=y.C.Age/\-1<=p'.Stamp/\p'.Stamp<=4294967296:=fun q q1 q2 q3 k' p' hp'=>by
   by_cases hk:k'=k
   · subst hk
     rw[List.getElem?_set_self (zA.1 h2).1] at hp'
     injection hp' with hp'
     subst hp'
     rw[hr] at q2 q3
     have q3:q.Stamp=p.Stamp\/q.Stamp=(a_2 t).s:=q3
     refine ⟨q1.trans w1,by rw[q2];exact w2,by rw[q2];exact w3,by omega,by omega⟩
   · rw[List.getElem?_set_ne (Ne.symm hk)] at hp'
     exact hw.pst k' p' hp'
 split
 · exact ⟨hw.chk,hw.pts,hw.gts,hw.lps,by simpa using hw.psts,by rw[zF];exact pst _ rfl rfl (.inl rfl),hw.trs,hw.tr,hw.now,hw.last,hw.left⟩
 · rename_i o ho
   obtain ⟨a1,a2⟩:=a_d2 (p:=fun x=>0<=x.Left/\x.Left<=2) Th.order_left p.H.Pts o.Pos y.Pts (fun x hx=>hw.left x (zE _ hx))
   obtain ⟨b1,b2⟩:=a_du (p:=fun x=>0<=x.Left/\x.Left<=2) Th.order_left p.H.Xs o.Shut y.Gts (fun x hx=>hw.left x (zD _ hx))
   obtain ⟨c1,c2⟩:=a_pc (p:=fun l=> -1<=l.Last/\l.Last<=9223372036854775807) (fun x o h=>h) p.H.Sgs o.Asp y.Lps hw.last
   refine ⟨hw.chk,a2.trans hw.pts,b2.trans hw.gts,c2.trans hw.lps,by simpa using hw.psts,by rw[zF];exact pst _ rfl rfl (.inr rfl),hw.trs,hw.tr,hw.now,c1,fun x hx=>?_⟩
   rcases List.mem_append.1 hx with hx | hx
   · exact a1 x hx
   · exact b1 x hx
theorem Heap.repl {s s':Store}{A X B:List (Nat × SO)}(h:Heap s (A ++ X ++ B)){k i i':Nat}{so so':SO}(hk:X[k]? =some (i,so))(hi:i'=i\/s i'= .free)(hs:s' i'=so')(hne:so'≠ .free)(ho:∀j,j≠i->s j≠ .free->s' j=s j) :
   Heap s' (A ++ X.set k (i',so') ++ B):=by
 obtain ⟨hkl,hke⟩:=zA.1 hk
 have eX:X=X.take k ++ (i,so) ::X.drop (k+1):=by
   have:=List.set_eq_take_append_cons_drop (l:=X) (i:=k) (a:=(i,so))
   rw[if_pos hkl,f_q hk] at this
   exact this
 have eS:X.set k (i',so') =X.take k ++ (i',so') ::X.drop (k+1):=by rw[List.set_eq_take_append_cons_drop,if_pos hkl]
 have perm:∀e:Nat × SO,(A ++ (X.take k ++ e::X.drop (k+1)) ++ B).Perm (e:: (A ++ X.take k ++ X.drop (k+1) ++ B)):=fun e=>by
   have:A ++ (X.take k ++ e::X.drop (k+1)) ++ B=(A ++ X.take k) ++ e:: (X.drop (k+1) ++ B):=by simp
   rw[this]
   refine List.perm_middle.trans ?_
   simp
 rw[eX] at h
 have h1:=h.perm (perm (i,so))
 rw[eS]
 refine Heap.perm ?_ (perm (i',so')).symm
 have hrest:=h1.tail
 have hnot:∀x ∈ A ++ X.take k ++ X.drop (k+1) ++ B,x.1≠i:=fun x hx e=>(List.nodup_cons.1 h1.1).1 (List.mem_map.2 ⟨x,hx,e⟩)
 refine ⟨List.nodup_cons.2 ⟨fun hm=>?_,hrest.1⟩,fun x hx=>?_⟩
 · obtain ⟨x,hx,e⟩:=List.mem_map.1 hm
   have e:x.1=i':=e
   rcases hi with rfl | hf
   · exact hnot x hx e
   · have:=hrest.2 x hx
     rw[e,hf] at this
     exact this.2 this.1.symm
 · rcases List.mem_cons.1 hx with rfl | hx
   · exact ⟨hs,hne⟩
   · have:=hrest.2 x hx
     exact ⟨by rw[ho x.1 (hnot x hx) (by rw[this.1];exact this.2)];exact this.1,this.2⟩
theorem YdIn.putTr (h:YdIn s id L y fr){k:Nat}{z x x':Nat × List (List D)}{t t':Tr}(hz:L.trd=some z)(hx:L.tk[k]? =some x)(ht:y.Trs[k]? =some t){s':Store}
   (h1:s' z.1= .live a_m ((((L.tk.zip y.Trs).map a_z).set k (a_z (x',t'))) ++ z.2)) (h2:s' x'.1= .live a_e (t'.Secs.map Go.Fw.encI ++ x'.2)) (hi:x'.1=x.1\/s x'.1= .free)
   (ho:∀j,j≠z.1->j≠x.1->s j≠ .free->s' j=s j) :YdIn s' id { L with tk:=L.tk.set k x' } { y with Trs:=y.Trs.set k t' } fr:=by
 have hzip:=c_d hx ht
 have hk:=(zA.1 hx).1
 have h0:Heap s ((b_i id L y ++ ((L.ps.zip y.Psts).map g_e ++ ((L.ps.zip y.Psts).map l_0 ++ trE L y))) ++ (L.tk.zip y.Trs).map tkE ++ fr):=by
   have:=h.heap;unfold b_8 at this;simpa only[zK] using this
 have hX:((L.tk.zip y.Trs).map tkE)[k]? =some (tkE (x,t)):=by rw[zL,hzip];rfl
 have hzs:s z.1= .live a_m ((L.tk.zip y.Trs).map a_z ++ z.2):=h.trd hz
 have hzx:x'.1≠z.1:=by
   intro e
   rcases hi with hi | hi
   · have:=h.tk hx ht
     rw[<-hi,e,hzs] at this
     injection this with e1 _
     exact absurd e1 (by decide)
   · rw[e,hzs] at hi;cases hi
 have hm:Heap (fun j=>if j=z.1 then s z.1 else s' j) ((b_i id L y ++ ((L.ps.zip y.Psts).map g_e ++ ((L.ps.zip y.Psts).map l_0 ++ trE L y))) ++ ((L.tk.zip y.Trs).map tkE).set k (tkE (x',t')) ++ fr):=by
   refine Heap.repl h0 hX hi ?_ (by intro e;cases e) fun j hj hf=>?_
   · show (if x'.1=z.1 then s z.1 else s' x'.1) =_
     rw[if_neg hzx];exact h2
   · show (if j=z.1 then s z.1 else s' j) =s j
     by_cases e:j=z.1
     · rw[if_pos e,e]
     · rw[if_neg e];exact ho j e hj hf
 have hT:trE L y=[(z.1, .live a_m ((L.tk.zip y.Trs).map a_z ++ z.2))]:=by unfold trE;rw[hz]
 have hm2:Heap (fun j=>if j=z.1 then s z.1 else s' j) ((b_i id L y ++ ((L.ps.zip y.Psts).map g_e ++ (L.ps.zip y.Psts).map l_0)) ++ trE L y ++ (((L.tk.zip y.Trs).map tkE).set k (tkE (x',t')) ++ fr)):=by
   simpa only[zK] using hm
 have hfin:=Heap.put (s':=s') hm2 (k:=0) (i:=z.1) (by rw[hT];rfl) h1 (by intro e;cases e) fun j hj _=>by
   show s' j=if j=z.1 then s z.1 else s' j
   rw[if_neg hj]
 have eb:b_i id { L with tk:=L.tk.set k x' } { y with Trs:=y.Trs.set k t' } =b_i id L y:=by
   unfold b_i g_q trD
   simp only[hz,List.length_set]
 refine ⟨?_,h.cfg,h.keys,h.flt,h.psl,h.sh,by simpa using h.tkl,fun e=>?_⟩
 · have e : b_8 id { L with tk := L.tk.set k x' } { y with Trs := y.Trs.set k t' } fr =
       (b_i id L y ++ ((L.ps.zip y.Psts).map g_e ++ (L.ps.zip y.Psts).map l_0)) ++ (trE L y).set 0 (z.1, .live a_m ((((L.tk.zip y.Trs).map a_z).set k (a_z (x',t'))) ++ z.2)) ++ (((L.tk.zip y.Trs).map tkE).set k (tkE (x',t')) ++ fr):=by
     unfold b_8
     rw[eb,hT]
     have e2:trE { L with tk:=L.tk.set k x' } { y with Trs:=y.Trs.set k t' } =[(z.1, .live a_m ((((L.tk.zip y.Trs).map a_z).set k (a_z (x',t'))) ++ z.2))]:=by
       unfold trE
       simp only[hz,zip2,b_6]
     rw[e2]
     simp only[zip2,b_6,zK,List.set_cons_zero]
   rw[e];exact hfin
 · have e:L.trd=none:=e
   rw[hz] at e;cases e
end
end
end Go.Proofs.YtaklhjodjbgmgaaGreat
namespace Go.Proofs.YtaklhjodjbgmgaaGreat
open Go.Shelf Go.Proofs
open Go.Proofs.Tryz (prog)
section
def insertLays_ren:Go.Shelf.Ren:=⟨fun | 21=>54 | 27=>93 | 28=>94 | 35=>139 | 39=>165 | n=>n,fun | 22=>25 | 3=>3 | 4=>4 | 0=>0 | n=>n,fun | n=>n⟩
theorem a_qj:Go.Proofs.Lays2.n21 prog insertLays_ren:= {
 mixed:=by kernel_rfl
 f21:=Tryz.func54.trans (congrArg some (by kernel_rfl))
 f27:=Tryz.func93.trans (congrArg some (by kernel_rfl))
 f28:=Tryz.func94.trans (congrArg some (by kernel_rfl))
 f35:=Tryz.func139.trans (congrArg some (by kernel_rfl))
 f39:=Tryz.func165.trans (congrArg some (by kernel_rfl))
 t0:=Tryz.underlying0
 a0:=Tryz.isAgg0
 z0:=Tryz.sizeOf0
 v0:=Tryz.zeroValue0
 t3:=Tryz.underlying3
 a3:=Tryz.isAgg3
 z3:=Tryz.sizeOf3
 v3:=Tryz.zeroValue3
 t4:=Tryz.underlying4
 a4:=Tryz.isAgg4
 z4:=Tryz.sizeOf4
 v4:=Tryz.zeroValue4
 t22:=Tryz.underlying25
 a22:=Tryz.isAgg25
 z22:=Tryz.sizeOf25
 v22:=Tryz.zeroValue25
 i3:=by kernel_rfl }
end
end Go.Proofs.YtaklhjodjbgmgaaGreat
namespace Go.Fw
open Go.Shelf Go.Sort Go.Proofs
section
variable {P:Program} {ρ:Ren} {σ:Store}
theorem g_p (b:Nat) :∀(vs:List Value) (o:Nat) (W:World),(W.setCells b o vs).os=W.os/\(W.setCells b o vs).tape=W.tape/\(W.setCells b o vs).output=W.output/\(W.setCells b o vs).heap.size=W.heap.size/\∀i,i≠b->(W.setCells b o vs).heap[i]? =W.heap[i]?
 | [],o,W=>⟨rfl,rfl,rfl,rfl,fun _ _=>rfl⟩
 | v::r,o,W=>by
   rw[World.setCells]
   obtain ⟨h1,h2,h3,h4,h5⟩:=g_p b r (o+1) (W.setCell ⟨b,o,none⟩ v)
   refine ⟨h1.trans rfl,h2.trans rfl,h3.trans rfl,h4.trans (by simp[World.setCell]),fun i hi=>(h5 i hi).trans ?_⟩
   simp only[World.setCell,Array.getElem?_modify]
   rw[if_neg (Ne.symm hi)]
theorem a_le (W:World)(b:Obj) :(W.alloc b).heap=W.heap.push b:=rfl
theorem a_ki (W:World) :W.drew.heap=W.heap:=rfl
theorem i_h (b:Nat)(t:TypeId)(fz:Nat × Nat) :∀(vs:List Value) (o:Nat) (W:World) (arr:Array Value),W.heap[b]? =some (.cells arr t fz)->o+vs.length<=arr.size->
   (W.setCells b o vs).heap[b]? =some (.cells (arr.toList.take o ++ vs ++ arr.toList.drop (o+vs.length)).toArray t fz)
 | [],o,W,arr,h,hl=>by
   rw[World.setCells,h]
   simp
 | v::r,o,W,arr,h,hl=>by
   rw[List.length_cons] at hl
   rw[World.setCells]
   have h':(W.setCell ⟨b,o,none⟩ v).heap[b]? =some (.cells (arr.setIfInBounds o v) t fz):=by
     simp only[World.setCell,Array.getElem?_modify,if_true,h,Option.map_some]
     rfl
   rw[i_h b t fz r (o+1) _ _ h' (by simp;omega)]
   have ho:o < arr.toList.length:=by simp;omega
   have e1:(arr.setIfInBounds o v).toList=arr.toList.take o ++ v::arr.toList.drop (o+1):=by
     rw[Array.toList_setIfInBounds,List.set_eq_take_append_cons_drop,if_pos ho]
   have e2:(arr.toList.take o).length=o:=by simp;omega
   have e3:∀(l m:List Value),l.length=o->(l ++ v::m).take (o+1) =l ++ [v]:=fun l m h=>by
     subst h;rw[List.take_append,List.take_of_length_le (show l.length<=l.length+1 by omega)];simp
   have e4:∀(l m:List Value) n,l.length=o->(l ++ v::m).drop (o+1+n) =m.drop n:=fun l m n h=>by
     subst h;rw[<-List.drop_drop,List.drop_append,List.drop_eq_nil_of_le (show l.length<=l.length+1 by omega)];simp
   rw[e1,e3 _ _ e2,e4 _ _ _ e2,List.length_cons,List.drop_drop]
   congr 2
   simp[Nat.add_comm,Nat.add_left_comm,Nat.add_assoc]
def a_v7 (P:Program)(σ:Store)(t3:TypeId)(id:Nat)(v:Int)(zs:List Int)(r:RV)(σ':Store) :Prop:=
 (∃id',σ id'= .free/\r= .a (.one (.osl id' 0 (zs.length+1)))/\σ'=σ.set id' (.live t3 ((v::zs).map j_y)))\/
 (∃t rows,σ id= .live t rows/\r= .a (.one (.osl id 0 (zs.length+1)))/\σ'=σ.set id (.live t ((v::zs).map j_y ++ rows.drop (zs.length+1))))
theorem a_qg {k:Nat->Prop}{β:Bk}{W:World}{x y z:A}{vs:Array Value}(hvs:vs.size=[x,y,z].length)(hargs:∀(i:Nat) v u,vs[i]? =some v->[x,y,z][i]? =some u->VA k β W v u) :
   ∃a b c,vs= #[a,b,c]/\VA k β W a x/\VA k β W b y/\VA k β W c z:=by
 have hvs:vs.size=3:=hvs
 obtain ⟨l⟩:=vs
 match l,hvs with
 | [a,b,c],_=>exact ⟨a,b,c,rfl,hargs 0 a x rfl rfl,hargs 1 b y rfl rfl,hargs 2 c z rfl rfl⟩
theorem a_tn (ys:List Int) :((ys.map j_y).flatten) =ys.map (D.int .i64):=by
 induction ys with
 | nil=>rfl
 | cons x r ih=>simp only[List.map_cons,List.flatten_cons,ih];rfl
theorem a_yl {k:Nat->Prop}{β:Bk}{W:World}(ys:List Int) :VL k β W (ys.map (Value.int .i64)) (ys.map j_y).flatten:=by
 rw[a_tn]
 refine ⟨by simp,fun i v d hv hd=>?_⟩
 rw[zL] at hv hd
 cases hx:ys[i]? with
 | none=>rw[hx] at hv;cases hv
 | some x=>rw[hx] at hv hd;cases hv;cases hd;exact .int _ _
theorem a_hk (Ly:Lays2.n21 P ρ){id vid:Nat}{t tv:TypeId}{rows rv:List (List D)}{v:Int}{zs:List Int}(ht:P.cellsOf t=1)(hl:σ id= .live t rows)(hfit:zs.length<=rows.length)(hrows:rows.take zs.length=zs.map j_y)(h0:0 < zs.length)
   (htv:P.cellsOf tv=1) (hlv:σ vid= .live tv (j_y v::rv)) (hne:vid≠id) (hsz:zs.length < 2 ^ 43) (ht3:P.cellsOf (ρ.t 3) =1) :
   DCalls P (ρ.f 21) [.one (.osl id 0 zs.length), .one (.int .i64 0), .one (.osl vid 0 1)] σ (a_v7 P σ (ρ.t 3) id v zs):=by
 refine ⟨by unfold a_av;rw[Ly.f21];rfl,fun k β W vs hS hvs hargs=>?_⟩
 obtain ⟨x,i,y,rfl,hX,hI,hY⟩:=a_qg hvs hargs
 have hX:V k β W x (.osl id 0 zs.length):=hX
 have hI:V k β W i (.int .i64 0):=hI
 have hY:V k β W y (.osl vid 0 1):=hY
 have hI:=V.inv_int hI
 subst hI
 cases hX with
 | osl _ _ _ cap a bi hb ha hc hs hcm=>
   cases hY with
   | osl _ _ _ capv av biv hbv hav hcv hsv hcmv=>
     have ha:=ha (by omega)
     have hav:=hav (by omega)
     subst ha hav
     obtain ⟨arr,g1,g2,g3,g4,g5,g6,g7⟩:=hS.obj id bi t rows hb hl
     obtain ⟨arrv,q1,q2,q3,q4,q5,q6,q7⟩:=hS.obj vid biv tv _ hbv hlv
     have hes:bi.es=1:=by rw[<-g3,ht]
     have hesv:biv.es=1:=by rw[<-q3,htv]
     have hnd:∀{j t r},σ j= .live t r->σ j≠ .dead:=fun h e=>by rw[h] at e;cases e
     have hblk:biv.blk≠bi.blk:=fun e=>hne (hS.inj vid id biv bi hbv hb (hnd hlv) (hnd hl) e)
     rw[hes] at hs g4
     rw[hesv] at hsv q4
     have hH:=a_jk hS (i0:=0) (zs:=zs) ht hl hb (by simpa using hrows)
     have hHv:=a_jk hS (i0:=0) (zs:= [v]) htv hlv hbv (by simp)
     simp only[Nat.zero_mul] at hH hHv
     have hcs:∀(j:Nat) u,(zs.map (Value.int .i64))[j]? =some u->W.cell? ⟨bi.blk,0+j,none⟩ =some u:=fun j u hu=>by
       rw[zL] at hu
       cases hx:zs[j]? with
       | none=>rw[hx] at hu;cases hu
       | some z=>
         rw[hx] at hu
         injection hu with hu
         have hj:=(zA.1 hx).1
         have:=(hH j (by simpa using hj)).1
         rw[<-hu,this]
         obtain ⟨h1,h2⟩:=zA.1 hx
         simp[h1,h2]
     have hvsv:∀(j:Nat) u,[Value.int .i64 v][j]? =some u->W.cell? ⟨biv.blk,0+j,none⟩ =some u:=fun j u hu=>by
       rcases j with _ | j
       · have hu:some (Value.int .i64 v) =some u:=hu
         injection hu with hu
         have:=(hHv 0 (by simp)).1
         rw[<-hu];simpa using this
       · simp at hu
     have h1c:∀u ∈ zs.map (Value.int .i64),u.oneCell'=true:=fun u hu=>by obtain ⟨z,_,rfl⟩:=List.mem_map.1 hu;rfl
     have h1v:∀u ∈ [Value.int .i64 v],u.oneCell'=true:=fun u hu=>by
       simp only[List.mem_singleton] at hu;subst hu;rfl
     by_cases hroom:zs.length+1<=cap
     · -- in place
       have hcell:∀j,j < zs.length+1->(W.cell? ⟨bi.blk,0+j,none⟩).isSome=true:=fun j hj=>by
         have hj2:0+j < arr.size:=by omega
         simp[World.cell?,g1];omega
       have hfz:∀(o:Nat),W.frozen? ⟨bi.blk,o,none⟩ =false:=fun o=>by simp[World.frozen?,g1]
       have hfzv:∀(o:Nat),W.frozen? ⟨biv.blk,o,none⟩ =false:=fun o=>by simp[World.frozen?,q1]
       have hcall:=Go.Proofs.Any2.slices_Insert_int_shift Ly bi.blk 0 zs.length cap 0 biv.blk 0 1 capv (zs.map (Value.int .i64)) [Value.int .i64 v] W h0 (by omega) hroom hcm hblk (by simp) rfl hcs hcell (fun j _=>hfz _) hvsv h1c h1v
         tv t arrv.size arr.size (by simp[World.shape?,q1]) (by simp[World.shape?,g1]) (by omega) (hfzv _) (hfzv _)
       simp only[Nat.zero_mul,Nat.zero_add,List.drop_zero,Int.ofNat_eq_natCast,Int.natCast_zero] at hcall ⊢
       refine hcall.mono ?_
       rintro e W' ⟨rfl,rfl⟩
       have hov:=hS.over hb hl g1 (ns:=(v::zs).map j_y) (vx:=(v::zs).map (Value.int .i64)) 0 (by omega) (by omega) (by simp[hes]) (a_yl _)
         (fun i r hr=>by
           rw[zL] at hr
           cases hx:(v::zs)[i]? with
           | none=>rw[hx] at hr;cases hr
           | some x=>rw[hx] at hr;cases hr;rw[hes];rfl)
         (by simp;omega)
       simp only[Nat.zero_mul,Nat.zero_add,List.take_zero,List.nil_append,zB,List.length_cons] at hov
       have r1:=g_p bi.blk (zs.map (Value.int .i64)) 1 W.drew
       have r2:=g_p bi.blk [Value.int .i64 v] 0 (W.drew.setCells bi.blk 1 (zs.map (Value.int .i64)))
       have hrow1:=i_h bi.blk t (0,0) (zs.map (Value.int .i64)) 1 W.drew arr g1 (by simp;omega)
       have hrow2:=i_h bi.blk t (0,0) [Value.int .i64 v] 0 _ _ hrow1 (by simp;omega)
       have hG:Grow (W.setRow bi.blk ((v::zs).map (Value.int .i64) ++ arr.toList.drop (zs.length+1)).toArray) ((W.drew.setCells bi.blk 1 (zs.map (Value.int .i64))).setCells bi.blk 0 [Value.int .i64 v]):=by
         refine ⟨r2.1.trans r1.1,r2.2.1.trans r1.2.1,r2.2.2.1.trans r1.2.2.1,by rw[setRow_size,r2.2.2.2.1,r1.2.2.2.1];exact Nat.le_refl _,fun b hb'=>?_⟩
         by_cases he:b=bi.blk
         · subst he
           rw[setRow_heap _ _ _ _ _ _ g1,hrow2]
           congr 2
           have hlen:(arr.toList.take 1).length=1:=by simp;omega
           simp[List.drop_append,hlen]
           rw[Nat.add_comm]
         · rw[b_g _ _ _ _ he,r2.2.2.2.2 b he,r1.2.2.2.2 b he];rfl
       refine ⟨_, .a (.one (.osl id 0 (zs.length+1))),_,k,β,rfl, .inr ⟨t,rows,hl,rfl,rfl⟩,?_,hov.grow hG,⟨fun _ h=>h,fun _ h=> .inl h,fun _ _ h=>h,fun _ _ h=> .inl h,fun j hj=>?_⟩,?_⟩
       · exact V.osl id 0 (zs.length+1) cap _ bi hb (fun _=>by simp) hroom (by rw[hes];exact hs) hcm
       · rw[Store.set_ne _ _ (by intro e;subst e;exact hnd hl hj)];exact hj
       · refine ⟨hG.os,hG.tape,hG.output,by have:=hG.size;rwa [setRow_size] at this,fun b hb' hn=>?_⟩
         rw[hG.block b (by rw[setRow_size];exact hb'),b_g _ _ _ _ (fun e=>hn id bi hb (hnd hl) e.symm)]
     · -- a new row
       have hcall:=Go.Proofs.Any2.slices_Insert_int_grow Ly bi.blk 0 zs.length cap 0 biv.blk 0 1 capv (zs.map (Value.int .i64)) [Value.int .i64 v] W h0 (by omega) hc (by omega) (by omega) (by simp) rfl hcs hvsv h1c h1v
       simp only[Nat.zero_mul,Nat.zero_add,List.drop_zero,List.take_zero,Nat.sub_zero,Int.ofNat_eq_natCast,Int.natCast_zero] at hcall ⊢
       refine hcall.mono ?_
       rintro e W' ⟨rfl,rfl⟩
       obtain ⟨id',hid'⟩:=hS.someFree
       have hge:=grownCap_ge W (zs.length+1) cap (ρ.t 3)
       have hlm:=grownCap_le_maxLen W (zs.length+1) cap (ρ.t 3) (by unfold maxLen;omega)
       generalize hcapn:grownCap W (zs.length+1) cap (ρ.t 3) =cn at *
       generalize harr0:((#[]:Array Value) ++ Builtin.zeroCells (Value.int .i64 0).cells (zs.length+1) ++ Builtin.zeroCells (Value.int .i64 0).cells (cn - (zs.length+1))) =A0
       have hA0:A0.size=cn:=by rw[<-harr0];simp[Builtin.zeroCells,Value.cells];omega
       have hA01:∀u ∈ A0,cell1 u=true:=fun u hu=>by
         rw[<-harr0] at hu
         simp[Builtin.zeroCells,Value.cells] at hu
         rcases hu with ⟨w,_,hw⟩ | ⟨w,_,hw⟩ <;> (rw[<-hw,Nat.mod_one];rfl)
       let A1:Array Value:=((v::zs).map (Value.int .i64) ++ A0.toList.drop (zs.length+1)).toArray
       have hA1:A1.size=cn:=by simp[A1];omega
       obtain ⟨hN, hGh⟩ := (hS.grow (Grow.drew W)).newRows hid' (arr := A1) (t := ρ.t 3) (rows := (v :: zs).map j_y) (fun r row hr => by
           rw[zL] at hr
           cases hx:(v::zs)[r]? with
           | none=>rw[hx] at hr;cases hr
           | some x=>rw[hx] at hr;cases hr;rw[ht3];rfl)
         (by rw[ht3,hA1];simp;omega) (fun u hu=>by
           simp only[A1,List.mem_toArray,List.mem_append] at hu
           rcases hu with hu | hu
           · obtain ⟨z,_,rfl⟩:=List.mem_map.1 hu;rfl
           · exact hA01 u (by simpa using List.mem_of_mem_drop hu))
         (fun r row j d hr hj=>by
           rw[zL] at hr
           cases hx:(v::zs)[r]? with
           | none=>rw[hx] at hr;cases hr
           | some x=>
             rw[hx] at hr
             cases hr
             rcases j with _ | j
             · have hj:some (D.int .i64 x) =some d:=hj
               injection hj with hj
               subst hj
               refine ⟨.int .i64 x,?_, .int _ _⟩
               have hlt:=(zA.1 hx).1
               rw[ht3,Nat.mul_one,Nat.add_zero]
               simp only[A1,List.getElem?_toArray]
               rw[zJ (by simpa using hlt),zL,hx];rfl
             · simp[j_y] at hj)
       have hhead:(W.alloc (.cells A0 (ρ.t 3))).drew.heap[W.heap.size]? =some (.cells A0 (ρ.t 3) (0,0)):=by simp[a_le,a_ki]
       have r1:=g_p W.heap.size [Value.int .i64 v] 0 (W.alloc (.cells A0 (ρ.t 3))).drew
       have r2:=g_p W.heap.size (zs.map (Value.int .i64)) 1 ((W.alloc (.cells A0 (ρ.t 3))).drew.setCells W.heap.size 0 [Value.int .i64 v]).drew
       have hrow1:=i_h W.heap.size (ρ.t 3) (0,0) [Value.int .i64 v] 0 _ _ hhead (by simp;omega)
       have hrow2:=i_h W.heap.size (ρ.t 3) (0,0) (zs.map (Value.int .i64)) 1 ((W.alloc (.cells A0 (ρ.t 3))).drew.setCells W.heap.size 0 [Value.int .i64 v]).drew _ hrow1 (by simp;omega)
       have hG:Grow { W with drawn:=W.drawn+1,heap:=W.heap.push (.cells A1 (ρ.t 3) (0,0)) } (((W.alloc (.cells A0 (ρ.t 3))).drew.setCells W.heap.size 0 [Value.int .i64 v]).drew.setCells W.heap.size 1 (zs.map (Value.int .i64))):=by
         refine ⟨r2.1.trans r1.1,r2.2.1.trans r1.2.1,r2.2.2.1.trans r1.2.2.1,?_,fun b hb'=>?_⟩
         · rw[r2.2.2.2.1]
           show _<=(World.setCells _ _ _ _).heap.size
           rw[r1.2.2.2.1];simp[a_le,a_ki]
         · by_cases he:b=W.heap.size
           · subst he
             rw[hrow2]
             simp only[Array.getElem?_push_size]
             congr 2
             simp only[A1]
             have e0:A0.toList.length=cn:=by simpa using hA0
             congr 1
             simp only[List.take_zero,List.nil_append,List.length_singleton,Nat.zero_add,zB,List.singleton_append,List.map_cons]
             rw[show (1:Nat) =0+1 from rfl,List.take_succ_cons,List.take_zero]
             rw[Nat.add_comm (0+1),List.drop_succ_cons,List.drop_drop]
             simp[Nat.add_comm]
           · rw[r2.2.2.2.2 b he]
             show (World.setCells _ _ _ _).heap[b]? =_
             rw[r1.2.2.2.2 b he]
             simp[a_le,a_ki,Array.getElem?_push,he]
       refine ⟨_, .a (.one (.osl id' 0 (zs.length+1))),_,k,_,rfl, .inl ⟨id',hid',rfl,rfl⟩,?_,hN.grow hG,⟨hGh.kk,hGh.kn,hGh.bb,hGh.bn,hGh.dd⟩,?_⟩
       · exact V.osl id' 0 (zs.length+1) cn _ ⟨W.heap.size,P.cellsOf (ρ.t 3),A1.size⟩ (by simp) (fun _=>by simp) hge (by simp[ht3,hA1]) hlm
       · refine ⟨hG.os,hG.tape,hG.output,Nat.le_trans (by simp) hG.size,fun b hb' hn=>?_⟩
         rw[hG.block b (by simp;omega)]
         simp[Array.getElem?_push,Nat.ne_of_lt hb']
end
end Go.Fw
namespace Go.Proofs.YtaklhjodjbgmgaaGreat
open Go.Fw Go.Proofs Go.RowKit
open Go.Proofs.Tryz (prog)
section
variable {σ σ0:Store}
section
variable {s:Store} {id:Nat} {L:YL} {y:Yd} {fr:List (Nat × SO)} {N:Nat}
theorem a_ux {α:Type}{l:List α}{t:Int}(h:¬(0<=t/\t < l.length)) :a_n l t=none:=by
 by_cases h0:0<=t
 · exact b_u (by omega)
 · exact a_5 (by omega)
theorem YdIn.trainK (h:YdIn s id L y fr)(hw:Ywf y N)(t:Int){Q:RV->Store->Prop}(hn:a_n y.Trs t=none->Q (.a (.one .nilp)) s)
   (hs:∀k tr x z,t=(k:Nat)->y.Trs[k]? =some tr->L.tk[k]? =some x->L.trd=some z->Q (.a (.one (.el (.osl z.1 0 y.Trs.length) k 0))) s) :DCalls prog c_k [.one (pO id),iA t] s Q:=by
 refine (h.train hw t).mono ?_
 rintro r s' ⟨rfl,rfl⟩
 by_cases ht:0<=t/\t < y.Trs.length
 · rw[if_pos ht]
   obtain ⟨k,rfl⟩:=zI ht.1
   obtain ⟨tr,htr⟩:=a_c (l:=y.Trs) (j:=k) (by omega)
   obtain ⟨x,hx⟩:=a_c (l:=L.tk) (j:=k) (by rw[h.tkl];omega)
   cases hz:L.trd with
   | none=>
     have:=h.trn hz
     rw[this] at ht;simp at ht;omega
   | some z=>
     have e:trD L y.Trs.length= .osl z.1 0 y.Trs.length:=by unfold trD;rw[hz]
     rw[e,zF]
     exact hs k tr x z rfl htr hx hz
 · rw[if_neg ht]
   exact hn (a_ux ht)
theorem YdIn.hdr (h:YdIn s id L y fr){k:Nat}{tr:Tr}{x:Nat × List (List D)}(hx:L.tk[k]? =some x)(ht:y.Trs[k]? =some tr)(J:List (List D)) :
   ((L.tk.zip y.Trs).map a_z ++ J)[k]? =some [.osl x.1 0 tr.Secs.length,iD tr.Out]/\k < y.Trs.length/\k < ((L.tk.zip y.Trs).map a_z).length:=by
 have h1:=(zA.1 ht).1
 have h2:k < ((L.tk.zip y.Trs).map a_z).length:=by simp[h.tkl];exact h1
 refine ⟨?_,h1,h2⟩
 rw[zJ h2,zL,c_d hx ht];rfl
theorem YdIn.hrow (h:YdIn s id L y fr)(hw:Ywf y N){k:Nat}{tr:Tr}{x z:Nat × List (List D)}(hx:L.tk[k]? =some x)(ht:y.Trs[k]? =some tr)(hz:L.trd=some z){n:Nat}(hn:n=y.Trs.length) :
   Row s (.osl z.1 0 n) k [.osl x.1 0 tr.Secs.length,iD tr.Out]:=by
 obtain ⟨h1,h2,h3⟩:=h.hdr hx ht z.2
 have hA:At prog s a_m (.osl z.1 0 n) ((L.tk.zip y.Trs).map a_z):=o_p (h.trd hz) (by simp[h.tkl,hn]) (by
   have:=hw.trs
   simp[h.tkl]
   omega)
 exact hA.row (by rw[zJ h3] at h1;exact h1)
theorem x_t {A:List (List D)}{J:List (List D)}{k:Nat}(h:k < A.length)(r:List D) :(A ++ J).set k r=A.set k r ++ J:=List.set_append_left _ _ h
theorem YdIn.tail (h:YdIn s id L y fr)(hw:Ywf y N)(hN:N<=2 ^ 43)(t:Int) :DCalls prog i_s [.one (pO id),iA t] s fun r s'=>r= .a (iA (y.tail t).2)/\∃L',YdIn s' id L' (y.tail t).1 fr:=by
 have hY:y.tail t=match a_n y.Trs t with
   | none=>(y,30)
   | some t'=>if t'.Secs.length=1 then (y,29) else ({ y with Trs:=y.Trs.set t.toNat ⟨t'.Secs.take (t'.Secs.length - 1),t'.Out⟩ },0):=rfl
 refine z_z (pO id) t s _ (h.trainK hw t (fun hn=>?_) fun k tr x z e htr hx hz=>?_)
 · rw[hY,hn]
   exact ⟨_,rfl,true,rfl,⟨rfl,L,h⟩⟩
 subst e
 rw[a_1,htr,zF] at hY
 obtain ⟨hne,hlen,hsec⟩:=hw.tr tr (zC htr)
 have hr:=h.hrow hw hx htr hz rfl
 have hA:=h.tkAt hx htr (by omega)
 have hY:y.tail k=if tr.Secs.length=1 then (y,29) else ({ y with Trs:=y.Trs.set k ⟨tr.Secs.take (tr.Secs.length - 1),tr.Out⟩ },0):=hY
 have hl0:0 < tr.Secs.length:=List.length_pos_iff.2 hne
 refine ⟨_,rfl,false,rfl,trivial,_,_,_,rfl,_,hr,_,rfl,hA.lenK ?_⟩
 rw[zB]
 refine bce (fun h1=>?_) (fun h1=>?_)
 · rw[hY,if_pos (by omega)];exact ⟨rfl,L,h⟩
 have h1:tr.Secs.length≠1:=fun e=>h1 (by rw[e];rfl)
 refine ⟨trivial,_,_,_,rfl,_,hr,_,rfl,trivial,_,_,_,rfl,_,hr,_,rfl,hA.lenK ?_⟩
 rw[zB,a_r (by omega) (by omega)]
 have hrow:=(h.hdr hx htr z.2)
 refine hA.sliceK (lo:=0) (hi:=tr.Secs.length - 1) c_int rfl (by omega) (by omega) (by rw[zB];omega) ⟨trivial,_,_,_,rfl,b_m (h.trd hz) hrow.2.1 hrow.1 (by simp) fun s1 h1' o1=>?_⟩
 rw[hY,if_neg h1]
 have e0:((tr.Secs.length:Int) - 1).toNat=tr.Secs.length - 1:=by omega
 rw[e0,x_t hrow.2.2] at h1'
 have hlast:tr.Secs.map Go.Fw.encI=(tr.Secs.take (tr.Secs.length - 1)).map Go.Fw.encI ++ (tr.Secs.drop (tr.Secs.length - 1)).map Go.Fw.encI:=by rw[<-List.map_append,List.take_append_drop]
 refine ⟨rfl,_,h.putTr (x':=(x.1,(tr.Secs.drop (tr.Secs.length - 1)).map Go.Fw.encI ++ x.2)) (t':=⟨tr.Secs.take (tr.Secs.length - 1),tr.Out⟩) hz hx htr ?_ ?_ (.inl rfl) fun j hj _ _=>o1 j hj⟩
 · rw[h1']
   unfold a_z
   simp only[zR]
   rw[Nat.min_eq_left (by omega)];rfl
 · have hxz : x.1 ≠ z.1 := fun e => by
     have a:=h.tk hx htr
     rw[e,h.trd hz] at a
     injection a with a _
     exact absurd a (by decide)
   rw[o1 _ hxz,h.tk hx htr,hlast,zK]
theorem YdIn.turn (h:YdIn s id L y fr)(hw:Ywf y N)(hN:N<=2 ^ 43)(t:Int) :DCalls prog i_0 [.one (pO id),iA t] s fun r s'=>r= .a (iA (y.turn t).2)/\∃L',YdIn s' id L' (y.turn t).1 fr:=by
 have hY:y.turn t=match a_n y.Trs t with
   | none=>(y,30)
   | some t'=>
     if t'.Secs.length≠1\/t'.Out < 0 then (y,29) else
     if y.way t'.hd t'.Out < 0\/y.C.stands t'.hd (y.way t'.hd t'.Out) =false then (y,29) else
     ({ y with Trs:=y.Trs.set t.toNat ⟨t'.Secs,y.way t'.hd t'.Out⟩ },0):=rfl
 refine z_3 (pO id) t s _ (h.trainK hw t (fun hn=>?_) fun k tr x z e htr hx hz=>?_)
 · rw[hY,hn]
   exact ⟨_,rfl,fun R hR=>⟨true,rfl,⟨rfl,L,h⟩⟩⟩
 subst e
 rw[a_1,htr,zF] at hY
 obtain ⟨hne,hlen,hsec⟩:=hw.tr tr (zC htr)
 have hr:=h.hrow hw hx htr hz rfl
 have hA:=h.tkAt hx htr (by omega)
 have hY : y.turn k =
     if tr.Secs.length≠1\/tr.Out < 0 then (y,29) else
     if y.way tr.hd tr.Out < 0\/y.C.stands tr.hd (y.way tr.hd tr.Out) =false then (y,29) else
     ({ y with Trs:=y.Trs.set k ⟨tr.Secs,y.way tr.hd tr.Out⟩ },0):=hY
 refine ⟨_,rfl,fun R hR=>⟨false,rfl,trivial,_,_,_,rfl,_,hr,_,rfl,hA.lenK ?_⟩⟩
 rw[zB]
 refine bcn (fun h1=>?_) (fun h1=>⟨trivial,_,_,_,rfl,_,hr,tr.Out,rfl,bcd (fun h2=>?_) (fun h2=>hR s ?_)⟩)
 · rw[hY,if_pos (.inl (by omega))];exact ⟨rfl,L,h⟩
 · rw[hY,if_pos (.inr h2)];exact ⟨rfl,L,h⟩
 clear hR R
 rw[if_neg (by omega)] at hY
 obtain ⟨a,ha⟩:=a_c (l:=tr.Secs) (j:=0) (by omega)
 have hhd:tr.hd=a:=by unfold Tr.hd;rw[List.head?_eq_getElem?,ha];rfl
 obtain ⟨sec,hsa⟩:=hsec a (zC ha)
 rw[hhd] at hY
 refine ⟨trivial,_,_,_,rfl,_,hr,_,rfl,hA.load (j:=0) (a_g ha) c_int rfl ⟨a,rfl,trivial,_,_,_,rfl,_,hr,tr.Out,rfl,(h.way hw hsa tr.Out).use ⟨_,rfl,bcd (fun h3=>?_) (fun h3=>?_)⟩⟩⟩
 · rw[hY,if_pos (.inl h3)];exact ⟨rfl,L,h⟩
 refine ⟨trivial,_,_,_,rfl,_,hr,_,rfl,hA.load (j:=0) (a_g ha) c_int rfl ⟨a,rfl,(h.stands a (y.way a tr.Out)).use ⟨_,rfl,a_0 (fun h4=>?_) (fun h4=>?_)⟩⟩⟩
 · rw[hY,if_pos (.inr h4)];exact ⟨rfl,L,h⟩
 have hrow:=(h.hdr hx htr z.2)
 refine ⟨trivial,_,_,_,rfl,b_m (h.trd hz) hrow.2.1 hrow.1 (by simp) fun s1 h1' o1=>?_⟩
 rw[hY,if_neg (by rintro (g | g);exact h3 g;rw[h4] at g;cases g)]
 rw[x_t hrow.2.2] at h1'
 refine ⟨rfl,_,h.putTr (x':=x) (t':=⟨tr.Secs,y.way a tr.Out⟩) hz hx htr ?_ ?_ (.inl rfl) fun j hj _ _=>o1 j hj⟩
 · rw[h1'];rfl
 · have hxz : x.1 ≠ z.1 := fun e => by
     have a:=h.tk hx htr
     rw[e,h.trd hz] at a
     injection a with a _
     exact absurd a (by decide)
   rw[o1 _ hxz,h.tk hx htr]
theorem a_bk (c:Cf)(a e:Int) :c.sigAt a e= -1\/(0<=c.sigAt a e/\c.sigAt a e < c.Sigs.length):=by
 unfold Cf.sigAt
 rcases w_i (fun x=>decide ((⟨a,e⟩ :Sg) =x)) c.Sigs 0 with h | h
 · exact .inl h
 · exact .inr (by omega)
def a_yw (d d4:D)(n4:Int)(s3:Store)(Q:RV->Store->Prop) :Prop:=
 a_u d/\∃s4 i4 off4,d= .el s4 i4 off4/\a_k [d4] s3 s4 i4 (off4+0) fun s5=>a_u d/\∃s6 i5 off5,d= .el s6 i5 off5/\a_k [iD n4] s5 s6 i5 (off5+1) fun s7=>Q (.a (iA 0)) s7
theorem YdIn.goOn (h:YdIn s id L y fr)(hw:Ywf y N)(hN:N<=2 ^ 42){k:Nat}{tr:Tr}{x z:Nat × List (List D)}(htr:y.Trs[k]? =some tr)(hx:L.tk[k]? =some x)(hz:L.trd=some z){v o:Int}{sec:Sec}(hv:a_n y.C.Secs v=some sec){Q:RV->Store->Prop}
   (hQ:∀s' L',YdIn s' id L' { y with Trs:=y.Trs.set k ⟨v::tr.Secs,y.way v o⟩ } fr->Q (.a (iA 0)) s') :
   Fw.newObj s (.live a_e [[iD v]]) fun vid s1=>DCalls prog j_4 [.one (.osl x.1 0 tr.Secs.length),iA 0, .one (.osl vid 0 1)] s1 fun r2 s2=>∃d4,r2= .a (.one d4)/\DCalls prog d_a [.one (pO id),iA v,iA o] s2 fun r3 s3=>∃n4,r3= .a (iA n4)/\
     a_yw (.el (.osl z.1 0 y.Trs.length) k 0) d4 n4 s3 Q:=by
 obtain ⟨hne,hlen,hsec⟩:=hw.tr tr (zC htr)
 have hl0:0 < tr.Secs.length:=List.length_pos_iff.2 hne
 refine a_f fun vid s1 hvid _ he1 hs1=>?_
 have h1:=h.ext he1
 have htk:=h1.tk hx htr
 have htd:=h1.trd hz
 have hxv:vid≠x.1:=fun e=>by
   have:=h.tk hx htr
   rw[<-e,hvid] at this;cases this
 have hxz:x.1≠z.1:=fun e=>by
   rw[e,htd] at htk
   injection htk with a _
   exact absurd a (by decide)
 have hxi:x.1≠id:=fun e=>by
   rw[e,h1.row] at htk
   injection htk with a _
   exact absurd a (by decide)
 have hxp:x.1≠L.p:=fun e=>by
   rw[e,h1.pts] at htk
   injection htk with a _
   exact absurd a (by decide)
 refine (a_hk (v:=v) (rv:= []) (zs:=tr.Secs) a_qj c_int htk (by simp) (by rw[List.take_left' (by simp)];rfl) hl0 c_int hs1 hxv (by omega) c_int).mono ?_
 have hrow:=(h1.hdr hx htr z.2)
 have fin : ∀ (s2 : Store) (x' : Nat × List (List D)), s2 id = s1 id -> s2 L.p = s1 L.p -> s2 z.1 = s1 z.1 -> (∀ j, j ≠ x.1 -> s1 j ≠ .free -> s2 j = s1 j) -> s2 x'.1 = .live a_e ((v :: tr.Secs).map Go.Fw.encI ++ x'.2) -> (x'.1 = x.1 \/ s1 x'.1 = .free) -> x'.1 ≠ z.1 ->
     DCalls prog d_a [.one (pO id),iA v,iA o] s2 fun r3 s3=>∃n4,r3= .a (iA n4)/\
     a_yw (.el (.osl z.1 0 y.Trs.length) k 0) (.osl x'.1 0 (tr.Secs.length+1)) n4 s3 Q:=fun s2 x' e1 e2 e3 e4 e5 e6 e7=>by
   refine (h1.wayAt hw e1 e2 hv o).use ⟨_,rfl,trivial,_,_,_,rfl,b_m (e3.trans htd) hrow.2.1 hrow.1 (by simp) fun s4 h4 o4=>?_⟩
   have hl4:k < (((L.tk.zip y.Trs).map a_z ++ z.2).set k (patch [.osl x.1 0 tr.Secs.length,iD tr.Out] (0+0) [.osl x'.1 0 (tr.Secs.length+1)])).length:=by
     have:=hrow.2.2
     rw[List.length_set,zP];omega
   refine ⟨trivial,_,_,_,rfl,?_⟩
   refine b_m h4 hrow.2.1 (List.getElem?_set_self (by simpa using hl4)) (by simp[patch]) fun s5 h5 o5=>?_
   rw[List.set_set,x_t hrow.2.2] at h5
   refine hQ s5 _ (h1.putTr (x':=x') (t':=⟨v::tr.Secs,y.way v o⟩) hz hx htr (by rw[h5];rfl) ?_ e6 fun j hj hj2 hf=>?_)
   · rw[o5 _ e7,o4 _ e7];exact e5
   · rw[o5 _ hj,o4 _ hj,e4 j hj2 hf]
 rintro r s2 (⟨id',hid',rfl,rfl⟩ | ⟨t,rows,ht,rfl,rfl⟩)
 · have hne':∀j,s1 j≠ .free->(s1.set id' (.live (insertLays_ren.t 3) ((v::tr.Secs).map j_y))) j=s1 j:=fun j hj=>Store.set_ne _ _ fun e=>hj (by rw[e];exact hid')
   refine ⟨_,rfl,fin _ (id',[]) (hne' _ (by rw[h1.row];intro e;cases e)) (hne' _ (by rw[h1.pts];intro e;cases e)) (hne' _ (by rw[htd];intro e;cases e)) (fun j _ hj=>hne' j hj) ?_ (.inr hid') fun e=>?_⟩
   · rw[Store.set_same,zS];rfl
   · have e:id'=z.1:=e
     rw[e,htd] at hid';cases hid'
 · rw[htk] at ht
   injection ht with ht1 ht2
   subst ht1 ht2
   refine ⟨_,rfl,fin _ (x.1,(tr.Secs.map Go.Fw.encI ++ x.2).drop (tr.Secs.length+1)) (Store.set_ne _ _ (Ne.symm hxi)) (Store.set_ne _ _ (Ne.symm hxp)) (Store.set_ne _ _ (Ne.symm hxz)) (fun j hj _=>Store.set_ne _ _ hj) ?_ (.inl rfl) hxz⟩
   rw[Store.set_same];rfl
theorem YdIn.move (h:YdIn s id L y fr)(hw:Ywf y N)(hN:N<=2 ^ 42)(t:Int) :DCalls prog e_r [.one (pO id),iA t] s fun r s'=>r= .a (iA (y.move t).2)/\∃L',YdIn s' id L' (y.move t).1 fr:=by
 have hY:y.move t=match a_n y.Trs t with
   | none=>(y,30)
   | some t'=>match nxt y.C.Jts t'.hd t'.Out with
     | none=>(y,29)
     | some (s,e)=>
       if t'.Out < 0 then (y,29) else
       if (match a_n y.Lps (y.C.sigAt t'.hd t'.Out) with
         | some l=>decide (l.Last < 0\/y.Now - l.Last > y.C.Brake)
         | none=>false) =true then (y,29) else
       ({ y with Trs:=y.Trs.set t.toNat ⟨s::t'.Secs,y.way s e⟩ },0):=rfl
 refine a_aw (pO id) t s _ (h.trainK hw t (fun hn=>?_) fun k tr x z e htr hx hz=>?_)
 · rw[hY,hn]
   exact ⟨_,rfl,true,rfl,⟨rfl,L,h⟩⟩
 subst e
 rw[a_1,htr,zF] at hY
 obtain ⟨hne,hlen,hsec⟩:=hw.tr tr (zC htr)
 have hr:=h.hrow hw hx htr hz rfl
 have hA:=h.tkAt hx htr (by omega)
 have hl0:0 < tr.Secs.length:=List.length_pos_iff.2 hne
 obtain ⟨a,ha⟩:=a_c (l:=tr.Secs) (j:=0) (by omega)
 have hhd:tr.hd=a:=by unfold Tr.hd;rw[List.head?_eq_getElem?,ha];rfl
 have hY : y.move k = match nxt y.C.Jts tr.hd tr.Out with
     | none=>(y,29)
     | some (s,e)=>
       if tr.Out < 0 then (y,29) else
       if (match a_n y.Lps (y.C.sigAt tr.hd tr.Out) with
         | some l=>decide (l.Last < 0\/y.Now - l.Last > y.C.Brake)
         | none=>false) =true then (y,29) else
       ({ y with Trs:=y.Trs.set k ⟨s::tr.Secs,y.way s e⟩ },0):=hY
 rw[hhd] at hY
 have hY : y.move k = match nxt y.C.Jts a tr.Out with
     | none=>(y,29)
     | some (s,e)=>
       if tr.Out < 0 then (y,29) else
       if (match a_n y.Lps (y.C.sigAt a tr.Out) with
         | some l=>decide (l.Last < 0\/y.Now - l.Last > y.C.Brake)
         | none=>false) =true then (y,29) else
       ({ y with Trs:=y.Trs.set k ⟨s::tr.Secs,y.way s e⟩ },0):=hY
 refine ⟨_,rfl,false,rfl,trivial,_,_,_,rfl,_,a_d h.row,L.c1,rfl,trivial,_,_,_,rfl,_,hr,_,rfl,hA.load (j:=0) (a_g ha) c_int rfl ⟨a,rfl,trivial,_,_,_,rfl,_,hr,tr.Out,rfl,(e_0 a tr.Out (h.cfg s).jts).mono ?_⟩⟩
 rintro r s' ⟨rfl,rfl⟩
 cases hn:nxt y.C.Jts a tr.Out with
 | none=>
   rw[hn] at hY
   refine ⟨0,0,false,rfl,fun R hR=>⟨trivial,_,_,_,rfl,_,hr,tr.Out,rfl,bcd (fun _=>?_) (fun _=>a_0 (fun _=>?_) (fun e=>by cases e))⟩⟩
   · rw[hY];exact ⟨rfl,L,h⟩
   · rw[hY];exact ⟨rfl,L,h⟩
 | some p=>
   obtain ⟨v,o⟩:=p
   rw[hn] at hY
   obtain ⟨sec,hsv⟩:=a_do (h_m hw.chk).1 hn
   refine ⟨v,o,true,rfl,?_⟩
   intro R hR
   refine ⟨trivial,_,_,_,rfl,_,hr,tr.Out,rfl,bcd (fun h1=>?_) (fun h1=>a_0 (fun e=>by cases e) (fun _=>hR s' ?_))⟩
   · have hY':y.move k=(y,29):=by rw[hY];simp only[if_pos h1]
     rw[hY'];exact ⟨rfl,L,h⟩
   clear hR R
   have hY : y.move k = if (match a_n y.Lps (y.C.sigAt a tr.Out) with
         | some l=>decide (l.Last < 0\/y.Now - l.Last > y.C.Brake)
         | none=>false) =true then (y,29) else
       ({ y with Trs:=y.Trs.set k ⟨v::tr.Secs,y.way v o⟩ },0):=by rw[hY];simp only[if_neg h1]
   intro R1 hR1
   refine ⟨trivial,_,_,_,rfl,_,hr,_,rfl,hA.load (j:=0) (a_g ha) c_int rfl ⟨a,rfl,trivial,_,_,_,rfl,_,hr,tr.Out,rfl,(h.signal a tr.Out).use ⟨_,rfl,?_⟩⟩⟩
   have go : (match a_n y.Lps (y.C.sigAt a tr.Out) with
         | some l=>decide (l.Last < 0\/y.Now - l.Last > y.C.Brake)
         | none=>false) =false->R1 s':=fun hf=>hR1 s' ⟨trivial,_,_,_,rfl,_,hr,_,rfl,by
     rw[hY,if_neg (by rw[hf];decide)]
     exact h.goOn hw hN htr hx hz hsv (o:=o) (Q:=fun r s''=>r= .a (iA 0)/\∃L',YdIn s'' id L' { y with Trs:=y.Trs.set k ⟨v::tr.Secs,y.way v o⟩ } fr) (fun s'' L' hy=>⟨rfl,L',hy⟩)⟩
   rcases a_bk y.C a tr.Out with hb | ⟨hb1,hb2⟩
   · rw[hb] at go ⊢
     exact bcd (fun e=>absurd e (by decide)) (fun _=>go (by rw[a_5 (by decide)]))
   · refine bcd (fun _=>?_) (fun e=>absurd hb1 e)
     obtain ⟨q,hq⟩:=zI hb1
     rw[hq] at go hY hb2 ⊢
     obtain ⟨l,hl⟩:=a_c (l:=y.Lps) (j:=q) (by have:=hw.lps;omega)
     rw[a_1,hl] at go hY
     have hlast:=hw.last l (zC hl)
     have hnow:=hw.now
     refine ⟨trivial,_,_,_,rfl,_,a_d h.row,_,rfl,(h.lpsAt hw).load (a_g hl) h_r rfl ⟨l.Last,rfl,bcd (fun g1=>?_) (fun g1=>?_)⟩⟩
     · rw[hY,if_pos (decide_eq_true (.inl g1))];exact ⟨rfl,L,h⟩
     refine ⟨trivial,_,_,_,rfl,_,a_d h.row,y.Now,rfl,trivial,_,_,_,rfl,_,a_d h.row,_,rfl,(h.lpsAt hw).load (a_g hl) h_r rfl ⟨l.Last,rfl,trivial,_,_,_,rfl,_,a_d h.row,y.C.Brake,rfl,?_⟩⟩
     rw[a_r (by omega) (by omega)]
     refine bcd (fun g2=>?_) (fun g2=>go (decide_eq_false (by rintro (g | g) <;> contradiction)))
     rw[hY,if_pos (decide_eq_true (.inr g2))];exact ⟨rfl,L,h⟩
theorem Ywf.setTr (hw:Ywf y N){k:Nat}{t':Tr}{M:Nat}(hM:N<=M)(ht:t'.Secs≠[]/\t'.Secs.length<=M/\∀s ∈ t'.Secs,∃x,a_n y.C.Secs s=some x) :Ywf { y with Trs:=y.Trs.set k t' } M:=
 ⟨hw.chk,hw.pts,hw.gts,hw.lps,hw.psts,hw.pst,by simpa using hw.trs,fun t h=>by
   rcases List.mem_or_eq_of_mem_set h with h | rfl
   · obtain ⟨a,b,c⟩:=hw.tr t h;exact ⟨a,by omega,c⟩
   · exact ht,hw.now,hw.last,hw.left⟩
theorem Ywf.up (hw:Ywf y N){M:Nat}(hM:N<=M) :Ywf y M:=
 ⟨hw.chk,hw.pts,hw.gts,hw.lps,hw.psts,hw.pst,hw.trs,fun t h=>by obtain ⟨a,b,c⟩:=hw.tr t h;exact ⟨a,by omega,c⟩,hw.now,hw.last,hw.left⟩
theorem a_e1 {α:Type}{l:List α}{t:Int}{x:α}(h:a_n l t=some x) :x ∈ l:=zC (b_w h).2.2
theorem Ywf.tail (hw:Ywf y N)(t:Int) :Ywf (y.tail t).1 N:=by
 unfold Yd.tail
 split
 · exact hw
 · rename_i tr htr
   obtain ⟨a,b,c⟩:=hw.tr tr (a_e1 htr)
   have hl:0 < tr.Secs.length:=List.length_pos_iff.2 a
   split
   · exact hw
   · rename_i hne
     have h1:tr.Secs.take (tr.Secs.length - 1)≠[]:=fun e=>by
       have:=congrArg List.length e
       rw[zR,List.length_nil] at this;omega
     have h2:(tr.Secs.take (tr.Secs.length - 1)).length<=N:=by rw[zR];omega
     exact hw.setTr (Nat.le_refl _) ⟨h1,h2,fun s hs=>c s (List.mem_of_mem_take hs)⟩
theorem Ywf.turn (hw:Ywf y N)(t:Int) :Ywf (y.turn t).1 N:=by
 unfold Yd.turn
 split
 · exact hw
 · rename_i tr htr
   split
   · exact hw
   split
   · exact hw
   · exact hw.setTr (Nat.le_refl _) (hw.tr tr (a_e1 htr))
theorem Ywf.move (hw:Ywf y N)(t:Int) :Ywf (y.move t).1 (N+1):=by
 unfold Yd.move
 split
 · exact hw.up (M:=N+1) (by omega)
 · rename_i tr htr
   obtain ⟨a,b,c⟩:=hw.tr tr (a_e1 htr)
   split
   · exact hw.up (M:=N+1) (by omega)
   · rename_i v o hn
     have fin:Ywf { y with Trs:=y.Trs.set t.toNat ⟨v::tr.Secs,y.way v o⟩ } (N+1):=by
       refine hw.setTr (M:=N+1) (t':=⟨v::tr.Secs,y.way v o⟩) (by omega) ⟨(by intro e;cases e),(by simp;omega),fun s hs=>?_⟩
       rcases List.mem_cons.1 hs with rfl | hs
       · exact a_do (h_m hw.chk).1 hn
       · exact c s hs
     have up:=hw.up (M:=N+1) (by omega)
     repeat' split
     all_goals first | exact up | exact fin
end
end
end Go.Proofs.YtaklhjodjbgmgaaGreat
namespace Go.Fw
section
variable {P:Program}
theorem Heap.sub {s:Store}{l l':List (Nat × SO)}(h:Heap s l)(hs:l'.Sublist l) :Heap s l':=⟨(hs.map _).nodup h.1,fun x hx=>h.2 x (hs.subset hx)⟩
theorem Heap.put0 {s s':Store}{id:Nat}{so so':SO}{R:List (Nat × SO)}(h:Heap s ((id,so) ::R))(hs:s' id=so')(hne:so'≠ .free)(ho:∀j,j≠id->s j≠ .free->s' j=s j) :Heap s' ((id,so') ::R):=
 Heap.put (A:= []) (X:= [(id,so)]) (B:=R) (k:=0) h rfl hs hne ho
theorem Heap.row {s:Store}{id:Nat}{t:TypeId}{row:List D}{R:List (Nat × SO)}{off:Nat}{x:D}{K:Store->Prop}(h:Heap s ((id, .live t [row]) ::R))(ho:off+1<=row.length)
   (hK:∀s',Heap s' ((id, .live t [patch row off [x]]) ::R)->(∀j,j≠id->s' j=s j)->K s') :a_k [x] s (.osl id 0 1) 0 off K:=
 b_h (h.get (List.mem_cons_self)) ho fun s' h1 o1=>hK s' (h.put0 h1 (by intro e;cases e) fun j hj _=>o1 j hj) o1
theorem Heap.new' {s s':Store}{a:Nat × SO}{R:List (Nat × SO)}{id:Nat}{so:SO}(h:Heap s (a::R))(hid:s id= .free)(he:Ext s s')(hs:s' id=so)(hne:so≠ .free) :Heap s' (a:: (id,so) ::R):=
 (h.new hid he hs hne).perm (.swap _ _ _)
open Classical in
theorem b_q {α:Type}{l m:List α}(h:∀a,l.count a=m.count a) :l.Perm m:=List.perm_iff_count.2 h
def r_2 (G:List A->Nat->RV->SO->Prop)(az:List A)(s:Store)(r:RV)(s':Store) :Prop:=∃id so,s id= .free/\so≠ .free/\G az id r so/\s'=s.set id so
theorem a_eu {f:FuncId}{pre:List A->Store->Prop}{G:List A->Nat->RV->SO->Prop}(hc:∀az s,pre az s->DCalls P f az s (r_2 G az s))(hex:∀az s id,pre az s->∃r so,so≠ .free/\G az id r so)
   (hst:∀az s i so,s i= .free->so≠ .free->pre az s->pre az (s.set i so)) :b_7 P f pre (r_2 G):=by
 refine ⟨hc,?_,?_,?_,?_⟩
 · rintro az s hp ⟨N,hN⟩
   obtain ⟨r,so,h1,h2⟩:=hex az s N hp
   exact ⟨r,_,⟨N,so,hN N (Nat.le_refl _),h1,h2,rfl⟩,Fin.set' ⟨N,hN⟩ _ _⟩
 · rintro az s r s' ⟨id,so,h1,h2,h3,rfl⟩ hf
   exact hf.set' _ _
 · rintro az s i so hi hso hp
   refine ⟨hst az s i so hi hso hp,?_⟩
   rintro r s' ⟨id,so',h1,h2,h3,rfl⟩
   have hne:id≠i:=fun e=>by
     rw[e,Store.set_same] at h1;exact hso h1
   refine ⟨s.set id so',⟨id,so',by rw[Store.set_ne _ _ hne] at h1;exact h1,h2,h3,rfl⟩,by rw[Store.set_ne _ _ (Ne.symm hne)];exact hi,?_⟩
   funext j
   by_cases h4:j=id
   · subst h4;rw[Store.set_same,Store.set_ne _ _ hne,Store.set_same]
   · by_cases h5:j=i
     · subst h5;rw[Store.set_ne _ _ h4,Store.set_same,Store.set_same]
     · rw[Store.set_ne _ _ h4,Store.set_ne _ _ h5,Store.set_ne _ _ h5,Store.set_ne _ _ h4]
 · rintro az s r s' hp ⟨id,so,h1,h2,h3,rfl⟩ i hi
   exact Store.set_ne _ _ fun e=>hi (by rw[e];exact h1)
theorem a_f1 {f:FuncId}{F:List A->RV->Prop}{pre:List A->Store->Prop}(hc:∀az s,pre az s->DCalls P f az s fun r s'=>s'=s/\F az r)(hex:∀az s,pre az s->∃r,F az r)
   (hst:∀az s i so,s i= .free->so≠ .free->pre az s->pre az (s.set i so)) :b_7 P f pre (fun az s r s'=>s'=s/\F az r):=by
 refine ⟨hc,?_,?_,?_,?_⟩
 · rintro az s hp hf
   obtain ⟨r,hr⟩:=hex az s hp
   exact ⟨r,s,⟨rfl,hr⟩,hf⟩
 · rintro az s r s' ⟨rfl,_⟩ hf;exact hf
 · rintro az s i so hi hso hp
   refine ⟨hst az s i so hi hso hp,?_⟩
   rintro r s' ⟨rfl,hr⟩
   exact ⟨s,⟨rfl,hr⟩,hi,rfl⟩
 · rintro az s r s' _ ⟨rfl,_⟩ i hi
   rfl
theorem a_xq {σ s:Store}{id len:Nat}{t:TypeId}{rows:List (List D)}(he:Ext σ s)(hid:σ id= .free)(hs:s id= .live t rows)(hf:∀row ∈ rows,∀x ∈ row,Flat x) :
   Ret P σ s (.a (.one (.osl id 0 len))) (σ.set id (.live t rows)) (.a (.one (.osl id 0 len))):=by
 refine ⟨fun i=>σ i≠ .free\/i=id,fun i h=> .inl h,fun i h=>?_,fun i h=>?_,?_⟩
 · have h1:i≠id:=fun e=>h (.inr e)
   rw[Store.set_ne _ _ h1]
   exact Classical.not_not.1 fun e=>h (.inl e)
 · by_cases e:i=id
   · subst e
     refine .inr ?_
     rw[hs,Store.set_same]
     refine ⟨rfl,rfl,fun j row row' h1 h2=>?_⟩
     rw[h1] at h2;injection h2 with h2;subst h2
     refine ⟨rfl,fun k x y h3 h4=>?_⟩
     rw[h3] at h4;injection h4 with h4;subst h4
     exact (hf row (zC h1) x (zC h3)).fz
   · have h2:σ i≠ .free:=by rcases h with h | h;exact h;exact absurd h e
     rw[Store.set_ne _ _ e]
     exact .inl ⟨(he i h2).symm,he i h2⟩
 · exact .keep _ _ _ (.inr rfl)
end
end Go.Fw
namespace Go.Proofs.YtaklhjodjbgmgaaGreat
open Go.Fw Go.Proofs Go.RowKit
open Go.Proofs.Tryz (prog)
section
variable {σ σ0:Store}
theorem p_g {x:D}{row:List D}{n:Nat}(hx:At prog σ a_l x [row])(hn:n<=2 ^ 20) :DCalls prog c_n [.one x,iA n] σ (a_k7 a_l n row σ):=
 k_5 x n σ _ (a_vu (bytes:=24) a_wd b_9 hx hn (by omega) fun _ _ h=>h)
theorem a_gk {x:D}{row:List D}{n:Nat}(hx:At prog σ b_c x [row])(hn:n<=2 ^ 20) :DCalls prog d_2 [.one x,iA n] σ (a_k7 b_c n row σ):=
 l_2 x n σ _ (a_vu (bytes:=16) a_wd h_r hx hn (by omega) fun _ _ h=>h)
theorem a_bb {d:D}{l:List Sec}(h:At prog σ d_n d (l.map Sec.enc))(hz:d≠ .zsl)(hl:l.length<=2 ^ 40) :DCalls prog d_g [.one d] σ (f_n σ d_n (l.map Sec.enc)):=by
 have key:DCalls prog d_g [.one d] σ fun r s=>∃d',r= .a (.one d')/\Own prog σ s d_n d' (l.map Sec.enc):=
   o_4 d σ _ (x_w (bytes:=24) (Q:=fun r s=>∃d',r= .a (.one d')/\Own prog σ s d_n d' (l.map Sec.enc)) h hz (by simp;omega) fun d' s ho=>⟨d',rfl,ho⟩)
 refine key.ret ?_
 rintro r s ⟨d',rfl,ho⟩
 exact g_0 ho fun row hr x hx=>by
   obtain ⟨w,_,rfl⟩:=List.mem_map.1 hr
   simp[Sec.enc] at hx
   rcases hx with rfl | rfl | rfl <;> exact .int _ _
theorem a_f9 {d:D}{l:List Jt}(h:At prog σ e_8 d (l.map Jt.enc))(hz:d≠ .zsl)(hl:l.length<=2 ^ 40) :DCalls prog d_8 [.one d] σ (f_n σ e_8 (l.map Jt.enc)):=by
 have key:DCalls prog d_8 [.one d] σ fun r s=>∃d',r= .a (.one d')/\Own prog σ s e_8 d' (l.map Jt.enc):=
   r_u d σ _ (x_w (bytes:=32) (Q:=fun r s=>∃d',r= .a (.one d')/\Own prog σ s e_8 d' (l.map Jt.enc)) h hz (by simp;omega) fun d' s ho=>⟨d',rfl,ho⟩)
 refine key.ret ?_
 rintro r s ⟨d',rfl,ho⟩
 exact g_0 ho fun row hr x hx=>by
   obtain ⟨w,_,rfl⟩:=List.mem_map.1 hr
   simp[Jt.enc] at hx
   rcases hx with rfl | rfl | rfl | rfl <;> exact .int _ _
theorem a_ci {d:D}{l:List Sg}(h:At prog σ c_v d (l.map Sg.enc))(hz:d≠ .zsl)(hl:l.length<=2 ^ 40) :DCalls prog d_0 [.one d] σ (f_n σ c_v (l.map Sg.enc)):=by
 have key:DCalls prog d_0 [.one d] σ fun r s=>∃d',r= .a (.one d')/\Own prog σ s c_v d' (l.map Sg.enc):=
   p_l d σ _ (x_w (bytes:=16) (Q:=fun r s=>∃d',r= .a (.one d')/\Own prog σ s c_v d' (l.map Sg.enc)) h hz (by simp;omega) fun d' s ho=>⟨d',rfl,ho⟩)
 refine key.ret ?_
 rintro r s ⟨d',rfl,ho⟩
 exact g_0 ho fun row hr x hx=>by
   obtain ⟨w,_,rfl⟩:=List.mem_map.1 hr
   simp[Sg.enc] at hx
   rcases hx with rfl | rfl <;> exact .int _ _
theorem a_mp {d:D}{l:List Int}(h:At prog σ a_e d (l.map Go.Fw.encI))(hz:d≠ .zsl)(hl:l.length<=2 ^ 40) :DCalls prog b_l [.one d] σ (f_n σ a_e (l.map Go.Fw.encI)):=by
 refine (x_h h hz (by simp;omega)).ret ?_
 rintro r s ⟨d',rfl,ho⟩
 exact g_0 ho (g_c _)
def clG (l:List Int)(az:List A)(id:Nat)(r:RV)(so:SO) :Prop:=∃J,r= .a (.one (.osl id 0 l.length))/\so= .live a_e (l.map Go.Fw.encI ++ J)/\J=[]
theorem a_g5 {d:D}{l:List Int}(h:At prog σ a_e d (l.map Go.Fw.encI))(h0:l≠[])(hl:l.length<=2 ^ 40) :DCalls prog b_l [.one d] σ (r_2 (clG l) [.one d] σ):=by
 have key:DCalls prog b_l [.one d] σ fun r s=>∃id,σ id= .free/\Ext σ s/\s id= .live a_e (l.map Go.Fw.encI)/\r= .a (.one (.osl id 0 l.length)):=by
   have hr:=h.rows
   have hne:l.map Go.Fw.encI≠[]:=fun e=>h0 (List.map_eq_nil_iff.1 e)
   have go:∀b:Bool,b=false->a_b (b != false) (∃id,σ id= .free/\Ext σ σ/\σ id= .live a_e (l.map Go.Fw.encI)/\RV.a (.one .nils) = .a (.one (.osl id 0 l.length))) (Fw.newObj σ (.live a_e []) fun id σ'=>a_j prog σ' a_e 8 (.osl id 0 0) d fun d σ'1=>∃id,σ id= .free/\Ext σ σ'1/\σ'1 id= .live a_e (l.map Go.Fw.encI)/\RV.a (.one d) = .a (.one (.osl id 0 l.length))):=by
     rintro b rfl
     refine bc (fun e=>by cases e) fun _=>a_f fun id s1 hid hset he hs=>?_
     refine ⟨[],l.map Go.Fw.encI,⟨a_e,[],hs,rfl,by simp,by simp⟩,(h.ext he).rows,by simp;omega,fun hs=>hs.elim,fun d' s' ha=>?_⟩
     rcases ha with ⟨e,_⟩ | ⟨_,id',hid',rfl,rfl⟩ | ⟨_,id',i0,len,t,rows,e,hl2,rfl,rfl⟩
     · exact absurd e hne
     · have hf:σ id'= .free:=a_lm he hid'
       refine ⟨id',hf,he.trans (Ext.new hid' _),by rw[Store.set_same];simp,by simp⟩
     · injection e with e1 e2 e3
       subst e1 e2 e3
       rw[hs] at hl2
       injection hl2 with q1 q2
       subst q1 q2
       refine ⟨id,hid,fun i hi=>?_,by rw[Store.set_same];simp,by simp⟩
       have hne':i≠id:=fun e=>hi (by rw[e];exact hid)
       rw[Store.set_ne _ _ hne'];exact he i hi
   refine l_h d σ _ ?_
   cases d <;> simp only[Go.Fw.Rows] at hr <;> try exact hr.elim
   · exact absurd hr hne
   · exact absurd hr hne
   · exact ⟨false,rfl,go _ rfl⟩
   · exact ⟨false,rfl,go _ rfl⟩
 refine key.ret ?_
 rintro r s ⟨id,h1,h2,h3,rfl⟩
 exact ⟨_,_,a_xq h2 h1 h3 (g_c _),id,_,h1,(by intro e;cases e),⟨[],rfl,by rw[zS],rfl⟩,rfl⟩
theorem a_ri {d:D}{l:List Int}(h0:l≠[])(hl:l.length<=2 ^ 40) :b_7 prog b_l (fun az s=>az=[.one d]/\At prog s a_e d (l.map Go.Fw.encI)) (r_2 (clG l)):=
 a_eu (by rintro az s ⟨rfl,h⟩;exact a_g5 h h0 hl) (by rintro az s id ⟨rfl,h⟩;exact ⟨_, .live a_e (l.map Go.Fw.encI ++ []),(by intro e;cases e),[],rfl,rfl,rfl⟩)
   (by rintro az s i so hi _ ⟨rfl,h⟩;exact ⟨rfl,h.ext (Ext.new hi so)⟩)
def nrG (p a:Int)(az:List A)(id:Nat)(r:RV)(so:SO) :Prop:=r= .a (.one (pO id))/\so= .live b_o [[iD (-1),iD 0,iD 0,iD p,iD a]]
theorem a_nr (p a:Int) :b_7 prog e_6 (fun az s=>az=[iA p,iA a]) (r_2 (nrG p a)):=
 a_eu (by
   rintro az s rfl
   refine (s_4 p a).mono ?_
   rintro r s' ⟨id,rfl,h1,rfl⟩
   exact ⟨id,_,h1,(by intro e;cases e),⟨rfl,rfl⟩,rfl⟩) (by rintro az s id rfl;exact ⟨_,_,(by intro e;cases e),rfl,rfl⟩) (by rintro az s i so _ _ rfl;rfl)
theorem a_rf {c0 c1 c2 c3 c4:D}{c:Cf}(hc:∀s,CfAt s c0 c1 c2 c3 c4 c)(oc:Int)(h1:c.Secs.length<=2 ^ 20)(h2:c.Xs.length<=2 ^ 20)(h3:c.Sigs.length<=2 ^ 20) :
   b_7 prog i_j (fun az s=>az=[cfA c0 c1 c2 c3 c4 c,iA oc]) (fun az s r s'=>s'=s/\∃a0 a1 a2 a3,r= .a (.agg [a0,a1,a2,a3])/\ShFz a0 a1 a2 a3 (c.shape oc)):=by
 obtain ⟨l1,l2,l3⟩:=v_v c oc
 have k1:=l1 c.Secs 0
 have k2:=l2 c.Xs 0
 have k3:=l3 c.Sigs 0
 have e:∀l:List Int,l.length<=2 ^ 20->∀s,At prog s a_e (.sl (prog.cellsOf a_e) (l.map Go.Fw.encI)) (l.map Go.Fw.encI):=fun l hl s=>a_0d (by simp;omega)
 exact a_f1 (F:=fun az r=>∃a0 a1 a2 a3,r= .a (.agg [a0,a1,a2,a3])/\ShFz a0 a1 a2 a3 (c.shape oc)) (by rintro az s rfl;exact a_hw hc oc h1 h2 h3)
   (by rintro az s rfl;exact ⟨_,_,_,_,_,rfl,e _ (Nat.le_trans k1.1 h1),e _ (Nat.le_trans k1.2 h1),e _ (Nat.le_trans k2 h2),e _ (Nat.le_trans k3 h3)⟩) (by rintro az s i so _ _ rfl;rfl)
def c_q (el:TypeId)(o:Option (Nat × List (List D)))(rs:List (List D)) :List (Nat × SO):=match o with
 | none=> []
 | some x=> [(x.1, .live el (rs ++ x.2))]
def b_r (o:Option (Nat × List (List D)))(n:Nat) :D:=match o with
 | none=> .nils
 | some x=> .osl x.1 0 n
theorem a_yx {s:Store}{el:TypeId}{o:Option (Nat × List (List D))}{rs:List (List D)}{A:List (Nat × SO)}(h:Heap s (c_q el o rs ++ A))(hn:o=none->rs=[])(hl:rs.length < 2 ^ 60) :At prog s el (b_r o rs.length) rs:=by
 cases o with
 | none=>rw[hn rfl];exact .nil
 | some x=>exact o_p (h.get (zE _ (List.mem_singleton.2 rfl))) rfl hl
theorem f_r {s:Store}{el:TypeId}{bytes:Nat}{o:Option (Nat × List (List D))}{rs:List (List D)}{r:List D}{A:List (Nat × SO)}{x:D}{K:D->Store->Prop}(h:Heap s (c_q el o rs ++ A))(hn:o=none->rs=[]){n:Nat}(hnn:n=rs.length)(hl:rs.length < 2 ^ 44)(hx:At prog s el x [r])
   (hb:bytes * (rs.length+1)<=140737488355328) (hK:∀s' z,Heap s' (c_q el (some z) (rs ++ [r]) ++ A)->K (b_r (some z) (n+1)) s') :a_j prog s el bytes (b_r o n) x K:=by
 subst hnn
 have hat:=a_yx h hn (by omega)
 refine ⟨rs,[r],hat.rows,hx.rows,hb,fun hs=>?_,fun d' s' ha=>?_⟩
 · cases o with
   | none=>exact hs.elim
   | some x=>exact hs.elim
 rcases ha with ⟨e,_⟩ | ⟨_,id',hid',rfl,rfl⟩ | ⟨_,id',i0,len,t,rows,e,hl2,rfl,rfl⟩
 · cases e
 · refine hK _ (id',[]) ?_
   have h1:=h.new hid' (Ext.new hid' (.live el (rs ++ [r]))) (Store.set_same _ _ _) (by intro e;cases e)
   have h2:=h1.sub (l':=(id', .live el (rs ++ [r])) ::A) ((List.sublist_append_right _ _).cons_cons _)
   show Heap _ ((id',SO.live el (rs ++ [r] ++ [])) ::A)
   rw[zS]
   exact h2
 · cases o with
   | none=>cases e
   | some z=>
     injection e with e1 e2 e3
     subst e1 e2 e3
     have hz:=h.get (zE _ (List.mem_singleton.2 rfl))
     rw[hz] at hl2
     injection hl2 with q1 q2
     subst q1 q2
     refine hK _ (z.1,z.2.drop 1) ?_
     refine (Heap.put0 (so':= .live el (rs ++ [r] ++ z.2.drop 1)) h ?_ (by intro e;cases e) fun j hj _=>Store.set_ne _ _ hj)
     rw[Store.set_same,Nat.zero_add,List.take_left' rfl,List.drop_append]
     simp
end
section
variable {σ σ0:Store}
def m_b (mp:Nat)(c0 c1 c2 c3 c4:D)(c:Cf)(f10 f11 f12 f13 f14:D) :List D:= [.omap mp,c0,c1,c2,c3,c4,iD c.Age,iD c.Brake,iD c.Hold,iD c.Budget,f10,f11,f12,f13,f14,iD 0]
theorem a_wr {c:Cf}{l:List Tr}{t:Tr}(h:c.trFits l t=true) :∃a x,t.Secs=[a]/\a_n c.Secs a=some x:=by
 unfold Cf.trFits at h
 split at h
 · rename_i a ha
   split at h
   · rename_i x hx;exact ⟨a,x,ha,hx⟩
   · cases h
 · cases h
theorem a_w7 {s:Store}{A:List (Nat × SO)}{trd:Option (Nat × List (List D))}{tk:List (Nat × List (List D))}{acc:List Tr}(h:Heap s (c_q a_m trd ((tk.zip acc).map a_z) ++ ((tk.zip acc).map tkE ++ A)))(hl:tk.length=acc.length)(hn:trd=none->acc=[])(h4:acc.length<=4)
   (hs:∀t ∈ acc,t.Secs.length<=2 ^ 45) :p_d s (b_r trd acc.length) acc:=by
 have hrl:((tk.zip acc).map a_z).length=acc.length:=by simp[hl]
 have hat:=a_yx h (fun e=>by rw[hn e];simp) (by rw[hrl];omega)
 rw[hrl] at hat
 refine ⟨_,hat,hrl,fun k row t hr ht=>?_⟩
 rw[zL] at hr
 obtain ⟨x,hx⟩:=a_c (l:=tk) (j:=k) (by rw[hl];exact (zA.1 ht).1)
 rw[c_d hx ht] at hr
 injection hr with hr
 subst hr
 have:=hs t (zC ht)
 refine ⟨_,rfl,o_p (J:=x.2) (h.get (i:=x.1) (zD _ (zE _ (List.mem_map.2 ⟨(x,t),zC (c_d hx ht),rfl⟩)))) (by simp) (by simp;omega)⟩
def pst0 (c:Cf)(oc:Int) :Pst:=⟨⟨-1,oc+50,c.Age⟩,c.shape oc,-1⟩
def e_q (c:Cf) :List Pst:= [0,1,2,3].map (pst0 c)
theorem n_m (c:Cf){j:Nat}(h:j < 4) :(e_q c)[j]? =some (pst0 c j):=by
 match j,h with
 | 0,_=>rfl
 | 1,_=>rfl
 | 2,_=>rfl
 | 3,_=>rfl
theorem a_b2 {c0 c1 c2 c3 c4 dt:D}{c:Cf}{l:List Tr}{fr:List (Nat × SO)}(hc:∀s,CfAt s c0 c1 c2 c3 c4 c)(z0:c0≠ .zsl)(z1:c1≠ .zsl)(z2:c2≠ .zsl)(z3:c3≠ .zsl)(ht:∀s,p_d s dt l)(hfr:Heap σ fr) :
   DCalls prog o_c [cfA c0 c1 c2 c3 c4 c, .one dt] σ fun r s=>((d_9 c l).1≠0/\r= .tup [.one .nilp,iA (d_9 c l).1])\/((d_9 c l).1=0/\∃id L,r= .tup [.one (pO id),iA 0]/\YdIn s id L (d_9 c l).2 fr):=by
 obtain ⟨trows,hat,hlen,_⟩:=ht σ
 have hN:d_9 c l=if c.check≠0 then (c.check, .fresh c []) else if l.length > 4 then (5, .fresh c []) else match g_5 c l [] with
   | none=>(30, .fresh c [])
   | some l=>(0, .fresh c l):=rfl
 refine a_qc c0 c1 c2 c3 c4 c.Age c.Brake c.Hold c.Budget dt σ _ ((a_hl hc).use ⟨_,rfl,bcn (fun he=>?_) (fun he=>hat.lenK (bcd (fun h4=>?_) (fun h4=>?_)))⟩)
 · rw[hN,if_pos he];exact .inl ⟨he,rfl⟩
 · rw[hN,if_neg (by rw[he];simp),if_pos (by omega)];exact .inl ⟨(by show (5:Int)≠0;decide),rfl⟩
 rw[if_neg (by rw[he];simp),if_neg (by omega)] at hN
 have hcl:=c_m he
 refine (a_bb (hc σ).secs z0 (by omega)).mono ?_
 rintro r s0 ⟨rfl,d,rfl,hd⟩
 refine ⟨d,rfl,(a_f9 (hc s0).jts z1 (by omega)).mono ?_⟩
 rintro r s ⟨rfl,d1,rfl,hd1⟩
 refine ⟨d1,rfl,(a_ci (hc s).sigs z2 (by omega)).mono ?_⟩
 rintro r s0 ⟨rfl,d2,rfl,hd2⟩
 refine ⟨d2,rfl,(a_mp (hc s0).xs z3 (by omega)).mono ?_⟩
 rintro r s ⟨rfl,d3,rfl,hd3⟩
 refine ⟨d3,rfl,?_⟩
 have hcf:∀s,CfAt s d d1 d2 d3 c4 c:=fun s=>⟨hd s,hd1 s,hd2 s,hd3 s,(hc s).rts⟩
 refine a_f fun mp s1 hmp _ he1 hs1=>a_f fun yid s2 hyd _ he2 hs2=>?_
 have H2:Heap s2 ((yid, .live a_y [m_b mp d d1 d2 d3 c4 c .nils .nils .nils .nils .nils]) :: (mp, .mp 0 []) ::fr):=((hfr.new hmp he1 hs1 (by intro e;cases e)).new hyd he2 hs2 (by intro e;cases e))
 refine hat.lenK ⟨fun n s => ∃ (j : Nat) (acc : List Tr) (trd : Option (Nat × List (List D))) (tk : List (Nat × List (List D))), n = j /\ j <= l.length /\ tk.length = acc.length /\ (trd = none -> acc = []) /\ acc.length <= j /\ (∀ t ∈ acc, ∃ a x, t.Secs = [a] /\ a_n c.Secs a = some x) /\
     g_5 c (l.drop j) acc=g_5 c l []/\Heap s ((yid, .live a_y [m_b mp d d1 d2 d3 c4 c .nils .nils .nils .nils (b_r trd acc.length)]) :: (mp, .mp 0 []) :: (c_q a_m trd ((tk.zip acc).map a_z) ++ ((tk.zip acc).map tkE ++ fr))),
   fun n _=>l.length - n.toNat,⟨0,[],none,[],rfl,by omega,rfl,fun _=>rfl,by simp,(fun t h=>by cases h),rfl,H2⟩,?_⟩
 clear H2 hs2 hs1 he2 he1
 rintro _ s3 ⟨j,acc,trd,tk,rfl,hj,hkl,htn,hal,hacc,hE,H⟩
 rw[hlen]
 have hrl:((tk.zip acc).map a_z).length=acc.length:=by simp[hkl]
 have hs1:∀t ∈ acc,t.Secs.length<=2 ^ 45:=fun t h=>by
   obtain ⟨a,x,e,_⟩:=hacc t h
   rw[e];simp
 refine bcd (fun hlt=>?_) (fun hge=>?_)
 · have hlt:j < l.length:=by omega
   obtain ⟨trows3,hat3,hlen3,hrow3⟩:=ht s3
   obtain ⟨t,htj⟩:=a_c (l:=l) (j:=j) hlt
   obtain ⟨r,hr⟩:=a_c (l:=trows3) (j:=j) (by omega)
   obtain ⟨e,rfl,hae⟩:=hrow3 j r t hr htj
   have hdec:=a_v hlt
   rw[b_k htj,g_5] at hE
   have hyr:=H.get (i:=yid) List.mem_cons_self
   have hT:=a_w7 (A:=fr) (H.sub (List.Sublist.cons _ (List.Sublist.cons _ (List.Sublist.refl _)))) hkl htn (by omega) hs1
   refine hat3.load hr b_4 rfl ⟨e,t.Out,rfl,(a_mc hyr rfl rfl rfl rfl hcf hT (by omega) hs1 hae).use ⟨_,rfl,a_0 (fun hf=>?_) (fun hf=>?_)⟩⟩
   · rw[if_neg (by rw[hf];decide)] at hE
     rw[hN,<-hE];exact .inl ⟨(by show (30:Int)≠0;decide),rfl⟩
   rw[if_pos hf] at hE
   obtain ⟨a,xa,ha,hxa⟩:=a_wr hf
   have hts:t.Secs.length=1:=by rw[ha];rfl
   refine ⟨_,_,a_ri (d:=e) (l:=t.Secs) (by rw[ha];intro e;cases e) (by omega),_,a_d hyr,b_r trd acc.length,rfl,⟨rfl,hae⟩,?_⟩
   rintro r6 s4 ⟨id2,so,hid2,hne,⟨J,rfl,rfl,rfl⟩,rfl⟩
   have H4:=H.new' hid2 (Ext.new hid2 _) (Store.set_same _ _ _) hne
   refine ⟨_,rfl,a_f fun tmp s5 htmp _ he5 hs5=>?_⟩
   have H5:=H4.ext he5
   have H5p:Heap s5 (c_q a_m trd ((tk.zip acc).map a_z) ++ ((yid, .live a_y [m_b mp d d1 d2 d3 c4 c .nils .nils .nils .nils (b_r trd acc.length)]) :: (mp, .mp 0 []) :: (((tk.zip acc).map tkE ++ [(id2, .live a_e (t.Secs.map Go.Fw.encI ++ []))]) ++ fr))):=by
     refine H5.perm (b_q fun a=>?_)
     simp only[List.count_append,List.count_cons,List.count_nil]
     omega
   refine f_r (el:=a_m) (bytes:=32) (x:= .osl tmp 0 1) (r:= [.osl id2 0 t.Secs.length,iD t.Out]) H5p (fun e=>by rw[htn e];simp) hrl.symm (by rw[hrl];omega) (At.fresh hs5 (by simp) rfl) (by rw[hrl];omega) ?_
   intro s6 z H6
   have H6p:Heap s6 ((yid, .live a_y [m_b mp d d1 d2 d3 c4 c .nils .nils .nils .nils (b_r trd acc.length)]) :: (mp, .mp 0 []) :: (c_q a_m (some z) ((tk.zip acc).map a_z ++ [[.osl id2 0 t.Secs.length,iD t.Out]]) ++ (((tk.zip acc).map tkE ++ [(id2, .live a_e (t.Secs.map Go.Fw.encI ++ []))]) ++ fr))):=by
     refine H6.perm (b_q fun a=>?_)
     simp only[List.count_append,List.count_cons,List.count_nil]
     omega
   refine H6p.row (by simp[m_b]) fun s7 H7 _=>?_
   have hz2:(tk ++ [(id2,[])]).zip (acc ++ [t]) =tk.zip acc ++ [((id2,[]),t)]:=by rw[List.zip_append hkl];rfl
   rw[a_i (by omega)]
   refine ⟨by first | exact rfl | trivial,⟨j+1,acc ++ [t],some z,tk ++ [(id2,[])],rfl,hlt,by simp[hkl],fun e=>(by cases e),by simp;omega,fun t' h=>?_,hE,?_⟩,hdec⟩
   · rcases List.mem_append.1 h with h | h
     · exact hacc t' h
     · rw[List.mem_singleton.1 h];exact ⟨a,xa,ha,hxa⟩
   · rw[hz2,List.map_append,List.map_append,zP]
     exact H7
 have e:j=l.length:=by omega
 subst e
 rw[List.drop_length,g_5] at hE
 rw[<-hE] at hN
 have hN:d_9 c l=(0, .fresh c acc):=hN
 clear hge hj hE hat hlen
 generalize hD:(mp,SO.mp 0 []) :: (c_q a_m trd ((tk.zip acc).map a_z) ++ ((tk.zip acc).map tkE ++ fr)) =R0 at H
 refine a_f fun t1 s4 _ _ he4 hs4=>(hd s4).lenK ?_
 rw[zB]
 refine (p_g (n:=c.Secs.length) (At.fresh (rs:= [[iD 1,iD 1,iD 0]]) hs4 (by simp) rfl) (by omega)).mono ?_
 rintro r s5 ⟨idp,hidp,rfl,rfl⟩
 refine ⟨_,rfl,?_⟩
 have H5:=(H.ext he4).new' (so:= .live a_l (List.replicate c.Secs.length [iD 1,iD 1,iD 0])) hidp (Ext.new hidp _) (Store.set_same _ _ _) (by intro e;cases e)
 refine H5.row (by simp[m_b]) fun s6 H6 _=>?_
 refine a_f fun t2 s7 _ _ he7 hs7=>(hd3 s7).lenK ?_
 rw[zB]
 refine (p_g (n:=c.Xs.length) (At.fresh (rs:= [[iD 1,iD 1,iD 0]]) hs7 (by simp) rfl) (by omega)).mono ?_
 rintro r s8 ⟨idg,hidg,rfl,rfl⟩
 refine ⟨_,rfl,?_⟩
 have H8:=(H6.ext he7).new' (so:= .live a_l (List.replicate c.Xs.length [iD 1,iD 1,iD 0])) hidg (Ext.new hidg _) (Store.set_same _ _ _) (by intro e;cases e)
 refine H8.row (by simp[m_b,patch]) fun s9 H9 _=>?_
 refine a_f fun t3 s10 _ _ he10 hs10=>(hd2 s10).lenK ?_
 rw[zB]
 refine (a_gk (n:=c.Sigs.length) (At.fresh (rs:= [[iD 0,iD (-1)]]) hs10 (by simp) rfl) (by omega)).mono ?_
 rintro r s11 ⟨idl,hidl,rfl,rfl⟩
 refine ⟨_,rfl,?_⟩
 have H11:=(H9.ext he10).new' (so:= .live b_c (List.replicate c.Sigs.length [iD 0,iD (-1)])) hidl (Ext.new hidl _) (Store.set_same _ _ _) (by intro e;cases e)
 refine H11.row (by simp[m_b,patch]) fun s12 H12 _=>?_
 have H12 : Heap s12 ((yid, .live a_y [m_b mp d d1 d2 d3 c4 c (.osl idp 0 c.Secs.length) (.osl idg 0 c.Xs.length) (.osl idl 0 c.Sigs.length) .nils (b_r trd acc.length)]) ::
     (idl, .live b_c (List.replicate c.Sigs.length [iD 0,iD (-1)])) :: (idg, .live a_l (List.replicate c.Xs.length [iD 1,iD 1,iD 0])) :: (idp, .live a_l (List.replicate c.Secs.length [iD 1,iD 1,iD 0])) ::R0):=H12
 clear H11 H9 H8 H6 H5 H
 generalize hR1:(idl,SO.live b_c (List.replicate c.Sigs.length [iD 0,iD (-1)])) :: (idg,SO.live a_l (List.replicate c.Xs.length [iD 1,iD 1,iD 0])) :: (idp,SO.live a_l (List.replicate c.Secs.length [iD 1,iD 1,iD 0])) ::R0=R1 at H12
 refine ⟨fun n s => ∃ (j : Nat) (ps : List PL) (pod : Option (Nat × List (List D))), n = j /\ j <= 4 /\ ps.length = j /\ (pod = none -> ps = []) /\ (∀ (k : Nat) pl, ps[k]? = some pl -> ShFz pl.h0 pl.h1 pl.h2 pl.h3 (c.shape k)) /\
     Heap s ((yid, .live a_y [m_b mp d d1 d2 d3 c4 c (.osl idp 0 c.Secs.length) (.osl idg 0 c.Xs.length) (.osl idl 0 c.Sigs.length) (b_r pod ps.length) (b_r trd acc.length)]) ::
       (c_q b_5 pod (ps.map fun x=> [pO x.i]) ++ ((ps.zip ((e_q c).take j)).map g_e ++ ((ps.zip ((e_q c).take j)).map l_0 ++ R1)))),
   fun n _=>4 - n.toNat,⟨0,[],none,rfl,by omega,rfl,fun _=>rfl,(fun k pl h=>by simp at h),H12⟩,?_⟩
 clear H12
 rintro _ s ⟨j,ps,pod,rfl,hj,hpl,hpn,hsh,H⟩
 refine bcd (fun hlt=>?_) (fun hge=>?_)
 · have hlt:j < 4:=by omega
   have hw:w64 ((j:Int) +50) =(j:Int) +50:=a_r (by omega) (by omega)
   refine ⟨_,_,a_nr (w64 ((j:Int) +50)) c.Age,_,_,a_rf hcf j (by omega) (by omega) (by omega),_,a_d (H.get List.mem_cons_self),b_r pod ps.length,rfl,rfl,?_⟩
   rintro r8 s1' ⟨idr,so,hidr,hne,⟨rfl,rfl⟩,rfl⟩
   have H1:=H.new' hidr (Ext.new hidr _) (Store.set_same _ _ _) hne
   refine ⟨_,rfl,rfl,?_⟩
   rintro r9 s2' ⟨rfl,a0,a1,a2,a3,rfl,hS⟩
   refine ⟨a0,a1,a2,a3,rfl,a_f fun id5 s3' hid5 _ he5 hs5=>a_f fun tmp s4' _ _ he6 hs6=>?_⟩
   have hs5:s3' id5= .live d_j [[pO idr,a0,a1,a2,a3,iD (-1)]]:=hs5
   have H3:=(H1.new' hid5 he5 hs5 (by intro e;cases e)).ext he6
   have H3p : Heap s4' (c_q b_5 pod (ps.map fun x => [pO x.i]) ++ ((yid, .live a_y [m_b mp d d1 d2 d3 c4 c (.osl idp 0 c.Secs.length) (.osl idg 0 c.Xs.length) (.osl idl 0 c.Sigs.length) (b_r pod ps.length) (b_r trd acc.length)]) ::
       (((ps.zip ((e_q c).take j)).map g_e ++ [(id5, .live d_j [[pO idr,a0,a1,a2,a3,iD (-1)]])]) ++ (((ps.zip ((e_q c).take j)).map l_0 ++ [(idr, .live b_o [[iD (-1),iD 0,iD 0,iD (w64 ((j:Int) +50)),iD c.Age]])]) ++ R1)))):=by
     refine H3.perm (b_q fun a=>?_)
     simp only[List.count_append,List.count_cons,List.count_nil]
     omega
   refine f_r (el:=b_5) (bytes:=8) (r:= [pO id5]) H3p (fun e=>by rw[hpn e];rfl) (by rw[zB]) (by rw[zB];omega) (At.fresh hs6 (by simp) rfl) (by rw[zB];omega) ?_
   intro s6 z H6
   have H6p : Heap s6 ((yid, .live a_y [m_b mp d d1 d2 d3 c4 c (.osl idp 0 c.Secs.length) (.osl idg 0 c.Xs.length) (.osl idl 0 c.Sigs.length) (b_r pod ps.length) (b_r trd acc.length)]) ::
       (c_q b_5 (some z) ((ps.map fun x=> [pO x.i]) ++ [[pO id5]]) ++ (((ps.zip ((e_q c).take j)).map g_e ++ [(id5, .live d_j [[pO idr,a0,a1,a2,a3,iD (-1)]])]) ++ (((ps.zip ((e_q c).take j)).map l_0 ++ [(idr, .live b_o [[iD (-1),iD 0,iD 0,iD (w64 ((j:Int) +50)),iD c.Age]])]) ++ R1)))):=by
     refine H6.perm (b_q fun a=>?_)
     simp only[List.count_append,List.count_cons,List.count_nil]
     omega
   refine H6p.row (by simp[m_b]) fun s7 H7 _=>?_
   have hdec:=a_v hlt
   have htake:(e_q c).take (j+1) =(e_q c).take j ++ [pst0 c j]:=by rw[zQ,n_m c hlt];rfl
   have hzip:(ps ++ [(⟨id5,idr,a0,a1,a2,a3,0,0⟩ :PL)]).zip ((e_q c).take (j+1)) =ps.zip ((e_q c).take j) ++ [(⟨id5,idr,a0,a1,a2,a3,0,0⟩,pst0 c j)]:=by
     rw[htake,List.zip_append (by rw[hpl,zR];show j=min j 4;omega)];rfl
   rw[a_i (by omega)]
   refine ⟨by first | exact rfl | trivial,⟨j+1,ps ++ [⟨id5,idr,a0,a1,a2,a3,0,0⟩],some z,rfl,hlt,by simp[hpl],fun e=>(by cases e),fun k pl h=>?_,?_⟩,hdec⟩
   · by_cases hk:k < ps.length
     · rw[zJ hk] at h;exact hsh k pl h
     · rw[zN (by omega)] at h
       have hk2:k=j:=by
         have:=(zA.1 h).1
         simp at this;omega
       subst hk2
       rw[hpl,Nat.sub_self] at h
       injection h with h
       subst h
       exact hS
   · rw[hzip,List.map_append,List.map_append,List.map_append,zP]
     rw[hw] at H7
     exact H7
 have e:j=4:=by omega
 subst e
 rw[hN]
 refine .inr ⟨rfl,yid,?_⟩
 cases pod with
 | none=>rw[hpn rfl] at hpl;cases hpl
 | some z=>
   refine ⟨⟨mp,0,[],d,d1,d2,d3,c4,idp,idg,idl,z.1,z.2,ps,trd,tk⟩,rfl,?_,hcf,?_,?_,hpl,?_,hkl,?_⟩
   · have e1:(List.replicate c.Secs.length (⟨1,1,0⟩ :Th)).map Th.enc=List.replicate c.Secs.length [iD 1,iD 1,iD 0]:=List.map_replicate ..
     have e2:(List.replicate c.Xs.length (⟨1,1,0⟩ :Th)).map Th.enc=List.replicate c.Xs.length [iD 1,iD 1,iD 0]:=List.map_replicate ..
     have e3:(List.replicate c.Sigs.length (⟨0,-1⟩ :Lp)).map Lp.enc=List.replicate c.Sigs.length [iD 0,iD (-1)]:=List.map_replicate ..
     have e : b_8 yid ⟨mp, 0, [], d, d1, d2, d3, c4, idp, idg, idl, z.1, z.2, ps, trd, tk⟩ (0, Yd.fresh c acc).2 fr =
         (yid, .live a_y [m_b mp d d1 d2 d3 c4 c (.osl idp 0 c.Secs.length) (.osl idg 0 c.Xs.length) (.osl idl 0 c.Sigs.length) (b_r (some z) ps.length) (b_r trd acc.length)]) :: (mp, .mp 0 []) ::
           (idp, .live a_l (List.replicate c.Secs.length [iD 1,iD 1,iD 0])) :: (idg, .live a_l (List.replicate c.Xs.length [iD 1,iD 1,iD 0])) :: (idl, .live b_c (List.replicate c.Sigs.length [iD 0,iD (-1)])) ::
           (c_q b_5 (some z) (ps.map fun x=> [pO x.i]) ++ ((ps.zip ((e_q c).take 4)).map g_e ++ ((ps.zip ((e_q c).take 4)).map l_0 ++ (c_q a_m trd ((tk.zip acc).map a_z) ++ ((tk.zip acc).map tkE ++ fr))))):=by
       rw[<-e1,<-e2,<-e3]
       unfold b_8 b_i g_q
       rw[hpl]
       show _=_
       simp only[Yd.fresh,List.length_replicate]
       rfl
     rw[e]
     subst hR1 hD
     refine H.perm (b_q fun a=>?_)
     simp only[List.count_append,List.count_cons,List.count_nil]
     omega
   · intro e h;cases h
   · exact fun k=>rfl
   · intro k pl p h1 h2
     have hk:k < 4:=by have:=(zA.1 h1).1;rw[<-hpl];exact this
     have h2:(e_q c)[k]? =some p:=h2
     rw[n_m c hk] at h2
     injection h2 with h2
     subst h2
     exact hsh k pl h1
   · exact htn
end
section
variable {σ σ0:Store}
theorem a_dl (a b:Int × Int) :eqA (n_4 a) (n_4 b) =true↔a=b:=by
 simp[n_4,eqA,b_x,b_p,e_f,Prod.ext_iff]
section
variable {s:Store} {id:Nat} {L:YL} {y:Yd} {fr:List (Nat × SO)} {N:Nat}
theorem YdIn.putMp (h:YdIn s id L y fr){c':Nat}{es':List Ent}{F:Int × Int->Bool}{s':Store}(hs:s' L.mp= .mp c' es')(hk:f_l prog j_k es')(hf:∀k,(b_e (n_4 k) es').getD (bA false) =bA (F k))(ho:Keep L.mp s s') :
   YdIn s' id { L with clk:=c',es:=es' } { y with Flt:=F } fr:=by
 have hp:=Heap.put (A:= []) (X:=b_i id L y) (B:=p_2 L y fr) (k:=1) h.heap rfl hs (by intro e;cases e) ho
 exact ⟨hp,h.cfg,hk,hf,h.psl,h.sh,h.tkl,h.trn⟩
def e_i (c:Cf)(kind:Int) :Nat:=if kind=4 then c.Sigs.length else if kind=5\/kind=6 then c.Xs.length else c.Secs.length
theorem YdIn.setFault (h:YdIn s id L y fr)(hw:Ywf y N)(kind n:Int)(on:Bool) :DCalls prog h_y [.one (pO id),iA kind,iA n,bA on] s fun r s'=>r= .a (iA (y.fault kind n on).2)/\∃L',YdIn s' id L' (y.fault kind n on).1 fr:=by
 have hY:y.fault kind n on=if kind < 1\/kind > 6 then (y,27) else if n < 0\/n>=(e_i y.C kind:Nat) then (y,20) else
   if (kind=2\/kind=3)/\((a_n y.C.Secs n).map Sec.Kind).getD 0≠1 then (y,20) else ({ y with Flt:=fun p=>if p=(kind,n) then on else y.Flt p },0):=by
   unfold Yd.fault e_i
   rfl
 have hc:=h.cfg s
 refine x_3 (pO id) kind n on s _ ?_
 refine ⟨trivial,_,_,_,rfl,_,a_d h.row,_,rfl,hc.secs.lenK ⟨trivial,_,_,_,rfl,_,a_d h.row,_,rfl,hc.secs.lenK ⟨trivial,_,_,_,rfl,_,a_d h.row,_,rfl,hc.secs.lenK ⟨trivial,_,_,_,rfl,_,a_d h.row,_,rfl,hc.sigs.lenK ⟨trivial,_,_,_,rfl,_,a_d h.row,_,rfl,hc.xs.lenK ⟨trivial,_,_,_,rfl,_,a_d h.row,_,rfl,hc.xs.lenK ?_⟩⟩⟩⟩⟩⟩
 simp only[zB]
 refine a_f fun mid s1 hmid _ he1 hs1=>?_
 refine (MapAt.new hs1).put h_j (1:Int) fun s2 f2 m2 o2 x2 k2 _=>m2.put h_j (2:Int) fun s3 f3 m3 o3 x3 k3 _=>m3.put h_j (3:Int) fun s4 f4 m4 o4 x4 k4 _=>m4.put h_j (4:Int) fun s5 f5 m5 o5 x5 k5 _=>m5.put h_j (5:Int) fun s6 f6 m6 o6 x6 k6 _=>m6.put h_j (6:Int) fun s7 f7 m7 o7 x7 k7 _=>?_
 have he7:Ext s s7:=fun i hi=>by
   have hne:i≠mid:=fun e=>hi (by rw[e];exact hmid)
   rw[k7 i hne,k6 i hne,k5 i hne,k4 i hne,k3 i hne,k2 i hne];exact he1 i hi
 have h7:=h.ext he7
 have v1:f7 1=some (iA (y.C.Secs.length:Nat)):=by rw[o7 1 (by decide),o6 1 (by decide),o5 1 (by decide),o4 1 (by decide),o3 1 (by decide)];exact x2
 have v2:f7 2=some (iA (y.C.Secs.length:Nat)):=by rw[o7 2 (by decide),o6 2 (by decide),o5 2 (by decide),o4 2 (by decide)];exact x3
 have v3:f7 3=some (iA (y.C.Secs.length:Nat)):=by rw[o7 3 (by decide),o6 3 (by decide),o5 3 (by decide)];exact x4
 have v4:f7 4=some (iA (y.C.Sigs.length:Nat)):=by rw[o7 4 (by decide),o6 4 (by decide)];exact x5
 have v5:f7 5=some (iA (y.C.Xs.length:Nat)):=by rw[o7 5 (by decide)];exact x6
 have v6:f7 6=some (iA (y.C.Xs.length:Nat)):=x7
 have v0:(kind < 1\/kind > 6)->f7 kind=none:=fun hk=>by
   rw[o7 kind (by omega),o6 kind (by omega),o5 kind (by omega),o4 kind (by omega),o3 kind (by omega),o2 kind (by omega)]
 have vk:¬(kind < 1\/kind > 6)->f7 kind=some (iA (e_i y.C kind:Nat)):=fun hk=>by
   have:kind=1\/kind=2\/kind=3\/kind=4\/kind=5\/kind=6:=by omega
   rcases this with rfl | rfl | rfl | rfl | rfl | rfl
   · exact v1
   · exact v2
   · exact v3
   · exact v4
   · exact v5
   · exact v6
 by_cases hk:kind < 1\/kind > 6
 · refine ⟨f7 kind,m7.look h_j kind,0,by rw[v0 hk];rfl,fun R hR=>?_⟩
   rw[v0 hk]
   refine bc (fun _=>⟨?_,L,?_⟩) (fun e=>by cases e)
   · rw[hY,if_pos hk]
   · rw[hY,if_pos hk];exact h7
 rw[if_neg hk] at hY
 refine ⟨f7 kind,m7.look h_j kind,(e_i y.C kind:Nat),by rw[vk hk];rfl,fun R hR=>?_⟩
 rw[vk hk]
 refine bc (fun e=>by cases e) (fun _=>bcd (fun h1=>⟨?_,L,?_⟩) (fun h1=>bcd (fun h2=>⟨?_,L,?_⟩) (fun h2=>?_)))
 · rw[hY,if_pos (.inl h1)]
 · rw[hY,if_pos (.inl h1)];exact h7
 · rw[hY,if_pos (.inr h2)]
 · rw[hY,if_pos (.inr h2)];exact h7
 rw[if_neg (by omega)] at hY
 have go:¬((kind=2\/kind=3)/\((a_n y.C.Secs n).map Sec.Kind).getD 0≠1)->R s7:=fun hg=>by
   refine hR s7 ⟨trivial,_,_,_,rfl,_,a_d h7.row, .omap L.mp,rfl,L.mp,L.clk,L.es,⟨by kernel_rfl,rfl,h7.mp,h7.keys⟩,fun c' es' q1 q2=>?_⟩
   rw[hY,if_neg hg]
   refine ⟨rfl,_,h7.putMp (c':=c') (es':=es') (Store.set_same _ _ _) q1 (fun k=>?_) (.of fun i hi=>Store.set_ne _ _ hi)⟩
   have q2:=q2 (n_4 k)
   rw[q2]
   by_cases e:k=(kind,n)
   · have e1:eqA (n_4 k) (.agg [iD kind,iD n]) =true:=(a_dl k (kind,n)).2 e
     rw[if_pos e1,if_pos e];rfl
   · have e1:¬eqA (n_4 k) (.agg [iD kind,iD n]) =true:=fun g=>e ((a_dl k (kind,n)).1 g)
     rw[if_neg e1,if_neg e];exact h7.flt k
 have secs:(kind=2\/kind=3)->∃x j,y.C.Secs[j]? =some x/\n=(j:Nat):=fun hk2=>by
   have e:e_i y.C kind=y.C.Secs.length:=by
     unfold e_i;rcases hk2 with rfl | rfl <;> rfl
   rw[e] at h2
   obtain ⟨j,rfl⟩:=zI (show 0<=n by omega)
   obtain ⟨x,hx⟩:=a_c (l:=y.C.Secs) (j:=j) (by omega)
   exact ⟨x,j,hx,rfl⟩
 refine bce (fun e2=>?_) (fun e2=>bce (fun e3=>?_) (fun e3=>go fun hg=>by rcases hg.1 with g | g;exact e2 g;exact e3 g))
 · obtain ⟨x,j,hx,rfl⟩:=secs (.inl e2)
   refine ⟨trivial,_,_,_,rfl,_,a_d h7.row,_,rfl,(h.cfg s7).secs.load (a_g hx) a_x rfl ⟨x.Kind,rfl,bcn (fun hne=>?_) (fun he=>go fun hg=>hg.2 (by rw[a_1,hx];exact he))⟩⟩
   rw[hY,if_pos ⟨.inl e2,by rw[a_1,hx];exact hne⟩];exact ⟨rfl,L,h7⟩
 · obtain ⟨x,j,hx,rfl⟩:=secs (.inr e3)
   refine ⟨trivial,_,_,_,rfl,_,a_d h7.row,_,rfl,(h.cfg s7).secs.load (a_g hx) a_x rfl ⟨x.Kind,rfl,bcn (fun hne=>?_) (fun he=>go fun hg=>hg.2 (by rw[a_1,hx];exact he))⟩⟩
   rw[hY,if_pos ⟨.inr e3,by rw[a_1,hx];exact hne⟩];exact ⟨rfl,L,h7⟩
theorem Ywf.fault (hw:Ywf y N)(kind n:Int)(on:Bool) :Ywf (y.fault kind n on).1 N:=by
 have e:(y.fault kind n on).1=y\/∃F,(y.fault kind n on).1= { y with Flt:=F } :=by
   unfold Yd.fault
   repeat' split
   all_goals first | exact .inl rfl | exact .inr ⟨_,rfl⟩
 rcases e with e | ⟨F,e⟩
 · rw[e];exact hw
 · rw[e];exact ⟨hw.chk,hw.pts,hw.gts,hw.lps,hw.psts,hw.pst,hw.trs,hw.tr,hw.now,hw.last,hw.left⟩
end
end
section
variable {σ σ0:Store}
section
variable {s:Store} {id:Nat} {L:YL} {y:Yd} {fr:List (Nat × SO)} {N:Nat}
def a_fo (L:YL)(y:Yd) :List (Nat × SO):=(b_i (0:Nat) L y).drop 1
theorem m_e (id:Nat)(L:YL)(y:Yd) :b_i id L y=(id, .live a_y [g_q L y]) ::a_fo L y:=rfl
theorem YdIn.enter (h:YdIn s id L y fr)(hw:Ywf y N)(line:Int) :DCalls prog h_1 [.one (pO id),iA line] s fun r s'=>r= .a (iA (y.enter line).2)/\∃L',YdIn s' id L' (y.enter line).1 fr:=by
 have h4:=hw.trs
 have hY:y.enter line=if line < 1\/d_h (fun x=>x.Line == line) y.C.Secs 0 < 0 then (y,20) else
   if y.Trs.length>=4 then (y,5) else
   if y.C.sigAt (d_h (fun x=>x.Line == line) y.C.Secs 0) 0 < 0 then (y,29) else ({ y with Trs:=y.Trs ++ [⟨[d_h (fun x=>x.Line == line) y.C.Secs 0],0⟩] },0):=rfl
 refine y_h (pO id) line s _ (a_f fun lid s1 hlid _ he1 hs1=>?_)
 have h1:=h.ext he1
 refine ⟨trivial,_,_,_,rfl,_,a_d h1.row,_,rfl,(q_z (p:=fun x=>x.Line == line) (h.cfg s1).secs (a_r7 hs1 fun x _=>s_w x.Kind x.OC x.Line _ s1 _ ⟨_,_,_,rfl,_,a_d hs1,line,rfl,rfl,rfl⟩)).use ⟨_,rfl,_,a_d hs1,line,rfl,?_⟩⟩
 generalize hn:d_h (fun x:Sec=>x.Line == line) y.C.Secs 0=n at hY
 refine bcd (fun g=>?_) (fun g=>bcd (fun g2=>?_) (fun g2=>?_))
 · rw[hY,if_pos (.inl g)];exact ⟨rfl,L,h1⟩
 · rw[hY,if_pos (.inr g2)];exact ⟨rfl,L,h1⟩
 rw[if_neg (by omega)] at hY
 have hrl:((L.tk.zip y.Trs).map a_z).length=y.Trs.length:=by simp[h.tkl]
 refine ⟨trivial,_,_,_,rfl,_,a_d h1.row,_,rfl,(h1.trAt hw).lenK ?_⟩
 rw[hrl]
 refine bcd (fun g3=>?_) (fun g3=>(h1.signal n 0).use ⟨_,rfl,bcd (fun g4=>?_) (fun g4=>?_)⟩)
 · rw[hY,if_pos (by omega)];exact ⟨rfl,L,h1⟩
 · rw[hY,if_neg (by omega),if_pos g4];exact ⟨rfl,L,h1⟩
 rw[if_neg (by omega),if_neg g4] at hY
 refine ⟨trivial,_,_,_,rfl,_,a_d h1.row,_,rfl,a_f fun id1 s2 hid1 _ he2 hs2=>a_f fun tmp s3 htmp _ he3 hs3=>?_⟩
 have hs2:s2 id1= .live a_e ([n].map Go.Fw.encI ++ []):=hs2
 have H:=(h1.heap.new hid1 he2 hs2 (by intro e;cases e)).ext he3
 have H':Heap s3 (c_q a_m L.trd ((L.tk.zip y.Trs).map a_z) ++ ((id, .live a_y [g_q L y]) :: (a_fo L y ++ ((L.ps.zip y.Psts).map g_e ++ ((L.ps.zip y.Psts).map l_0 ++ (((L.tk.zip y.Trs).map tkE ++ [(id1, .live a_e ([n].map Go.Fw.encI ++ []))]) ++ fr)))))):=by
   refine H.perm (b_q fun a=>?_)
   have e:trE L y=c_q a_m L.trd ((L.tk.zip y.Trs).map a_z):=rfl
   unfold b_8
   rw[m_e,e]
   simp only[List.count_append,List.count_cons,List.count_nil]
   omega
 refine f_r (el:=a_m) (bytes:=32) (r:= [.osl id1 0 1,iD 0]) H' (fun e=>by rw[h.trn e];simp) hrl.symm (by rw[hrl];omega) (At.fresh hs3 (by simp) rfl) (by rw[hrl];omega) ?_
 intro s4 z H4
 have H4':Heap s4 ((id, .live a_y [g_q L y]) :: (a_fo L y ++ ((L.ps.zip y.Psts).map g_e ++ ((L.ps.zip y.Psts).map l_0 ++ (c_q a_m (some z) ((L.tk.zip y.Trs).map a_z ++ [[.osl id1 0 1,iD 0]]) ++ (((L.tk.zip y.Trs).map tkE ++ [(id1, .live a_e ([n].map Go.Fw.encI ++ []))]) ++ fr)))))):=by
   refine H4.perm (b_q fun a=>?_)
   simp only[List.count_append,List.count_cons,List.count_nil]
   omega
 refine ⟨trivial,_,_,_,rfl,H4'.row (by simp[g_q]) fun s5 H5 _=>?_⟩
 rw[hY]
 refine ⟨rfl,{ L with trd:=some z,tk:=L.tk ++ [(id1,[])] },?_,h.cfg,h.keys,h.flt,h.psl,h.sh,by simp[h.tkl],fun e=>(by cases e)⟩
 have hzip:(L.tk ++ [(id1,([]:List (List D)))]).zip (y.Trs ++ [(⟨[n],0⟩ :Tr)]) =L.tk.zip y.Trs ++ [((id1,[]),(⟨[n],0⟩ :Tr))]:=by rw[List.zip_append h.tkl];rfl
 have e : b_8 id { L with trd := some z, tk := L.tk ++ [(id1, [])] } { y with Trs := y.Trs ++ [⟨[n], 0⟩] } fr =
     (id, .live a_y [patch (g_q L y) (0+14) [b_r (some z) (y.Trs.length+1)]]) :: (a_fo L y ++ ((L.ps.zip y.Psts).map g_e ++ ((L.ps.zip y.Psts).map l_0 ++ (c_q a_m (some z) ((L.tk.zip y.Trs).map a_z ++ [[.osl id1 0 1,iD 0]]) ++ (((L.tk.zip y.Trs).map tkE ++ [(id1, .live a_e ([n].map Go.Fw.encI ++ []))]) ++ fr))))):=by
   unfold b_8
   rw[m_e]
   unfold g_q trE trD
   simp only[hzip,List.map_append,zP,List.length_singleton]
   rfl
 rw[e];exact H5
theorem Ywf.enter (hw:Ywf y N)(hN:1<=N)(line:Int) :Ywf (y.enter line).1 N:=by
 have hY:y.enter line=if line < 1\/d_h (fun x=>x.Line == line) y.C.Secs 0 < 0 then (y,20) else
   if y.Trs.length>=4 then (y,5) else
   if y.C.sigAt (d_h (fun x=>x.Line == line) y.C.Secs 0) 0 < 0 then (y,29) else ({ y with Trs:=y.Trs ++ [⟨[d_h (fun x=>x.Line == line) y.C.Secs 0],0⟩] },0):=rfl
 rw[hY]
 split
 · exact hw
 split
 · exact hw
 split
 · exact hw
 rename_i h1 h2 h3
 refine ⟨hw.chk,hw.pts,hw.gts,hw.lps,hw.psts,hw.pst,by simp;omega,fun t ht=>?_,hw.now,hw.last,hw.left⟩
 rcases List.mem_append.1 ht with ht | ht
 · exact hw.tr t ht
 · rw[List.mem_singleton.1 ht]
   refine ⟨(by intro e;cases e),hN,fun s hs=>?_⟩
   rw[List.mem_singleton.1 hs]
   rcases w_i (fun x:Sec=>x.Line == line) y.C.Secs 0 with g | g
   · exact absurd (by rw[g];decide) (fun e=>h1 (.inr e))
   · exact i_9 (l:=y.C.Secs) (by omega) (by omega)
end
end
end Go.Proofs.YtaklhjodjbgmgaaGreat
namespace Go.Fw
section
def Rc.takeS (r:Rc)(now:Int)(a:Said) :Rc × List UInt8 × Int:=
 if a.e≠0 then (r,[],a.e) else
 if a.p≠r.Peer then (r,[],16) else
 if a.s > now then (r,[],19) else
 if now - a.s > r.Age then (r,[],17) else
 if a.s<=r.Last then (r,[],18) else ({ r with Last:=a.s },a.b,0)
def Yd.takeS (y:Yd)(oc:Int)(a:Said) :Yd × Int:=
 match a_n y.Psts oc with
 | none=>(y,20)
 | some p=>
   if (p.R.takeS y.Now a).2.2≠0 then (y,(p.R.takeS y.Now a).2.2) else
   match g_d p.H (p.R.takeS y.Now a).2.1 with
   | none=>({ y with Psts:=y.Psts.set oc.toNat { p with R:=(p.R.takeS y.Now a).1 } },3)
   | some o=>({ y with Psts:=y.Psts.set oc.toNat ⟨(p.R.takeS y.Now a).1,p.H,(p.R.takeS y.Now a).1.Last⟩,Pts:=f_c p.H.Pts o.Pos y.Pts,Gts:=e_9 p.H.Xs o.Shut y.Gts,Lps:=q_6 p.H.Sgs o.Asp y.Lps },0)
theorem Yd.take_said (y:Yd)(oc:Int)(t:List UInt8) :y.take oc t=y.takeS oc (a_2 t):=rfl
def st19:Cf:=⟨[⟨0,0,0⟩,⟨1,0,0⟩,⟨0,0,0⟩,⟨0,0,0⟩,⟨0,0,1⟩],[⟨0,1,1,0⟩,⟨1,1,2,0⟩,⟨1,2,3,0⟩,⟨2,1,4,0⟩],[⟨0,1⟩,⟨2,1⟩],[],[⟨0,1,[⟨1,0,1⟩,⟨2,0,1⟩],[],[],false⟩,⟨1,-1,[⟨4,0,1⟩],[],[],false⟩],2,1,4,1000⟩
def t19:List UInt8:=g_f (i_q 50 1 5 ++ [2,0,2,0])
theorem a_zj:a_2 t19=⟨50,1,5,[2,0,2,0],0⟩:=a_tq (by omega) (by omega) (by omega) (by decide)
def lv0:Yd:=(d_9 st19 [⟨[0],1⟩]).2
def lv1:Yd:=(lv0.move 0).1
def lv2:Yd:=lv1.tick 5
def lv3:Yd:=(lv2.takeS 0 ⟨50,1,5,[2,0,2,0],0⟩).1
def lv4:Yd:=lv3.look
def lv5:Yd:=(lv4.move 0).1
theorem a_wx:(d_9 st19 [⟨[0],1⟩]).1=0:=by decide +kernel
theorem a_w8:(lv0.move 0).2=29:=by decide +kernel
theorem a_yo:(lv2.takeS 0 ⟨50,1,5,[2,0,2,0],0⟩).2=0:=by decide +kernel
theorem a_wl:lv3.shows 0=2:=by decide +kernel
theorem a_un:(lv4.move 0).2=0:=by decide +kernel
theorem a_wa:lv5.Trs.length=1:=by decide +kernel
theorem a_xw:((lv5.Trs[0]?).map fun t=>(t.Secs,t.Out)) =some ([1,0],1):=by decide +kernel
theorem a_xh:lv5.hits.length=0:=by decide +kernel
theorem a_w6:lv2.take 0 t19=lv2.takeS 0 ⟨50,1,5,[2,0,2,0],0⟩:=by rw[Yd.take_said,a_zj]
theorem a_wb:∃t,lv5.Trs[0]? =some t/\t.Secs=[1,0]/\t.Out=1:=by
 have h:=a_xw
 cases hl:lv5.Trs[0]? with
 | none=>rw[hl] at h;cases h
 | some t=>
   rw[hl] at h
   simp only[Option.map_some,Option.some.injEq,Prod.mk.injEq] at h
   exact ⟨t,rfl,h.1,h.2⟩
theorem a_wn:(lv2.take 0 t19).2=0/\(lv2.take 0 t19).1=lv3:=by
 rw[a_w6]
 exact ⟨a_yo,rfl⟩
theorem a_cc (c:Cf) :∀(r l l':List Tr),g_5 c r l=some l'->(∀t ∈ l,∃a x,t.Secs=[a]/\a_n c.Secs a=some x)->(∀t ∈ l',∃a x,t.Secs=[a]/\a_n c.Secs a=some x)/\l'=l ++ r
 | [],l,l',h,hl=>by rw[g_5] at h;injection h with h;subst h;exact ⟨hl,by simp⟩
 | t::r,l,l',h,hl=>by
   rw[g_5] at h
   split at h
   · rename_i hf
     have:=a_cc c r (l ++ [t]) l' h (fun t' ht'=>by
       rcases List.mem_append.1 ht' with ht' | ht'
       · exact hl t' ht'
       · rw[List.mem_singleton.1 ht']
         unfold Cf.trFits at hf
         split at hf
         · rename_i a ha
           split at hf
           · rename_i x hx;exact ⟨a,x,ha,hx⟩
           · cases hf
         · cases hf)
     exact ⟨this.1,by rw[this.2];simp⟩
   · cases h
end
section
structure Op5 where
 Kind:Int
 N:Int
 Kind2:Int
 On:Bool
 Text:List UInt8
def Op5.enc (o:Op5) :List D:= [iD o.Kind,iD o.N,iD o.Kind2, .bool o.On, .str (ofL o.Text)]
def RelP (d:Int)(was now:List Int) :Prop:=(d=0/\now=was)\/(d=1/\∃s,now=s::was)\/(d= -1/\was≠[]/\now=was.take (was.length - 1))
def StepP (y y':Yd)(n e by_:Int) :Prop:=y'.Trs.length=y.Trs.length/\∀(i:Nat) t t',y.Trs[i]? =some t->y'.Trs[i]? =some t'->RelP (if (i:Int) =n/\e=0 then by_ else 0) t.Secs t'.Secs
end
section
def Yd.stOcc (y:Yd)(x:Int) :Int:=if y.there x > 0\/y.Flt (1,x) =true then 1 else 0
def Yd.stPos (y:Yd)(x:Int) :Int:=match a_n y.Pts x with
 | some p=>if p.Left > 0\/y.Flt (2,x) =true then 0 else p.At
 | none=>0
def Yd.stShut (y:Yd)(x:Int) :Int:=if y.shut x=true/\y.Flt (5,x) =false then 1 else 0
def Yd.stLamp (y:Yd)(x:Int) :Int:=if y.Flt (4,x) =true then 0 else 1
end
end Go.Fw
namespace Go.Proofs.YtaklhjodjbgmgaaGreat
open Go.Fw Go.Proofs Go.RowKit
open Go.Proofs.Tryz (prog)
section
variable {σ σ0:Store}
section
variable {s:Store} {id:Nat} {L:YL} {y:Yd} {fr:List (Nat × SO)} {N:Nat}
theorem a_gl (b:Bool) :Pure prog g_7 [bA b] σ (.a (iA (if b=true then 1 else 0))):=a_rb b σ _ (bc (fun e=>⟨by rw[if_pos e],rfl⟩) (fun e=>⟨by rw[e];rfl,rfl⟩))
theorem YdIn.status (h:YdIn s id L y fr)(hw:Ywf y N)(hN:N<=2 ^ 45){oc:Nat}{p:Pst}(hp:y.Psts[oc]? =some p) :
   DCalls prog e_4 [.one (pO id),iA oc] s fun r s'=>s'=s/\∃a0 a1 a2 a3,r= .a (.agg [a0,a1,a2,a3])/\(∀s,At prog s a_e a0 ((p.H.Secs.map y.stOcc).map Go.Fw.encI))/\(∀s,At prog s a_e a1 ((p.H.Pts.map y.stPos).map Go.Fw.encI))/\
     (∀s,At prog s a_e a2 ((p.H.Xs.map y.stShut).map Go.Fw.encI))/\(∀s,At prog s a_e a3 ((p.H.Sgs.map y.stLamp).map Go.Fw.encI)):=by
 have hcl:=c_m hw.chk
 have hk:=(zA.1 hp).1
 obtain ⟨pl,hpl⟩:=a_c (l:=L.ps) (j:=oc) (by rw[h.psl];exact hk)
 obtain ⟨w1,_⟩:=hw.pst oc p hp
 have hsh:=h.sh oc pl p hpl hp
 obtain ⟨l1,l2,l3⟩:=v_v y.C oc
 have b0:p.H.Secs.length<=y.C.Secs.length:=by rw[w1];exact (l1 y.C.Secs 0).1
 have b1:p.H.Pts.length<=y.C.Secs.length:=by rw[w1];exact (l1 y.C.Secs 0).2
 have b2:p.H.Xs.length<=y.C.Xs.length:=by rw[w1];exact l2 y.C.Xs 0
 have b3:p.H.Sgs.length<=y.C.Sigs.length:=by rw[w1];exact l3 y.C.Sigs 0
 have hp4:=hw.psts
 have hoc:(oc:Int) < 4:=by omega
 have key:DCalls prog e_4 [.one (pO id),iA oc] s fun r s'=>∃a0 a1 a2 a3,r= .a (.agg [a0,a1,a2,a3])/\OwnAll s s' [a0,a1,a2,a3] [p.H.Secs.map y.stOcc,p.H.Pts.map y.stPos,p.H.Xs.map y.stShut,p.H.Sgs.map y.stLamp]:=by
   refine u_3 (pO id) oc s _ ?_
   intro R hR
   refine bcd (fun e=>absurd e (by omega)) (fun _=>⟨trivial,_,_,_,rfl,_,a_d h.row,_,rfl,(h.posAt hw).lenK ?_⟩)
   rw[zB,h.psl]
   refine bcd (fun e=>absurd e (by omega)) (fun _=>⟨by trivial,hR _ _ _ _ s ?_⟩)
   clear hR R
   have hY:∀{s':Store},Ext s s'->YdIn s' id L y fr:=fun he=>h.ext he
   refine ⟨trivial,_,_,_,rfl,_,a_d h.row,_,rfl,(h.posAt hw).load (j:=oc) (show (L.ps.map fun x=> [pO x.i])[oc]? =some [pO pl.i] by rw[zL,hpl];rfl) m_v rfl ⟨pO pl.i,rfl,trivial,_,_,_,rfl,_,a_d (h.post hpl hp),pl.h0,pl.h1,pl.h2,pl.h3,rfl,(hsh.secs s).lenK ?_⟩⟩
   refine ⟨fun d1 d2 d3 d4 n s'=>∃j:Nat,n=j/\j<=p.H.Secs.length/\OwnAll s s' [d1,d2,d3,d4] [(p.H.Secs.take j).map y.stOcc,[],[],[]],fun _ _ _ _ n _=>p.H.Secs.length - n.toNat,⟨0,rfl,by omega,OwnAll.nils s (.refl _) 4⟩,?_⟩
   rintro d1 d2 d3 d4 _ s1 ⟨j,rfl,hj,ho⟩
   rw[zB]
   refine bcd (fun hlt=>?_) (fun hge=>?_)
   · have hlt:j < p.H.Secs.length:=by omega
     obtain ⟨x,hx⟩:=a_c (l:=p.H.Secs) (j:=j) hlt
     have ht:p.H.Secs.take (j+1) =p.H.Secs.take j ++ [x]:=by rw[zQ,hx,Option.toList_some]
     have hdec:=a_v hlt
     have put:∀(T:Prop),T->∀v:Int,v=y.stOcc x->Fw.newObj s1 (.live a_e [[iD v]]) fun id2 s2=>a_j prog s2 a_e 8 d1 (.osl id2 0 1) fun d' s3=>T/\(∃j':Nat,w64 ((j:Int) +1) =j'/\j'<=p.H.Secs.length/\OwnAll s s3 [d',d2,d3,d4] [(p.H.Secs.take j').map y.stOcc,[],[],[]])/\p.H.Secs.length - (w64 ((j:Int) +1)).toNat < p.H.Secs.length - ((j:Nat) :Int).toNat:=fun T hT v hv=>by
       refine a_f fun id2 s4 _ _ he4 hs4=>(ho.ext' he4).append (k:=0) (ns:= [v]) rfl rfl (At.fresh hs4 (by simp) rfl) (by simp;omega) fun d5 s5 ho5 _=>?_
       rw[a_i (by omega)]
       refine ⟨hT,⟨j+1,rfl,hlt,?_⟩,hdec⟩
       rw[ht,List.map_append,List.map_cons,List.map_nil,<-hv];exact ho5
     refine (hsh.secs s1).load (a_g hx) c_int rfl ⟨x,rfl,((hY ho.ext).there hw hN x).use ⟨_,rfl,bcd (fun g=>(a_gl true).use ⟨_,rfl,?_⟩) (fun g=>⟨trivial,_,_,_,rfl,((hY ho.ext).fault 1 x).use ⟨_,rfl,(a_gl _).use ⟨_,rfl,?_⟩⟩⟩)⟩⟩
     · exact put _ (by first | exact rfl | trivial) _ ((if_pos rfl).trans (if_pos (Or.inl g)).symm)
     · refine put _ (by first | exact rfl | trivial) _ ?_
       unfold Yd.stOcc
       by_cases hf:y.Flt (1,x) =true
       · rw[if_pos hf,if_pos (.inr hf)]
       · rw[if_neg hf,if_neg (by rintro (q | q);exact g q;exact hf q)]
   have e:j=p.H.Secs.length:=by omega
   subst e
   rw[zT] at ho
   refine (hsh.pts s1).lenK ⟨fun d1 d2 d3 d4 n s'=>∃j:Nat,n=j/\j<=p.H.Pts.length/\OwnAll s s' [d1,d2,d3,d4] [p.H.Secs.map y.stOcc,(p.H.Pts.take j).map y.stPos,[],[]],fun _ _ _ _ n _=>p.H.Pts.length - n.toNat,⟨0,rfl,by omega,ho⟩,?_⟩
   clear ho d1 d2 d3 d4 hge s1
   rintro d1 d2 d3 d4 _ s1 ⟨j,rfl,hj,ho⟩
   rw[zB]
   refine bcd (fun hlt=>?_) (fun hge=>?_)
   · have hlt:j < p.H.Pts.length:=by omega
     obtain ⟨x,hx⟩:=a_c (l:=p.H.Pts) (j:=j) hlt
     have ht:p.H.Pts.take (j+1) =p.H.Pts.take j ++ [x]:=by rw[zQ,hx,Option.toList_some]
     have hdec:=a_v hlt
     have put:∀(T:Prop),T->∀v:Int,v=y.stPos x->Fw.newObj s1 (.live a_e [[iD v]]) fun id2 s2=>a_j prog s2 a_e 8 d2 (.osl id2 0 1) fun d' s3=>T/\(∃j':Nat,w64 ((j:Int) +1) =j'/\j'<=p.H.Pts.length/\OwnAll s s3 [d1,d',d3,d4] [p.H.Secs.map y.stOcc,(p.H.Pts.take j').map y.stPos,[],[]])/\p.H.Pts.length - (w64 ((j:Int) +1)).toNat < p.H.Pts.length - ((j:Nat) :Int).toNat:=fun T hT v hv=>by
       refine a_f fun id2 s4 _ _ he4 hs4=>(ho.ext' he4).append (k:=1) (ns:= [v]) rfl rfl (At.fresh hs4 (by simp) rfl) (by simp;omega) fun d5 s5 ho5 _=>?_
       rw[a_i (by omega)]
       refine ⟨hT,⟨j+1,rfl,hlt,?_⟩,hdec⟩
       rw[ht,List.map_append,List.map_cons,List.map_nil,<-hv];exact ho5
     have hxr:0<=x/\x < y.Pts.length:=by
       have hm:=zC hx
       rw[w1] at hm
       have:=y_r _ _ _ x hm
       have:=hw.pts
       omega
     obtain ⟨q,rfl⟩:=zI hxr.1
     obtain ⟨pt,hpt⟩:=a_c (l:=y.Pts) (j:=q) (by omega)
     have hP:=(hY ho.ext).ptsAt hw
     have hst:y.stPos (q:Int) =if pt.Left > 0\/y.Flt (2,(q:Int)) =true then 0 else pt.At:=by unfold Yd.stPos;rw[a_1,hpt]
     refine (hsh.pts s1).load (a_g hx) c_int rfl ⟨(q:Int),rfl,trivial,_,_,_,rfl,_,a_d (hY ho.ext).row,_,rfl,hP.load (a_g hpt) b_9 rfl ⟨pt.At,rfl,trivial,_,_,_,rfl,_,a_d (hY ho.ext).row,_,rfl,hP.idxK b_9 rfl (by simpa using (zA.1 hpt).1) ?_⟩⟩
     rw[zF]
     refine (f_h hP hpt).use ⟨_,rfl,bcd (fun g=>?_) (fun g=>⟨trivial,_,_,_,rfl,((hY ho.ext).fault 2 q).use ⟨_,rfl,bc (fun g2=>?_) (fun g2=>?_)⟩⟩)⟩
     · exact put _ (by first | exact rfl | trivial) _ (by rw[hst,if_pos (.inl g)])
     · exact put _ (by first | exact rfl | trivial) _ (by rw[hst,if_pos (.inr g2)])
     · exact put _ (by first | exact rfl | trivial) _ (by rw[hst,if_neg (by rintro (q1 | q1);exact g q1;rw[g2] at q1;cases q1)])
   have e:j=p.H.Pts.length:=by omega
   subst e
   rw[zT] at ho
   refine (hsh.xs s1).lenK ⟨fun d1 d2 d3 d4 n s'=>∃j:Nat,n=j/\j<=p.H.Xs.length/\OwnAll s s' [d1,d2,d3,d4] [p.H.Secs.map y.stOcc,p.H.Pts.map y.stPos,(p.H.Xs.take j).map y.stShut,[]],fun _ _ _ _ n _=>p.H.Xs.length - n.toNat,⟨0,rfl,by omega,ho⟩,?_⟩
   clear ho d1 d2 d3 d4 hge s1
   rintro d1 d2 d3 d4 _ s1 ⟨j,rfl,hj,ho⟩
   rw[zB]
   refine bcd (fun hlt=>?_) (fun hge=>?_)
   · have hlt:j < p.H.Xs.length:=by omega
     obtain ⟨x,hx⟩:=a_c (l:=p.H.Xs) (j:=j) hlt
     have ht:p.H.Xs.take (j+1) =p.H.Xs.take j ++ [x]:=by rw[zQ,hx,Option.toList_some]
     have hdec:=a_v hlt
     have put:∀(T:Prop),T->∀v:Int,v=y.stShut x->Fw.newObj s1 (.live a_e [[iD v]]) fun id2 s2=>a_j prog s2 a_e 8 d3 (.osl id2 0 1) fun d' s3=>T/\(∃j':Nat,w64 ((j:Int) +1) =j'/\j'<=p.H.Xs.length/\OwnAll s s3 [d1,d2,d',d4] [p.H.Secs.map y.stOcc,p.H.Pts.map y.stPos,(p.H.Xs.take j').map y.stShut,[]])/\p.H.Xs.length - (w64 ((j:Int) +1)).toNat < p.H.Xs.length - ((j:Nat) :Int).toNat:=fun T hT v hv=>by
       refine a_f fun id2 s4 _ _ he4 hs4=>(ho.ext' he4).append (k:=2) (ns:= [v]) rfl rfl (At.fresh hs4 (by simp) rfl) (by simp;omega) fun d5 s5 ho5 _=>?_
       rw[a_i (by omega)]
       refine ⟨hT,⟨j+1,rfl,hlt,?_⟩,hdec⟩
       rw[ht,List.map_append,List.map_cons,List.map_nil,<-hv];exact ho5
     have hxr:0<=x/\x < y.Gts.length:=by
       have hm:=zC hx
       rw[w1] at hm
       have:=a_dj _ _ _ _ x hm
       have:=hw.gts
       omega
     obtain ⟨q,rfl⟩:=zI hxr.1
     obtain ⟨pt,hpt⟩:=a_c (l:=y.Gts) (j:=q) (by omega)
     refine (hsh.xs s1).load (a_g hx) c_int rfl ⟨(q:Int),rfl,((hY ho.ext).shut hw hpt).use ⟨_,rfl,bc (fun g=>⟨trivial,_,_,_,rfl,((hY ho.ext).fault 5 q).use ⟨_,rfl,(a_gl _).use ⟨_,rfl,?_⟩⟩⟩) (fun g=>(a_gl false).use ⟨_,rfl,?_⟩)⟩⟩
     · refine put _ (by first | exact rfl | trivial) _ ?_
       unfold Yd.stShut
       cases hf:y.Flt (5,(q:Int)) with
       | true=>rw[if_neg (by decide),if_neg (by rintro ⟨_,q2⟩;cases q2)]
       | false=>rw[if_pos (by decide),if_pos ⟨g,rfl⟩]
     · refine put _ (by first | exact rfl | trivial) _ ?_
       unfold Yd.stShut
       rw[if_neg (by decide),if_neg (by rintro ⟨q1,_⟩;rw[g] at q1;cases q1)]
   have e:j=p.H.Xs.length:=by omega
   subst e
   rw[zT] at ho
   refine (hsh.sgs s1).lenK ⟨fun d1 d2 d3 d4 n s'=>∃j:Nat,n=j/\j<=p.H.Sgs.length/\OwnAll s s' [d1,d2,d3,d4] [p.H.Secs.map y.stOcc,p.H.Pts.map y.stPos,p.H.Xs.map y.stShut,(p.H.Sgs.take j).map y.stLamp],fun _ _ _ _ n _=>p.H.Sgs.length - n.toNat,⟨0,rfl,by omega,ho⟩,?_⟩
   clear ho d1 d2 d3 d4 hge s1
   rintro d1 d2 d3 d4 _ s1 ⟨j,rfl,hj,ho⟩
   rw[zB]
   refine bcd (fun hlt=>?_) (fun hge=>?_)
   · have hlt:j < p.H.Sgs.length:=by omega
     obtain ⟨x,hx⟩:=a_c (l:=p.H.Sgs) (j:=j) hlt
     have ht:p.H.Sgs.take (j+1) =p.H.Sgs.take j ++ [x]:=by rw[zQ,hx,Option.toList_some]
     have hdec:=a_v hlt
     have put:∀(T:Prop),T->∀v:Int,v=y.stLamp x->Fw.newObj s1 (.live a_e [[iD v]]) fun id2 s2=>a_j prog s2 a_e 8 d4 (.osl id2 0 1) fun d' s3=>T/\(∃j':Nat,w64 ((j:Int) +1) =j'/\j'<=p.H.Sgs.length/\OwnAll s s3 [d1,d2,d3,d'] [p.H.Secs.map y.stOcc,p.H.Pts.map y.stPos,p.H.Xs.map y.stShut,(p.H.Sgs.take j').map y.stLamp])/\p.H.Sgs.length - (w64 ((j:Int) +1)).toNat < p.H.Sgs.length - ((j:Nat) :Int).toNat:=fun T hT v hv=>by
       refine a_f fun id2 s4 _ _ he4 hs4=>(ho.ext' he4).append (k:=3) (ns:= [v]) rfl rfl (At.fresh hs4 (by simp) rfl) (by simp;omega) fun d5 s5 ho5 _=>?_
       rw[a_i (by omega)]
       refine ⟨hT,⟨j+1,rfl,hlt,?_⟩,hdec⟩
       rw[ht,List.map_append,List.map_cons,List.map_nil,<-hv];exact ho5
     refine (hsh.sgs s1).load (a_g hx) c_int rfl ⟨x,rfl,trivial,_,_,_,rfl,((hY ho.ext).fault 4 x).use ⟨_,rfl,(a_gl _).use ⟨_,rfl,?_⟩⟩⟩
     refine put _ (by first | exact rfl | trivial) _ ?_
     unfold Yd.stLamp
     cases hf:y.Flt (4,x) with
     | true=>rw[if_neg (by decide),if_pos rfl]
     | false=>rw[if_pos (by decide),if_neg (by decide)]
   have e:j=p.H.Sgs.length:=by omega
   subst e
   rw[zT] at ho
   exact ⟨d1,d2,d3,d4,rfl,ho⟩
 refine key.ret ?_
 rintro r s' ⟨a0,a1,a2,a3,rfl,ho⟩
 have o0:=ho.own 0 _ _ rfl rfl
 have o1:=ho.own 1 _ _ rfl rfl
 have o2:=ho.own 2 _ _ rfl rfl
 have o3:=ho.own 3 _ _ rfl rfl
 obtain ⟨e0,f0,g0⟩:=b_s o0.at_ ho.ext o0.new (g_c _)
 obtain ⟨e1,f1,g1⟩:=b_s o1.at_ ho.ext o1.new (g_c _)
 obtain ⟨e2,f2,g2⟩:=b_s o2.at_ ho.ext o2.new (g_c _)
 obtain ⟨e3,f3,g3⟩:=b_s o3.at_ ho.ext o3.new (g_c _)
 exact ⟨.a (.agg [e0,e1,e2,e3]),s, .pure ho.ext (.cons f0 (.cons f1 (.cons f2 (.cons f3 .nil)))),rfl,e0,e1,e2,e3,rfl,g0,g1,g2,g3⟩
end
end
end Go.Proofs.YtaklhjodjbgmgaaGreat
namespace Go.Fw
section
theorem bad_iff {k:Nat}{n:Int} :(n < 0\/n.fdiv (2 ^ (8 * k))≠0)↔(n < 0\/256 ^ k<=n):=by
 by_cases h0:n < 0
 · simp[h0]
 · have e:(2:Int) ^ (8 * k) =256 ^ k:=by rw[Int.pow_mul];rfl
   have hp:(0:Int) < 256 ^ k:=Int.pow_pos (by omega)
   rw[e,Int.fdiv_eq_ediv_of_nonneg _ (Int.le_of_lt hp)]
   constructor
   · rintro (h | h)
     · exact .inl h
     · refine .inr (Classical.byContradiction fun hc=>h (Int.ediv_eq_zero_of_lt (by omega) (by omega)))
   · rintro (h | h)
     · exact .inl h
     · refine .inr fun hz=>?_
       have:=Int.lt_mul_ediv_self_add (x:=n) hp
       rw[hz] at this
       omega
theorem Wr.num_room {w:Wr}{k:Nat}{n:Int}(hl:(w.out.length:Int) +k<=w.lim) :
   w.num k n=if w.e≠0 then w else if n < 0\/256 ^ k<=n then { w with e:=32 } else { w with out:=w.out ++ be k n } :=by
 have hput:∀v:Wr,v.out=w.out->v.lim=w.lim->v.put (be k n) =if v.e=0 then { v with out:=v.out ++ be k n } else v:=fun v h1 h2=>by
   have hc:¬((k:Int) > v.lim - v.out.length):=by rw[h1,h2];omega
   unfold Wr.put
   simp only[c_f,if_neg hc]
 unfold Wr.num
 by_cases hb:n < 0\/256 ^ k<=n
 · rw[if_pos (bad_iff.2 hb),hput _ (w.note_out 32).1 (w.note_out 32).2]
   unfold Wr.note
   by_cases he:w.e=0
   · simp[he,hb]
   · simp[he]
 · rw[if_neg (fun h=>hb (bad_iff.1 h)),hput _ rfl rfl]
   by_cases he:w.e=0
   · simp[he,hb]
   · simp[he]
def Wr.putR (w:Wr)(l:List UInt8)(right:Bool) :Wr:=if w.e≠0 then w else if right=true then { w with out:=w.out ++ l } else { w with e:=32 }
def SimW (w v:Wr) :Prop:=w.e=v.e/\w.out=v.out
theorem a_sp {m:Nat}{n x:Nat}(hx:x=n / 256 ^ m) :be (m+1) (n:Int) =UInt8.ofNat (x % 256) ::be m (n:Int):=by
 rw[be]
 congr 1
 unfold e_u
 have e:(n:Int).fdiv (2 ^ (8 * m)) =((n / 256 ^ m:Nat) :Int):=by
   rw[Int.fdiv_eq_ediv_of_nonneg _ (by exact Int.pow_nonneg (by omega)),Int.pow_mul]
   simp
 rw[e,hx]
 congr 1
end
end Go.Fw
namespace Go.Proofs.YtaklhjodjbgmgaaGreat
open Go.Fw Go.Proofs Go.RowKit
open Go.Proofs.Tryz (prog)
section
variable {σ σ0:Store}
structure WrR (σ0 s:Store) (id:Nat) (w:Wr) :Prop where
 new:σ0 id= .free
 cell:∃d,s id= .live l_x [[d,iD w.lim,iD w.e]]/\Own prog σ0 s c_t d (w.out.map r_e)/\h_c d≠some id
theorem WrR.ext {s:Store}{id:Nat}{w:Wr}(h:WrR σ0 s id w) :Ext σ0 s:=by
 obtain ⟨d,_,h,_⟩:=h.cell;exact h.ext
theorem WrR.ext' {s s':Store}{id:Nat}{w:Wr}(h:WrR σ0 s id w)(he:Ext s s') :WrR σ0 s' id w:=by
 obtain ⟨d,h1,h2,h3⟩:=h.cell
 exact ⟨h.new,d,by rw[he id (by rw[h1];intro e;cases e)];exact h1,h2.ext' he,h3⟩
theorem a_l6 {n:Int}(hn:0<=n) :DCalls prog q_0 [iA n] σ fun r s=>∃id,r= .a (.one (pO id))/\WrR σ s id ⟨0,[],n⟩:=by
 refine a_o3 n σ _ (a_f fun id s hid _ he hs=>?_)
 rw[if_neg (by omega)] at hs
 exact ⟨id,rfl,hid, .nils,hs, .nil _ he,by intro e;cases e⟩
theorem a_fy {s:Store}{id:Nat}{w:Wr}(h:WrR σ0 s id w){b:D}{l:List UInt8}(hb:At prog s c_t b (l.map r_e))(right:Bool)(hs:w.out.length+l.length<=2 ^ 45)(hl:(w.out.length:Int) +l.length<=w.lim)(hlim:w.lim<=2 ^ 60) :
   DCalls prog c_z [.one (pO id), .one b,bA right] s fun r s'=>r= .tup []/\WrR σ0 s' id (w.putR l right):=by
 obtain ⟨hn,d,h1,h2,h3⟩:=h
 have ho:=h2.at_.size
 have hbs:=hb.size
 rw[zB] at ho hbs
 unfold Wr.putR
 refine v_s (pO id) b right s _ ⟨trivial,_,_,_,rfl,_,a_d h1,w.e,rfl,bcn (fun e=>⟨rfl,?_⟩) (fun e0=>a_0 (fun hr=>?_) (fun hr=>?_))⟩
 · rw[if_pos e];exact ⟨hn,d,h1,h2,h3⟩
 · subst hr
   refine ⟨trivial,_,_,_,rfl,b_h h1 (by simp) fun s' hs' ho'=>⟨rfl,?_⟩⟩
   rw[if_neg (by simp[e0])]
   exact ⟨hn,d,hs',r_1 h2 hn h3 ho',h3⟩
 · subst hr
   refine hb.lenK ⟨trivial,_,_,_,rfl,_,a_d h1,w.lim,rfl,trivial,_,_,_,rfl,_,a_d h1,d,rfl,h2.at_.lenK ?_⟩
   rw[zB,zB,a_r (by omega) (by omega)]
   refine bcd (fun hg=>by simp only[gt_iff_lt] at hg;omega) (fun _=>⟨trivial,_,_,_,rfl,_,a_d h1,d,rfl,h2.append hb (by simp;omega) (by simp;omega) fun d2 s2 o2 k2 i2=>⟨trivial,_,_,_,rfl,?_⟩⟩)
   have hs2:s2 id= .live l_x [[d,iD w.lim,iD w.e]]:=by
     rw[k2 id (by rw[h1];intro e;cases e) (fun a b e=>h3 (by rw[e];rfl)),h1]
   have hd2:h_c d2≠some id:=fun hi=>by
     cases d2 with
     | osl j a m=>
       have:j=id:=by simpa[h_c] using hi
       subst this
       rcases i2 j a m rfl with g | ⟨a',b',g⟩
       · rw[h1] at g;cases g
       · exact h3 (by rw[g];rfl)
     | _=>simp[h_c] at hi
   rw[<-List.map_append] at o2
   refine b_h hs2 (by simp) fun s3 hs3 ho3=>⟨rfl,?_⟩
   rw[if_neg (by simp[e0]),if_pos rfl]
   exact ⟨hn,d2,hs3,r_1 o2 hn hd2 ho3,hd2⟩
theorem a_r8 {j:Nat}(h:j<=4) :(1:Int)<=256 ^ j/\(256:Int) ^ j<=4294967296:=by
 have:j=0\/j=1\/j=2\/j=3\/j=4:=by omega
 rcases this with rfl | rfl | rfl | rfl | rfl <;> decide
theorem w_e {s:Store}{id:Nat}{w:Wr}(h:WrR σ0 s id w){k:Nat}(hk:k<=4){n:Int}(hI: -2 ^ 63<=n/\n < 2 ^ 63)(hs:w.out.length+k<=2 ^ 45)(hl:(w.out.length:Int) +k<=w.lim)(hlim:w.lim<=2 ^ 60){kk:Int}(hkk:kk=k) :
   DCalls prog d_t [.one (pO id),iA n,iA kk] s fun r s'=>r= .tup []/\WrR σ0 s' id (w.num k n):=by
 subst hkk
 have hp:=a_r8 hk
 have hnum:=w.num_room (n:=n) hl
 refine v_p (pO id) n k s _ ⟨fun n1 n2 s'=>s'=s/\∃j:Nat,n2=j/\j<=k/\n1=256 ^ j,fun _ n2 _=>k - n2.toNat,⟨rfl,0,rfl,by omega,rfl⟩,?_⟩
 rintro _ _ s' ⟨rfl,j,rfl,hj,rfl⟩
 refine bcd (fun hlt=>?_) (fun hge=>?_)
 · have hlt:j < k:=by omega
   have hpj:=a_r8 (j:=j+1) (by omega)
   rw[Int.pow_succ] at hpj
   rw[a_i (by omega),a_r (by omega) (by omega)]
   exact ⟨⟨rfl,j+1,rfl,hlt,by rw[Int.pow_succ]⟩,a_v hlt⟩
 have e:j=k:=by omega
 subst e
 have bad:(n < 0\/256 ^ j<=n)->DCalls prog c_z [.one (pO id), .one .nils,bA false] s' fun r s1=>(r= .tup [])/\(RV.tup []=RV.tup []/\WrR σ0 s1 id (w.num j n)):=fun hb=>by
   refine (a_fy h (b:= .nils) (l:= []) .nil false (by simp;omega) (by simp;omega) hlim).mono ?_
   rintro r s1 ⟨rfl,h1⟩
   refine ⟨rfl,rfl,?_⟩
   have e2:w.num j n=w.putR [] false:=by
     rw[hnum]
     unfold Wr.putR
     rw[if_pos hb,if_neg (show ¬(false=true) by decide)]
   rw[e2];exact h1
 intro R hR
 refine bcd (fun h0=>bad (.inl h0)) (fun h0=>bcd (fun h1=>bad (.inr h1)) (fun h1=>hR s' ?_))
 simp only[ge_iff_le] at h1
 obtain ⟨N,rfl⟩:=zI (show 0<=n by omega)
 refine ⟨by omega,by omega,by omega,a_f fun id2 s2 hid2 _ he2 hs2=>?_⟩
 rw[zF] at hs2 ⊢
 rw[a_r (n:=(j:Int) - 1) (by omega) (by omega)]
 refine ⟨fun n3 n4 s3=>∃m q:Nat,m+q=j/\n4=(m:Int) - 1/\n3=((N / 256 ^ q:Nat) :Int)/\Ext s' s3/\s3 id2= .live c_t (List.replicate m [.int .u8 0] ++ (be q (N:Int)).map r_e),fun _ n4 _=>(n4+1).toNat,
   ⟨j,0,rfl,rfl,by simp,he2,by rw[hs2];simp[be]⟩,?_⟩
 rintro _ _ s3 ⟨m,q,hmq,rfl,rfl,he3,hs3⟩
 refine bcd (fun hge0=>?_) (fun hlt0=>?_)
 · obtain ⟨m',rfl⟩ :∃m',m=m'+1:=⟨m - 1,by omega⟩
   have hlen:(List.replicate (m'+1) [D.int .u8 0] ++ (be q (N:Int)).map r_e).length=j:=by simp[c_f];omega
   refine ⟨j,⟨by omega,c_t,_,hs3,c_uint8⟩,by omega,by omega,id2,0,j,c_t,_,[.int .u8 0],rfl,by omega,hs3,?_,by simp,?_⟩
   · rw[show 0+ (((m'+1:Nat) :Int) - 1).toNat=m' by omega,zJ (by simp),List.getElem?_replicate,if_pos (by omega)]
   have hX:N / 256 ^ q < 2 ^ 63:=by
     have:=Nat.div_le_self N (256 ^ q)
     omega
   generalize hx:N / 256 ^ q=X at *
   have h1:Int.tdiv (X:Int) 256=((X / 256:Nat) :Int):=by rw[Int.tdiv_eq_ediv_of_nonneg (by omega)];rfl
   have h2:Int.tmod (X:Int) 256=((X % 256:Nat) :Int):=by rw[Int.tmod_eq_emod_of_nonneg (by omega)];rfl
   have h3:X % 256 < 256:=Nat.mod_lt _ (by omega)
   rw[h1,h2,a_r (n:=((X / 256:Nat) :Int)) (by omega) (by omega),a_r (n:=((m'+1:Nat) :Int) - 1 - 1) (by omega) (by omega)]
   refine ⟨⟨m',q+1,by omega,by omega,?_,fun i hi=>?_,?_⟩,by show (((m'+1:Nat) :Int) - 1 - 1+1).toNat < (((m'+1:Nat) :Int) - 1+1).toNat;omega⟩
   · rw[<-hx,Nat.div_div_eq_div_mul,Nat.pow_succ]
   · rw[Store.set_ne _ _ (fun e=>hi (by rw[e];exact hid2))];exact he3 i hi
   · rw[Store.set_same,show 0+ (((m'+1:Nat) :Int) - 1).toNat=m' by omega,a_sp hx.symm]
     congr 1
     rw[List.replicate_succ',zK]
     rw[List.set_append_right _ _ (by simp),List.length_replicate,Nat.sub_self]
     simp only[List.singleton_append,List.set_cons_zero,List.map_cons]
     congr 2
 · have hm0:m=0:=by omega
   subst hm0
   have hqj:q=j:=by omega
   subst hqj
   rw[List.replicate_zero,List.nil_append] at hs3
   refine (a_fy (h.ext' he3) (At.fresh hs3 (by simp[c_f];omega) (by simp[c_f])) true (by rw[c_f];exact hs) (by rw[c_f];exact hl) hlim).mono ?_
   rintro r s4 ⟨rfl,h4⟩
   refine ⟨rfl,rfl,?_⟩
   have e2:w.num q (N:Int) =w.putR (be q (N:Int)) true:=by
     rw[hnum]
     unfold Wr.putR
     rw[if_neg (show ¬((N:Int) < 0\/256 ^ q<=(N:Int)) by omega),if_pos rfl]
   rw[e2];exact h4
theorem a_od {s:Store}{id:Nat}{w:Wr}(h:WrR σ0 s id w) :
   Pure prog g_n [.one (pO id)] s (.tup [.one (.str (ofL (if w.e=0 then w.out else []))),iA w.e]):=by
 obtain ⟨hn,d,h1,h2,h3⟩:=h
 refine t_w (pO id) s _ ⟨trivial,_,_,_,rfl,_,a_d h1,w.e,rfl,bcn (fun e=>?_) (fun e=>?_)⟩
 · refine ⟨trivial,_,_,_,rfl,_,a_d h1,w.e,rfl,?_⟩
   rw[if_neg e];exact ⟨rfl,rfl⟩
 · refine ⟨trivial,_,_,_,rfl,_,a_d h1,d,rfl,ofL w.out,?_,?_⟩
   · rw[o_u];exact h2.at_.rows
   · rw[if_pos e,e];exact ⟨rfl,rfl⟩
end
section
variable {σ σ0:Store}
theorem a_l9 {k N:Nat}(hk:k<=4)(hN:N < 2 ^ 63){kk:Int}(hkk:kk=k){n:Int}(hn:n=N) :DCalls prog j_g [iA n,iA kk] σ fun r s=>Ext σ s/\r= .a (.one (.str (ofL (be k (N:Int))))):=by
 subst hkk hn
 refine a_op N k σ _ ⟨by omega,by omega,by omega,a_f fun id2 s2 hid2 _ he2 hs2=>?_⟩
 rw[zF] at hs2 ⊢
 rw[a_r (n:=(k:Int) - 1) (by omega) (by omega)]
 refine ⟨fun n3 n4 s3=>∃m q:Nat,m+q=k/\n4=(m:Int) - 1/\n3=((N / 256 ^ q:Nat) :Int)/\Ext σ s3/\s3 id2= .live c_t (List.replicate m [.int .u8 0] ++ (be q (N:Int)).map r_e),fun _ n4 _=>(n4+1).toNat,
   ⟨k,0,rfl,rfl,by simp,he2,by rw[hs2];simp[be]⟩,?_⟩
 rintro _ _ s3 ⟨m,q,hmq,rfl,rfl,he3,hs3⟩
 refine bcd (fun hge0=>?_) (fun hlt0=>?_)
 · obtain ⟨m',rfl⟩ :∃m',m=m'+1:=⟨m - 1,by omega⟩
   have hlen:(List.replicate (m'+1) [D.int .u8 0] ++ (be q (N:Int)).map r_e).length=k:=by simp[c_f];omega
   refine ⟨k,⟨by omega,c_t,_,hs3,c_uint8⟩,by omega,by omega,id2,0,k,c_t,_,[.int .u8 0],rfl,by omega,hs3,?_,by simp,?_⟩
   · rw[show 0+ (((m'+1:Nat) :Int) - 1).toNat=m' by omega,zJ (by simp),List.getElem?_replicate,if_pos (by omega)]
   have hX:N / 256 ^ q < 2 ^ 63:=by
     have:=Nat.div_le_self N (256 ^ q)
     omega
   generalize hx:N / 256 ^ q=X at *
   have h1:Int.tdiv (X:Int) 256=((X / 256:Nat) :Int):=by rw[Int.tdiv_eq_ediv_of_nonneg (by omega)];rfl
   have h2:Int.tmod (X:Int) 256=((X % 256:Nat) :Int):=by rw[Int.tmod_eq_emod_of_nonneg (by omega)];rfl
   have h3:X % 256 < 256:=Nat.mod_lt _ (by omega)
   rw[h1,h2,a_r (n:=((X / 256:Nat) :Int)) (by omega) (by omega),a_r (n:=((m'+1:Nat) :Int) - 1 - 1) (by omega) (by omega)]
   have hw:IntKind.wrap .u8 ((X % 256:Nat) :Int) =((X % 256:Nat) :Int):=by
     show ((X % 256:Nat) :Int) % 256=_
     omega
   refine ⟨⟨m',q+1,by omega,by omega,?_,fun i hi=>?_,?_⟩,by show (((m'+1:Nat) :Int) - 1 - 1+1).toNat < (((m'+1:Nat) :Int) - 1+1).toNat;omega⟩
   · rw[<-hx,Nat.div_div_eq_div_mul,Nat.pow_succ]
   · rw[Store.set_ne _ _ (fun e=>hi (by rw[e];exact hid2))];exact he3 i hi
   · rw[Store.set_same,show 0+ (((m'+1:Nat) :Int) - 1).toNat=m' by omega,a_sp hx.symm]
     congr 1
     rw[List.replicate_succ',zK]
     rw[List.set_append_right _ _ (by simp),List.length_replicate,Nat.sub_self]
     simp only[List.singleton_append,List.set_cons_zero,List.map_cons]
     congr 2
 · have hm0:m=0:=by omega
   subst hm0
   have hqj:q=k:=by omega
   subst hqj
   rw[List.replicate_zero,List.nil_append] at hs3
   refine ⟨ofL (be q (N:Int)),?_,he3,rfl⟩
   rw[o_u]
   exact (At.fresh (P:=prog) (n:=q) hs3 (by simp[c_f];omega) (by simp[c_f])).rows
theorem a_bo {k N:Nat}(hk:k<=4)(hN:N < 2 ^ 63){kk:Int}(hkk:kk=k){n:Int}(hn:n=N) :Pure prog j_g [iA n,iA kk] σ (.a (.one (.str (ofL (be k (N:Int)))))):=by
 exact .of ((a_l9 hk hN hkk hn).mono fun r s ⟨a,b⟩=>⟨b,a⟩) (.one _ (.str _))
theorem a_ng {r:Nat}(h:r < 4294967296)(b:UInt8) :
   w64 (BitVec.toNat ((BitVec.ofInt 64 (r:Int)) ^^^ (BitVec.ofInt 64 (w64 ((w64 (b.toNat:Int)) * 16777216)))) :Int) =((r ^^^ (b.toNat * 16777216) :Nat) :Int):=by
 have hb:=b.toNat_lt
 have hx:=n_j h (show b.toNat * 16777216 < 4294967296 by omega)
 have e1:w64 ((w64 (b.toNat:Int)) * 16777216) =((b.toNat * 16777216:Nat) :Int):=by
   rw[a_r (n:=(b.toNat:Int)) (by omega) (by omega)]
   rw[a_r (by omega) (by omega)]
   omega
 rw[e1,BitVec.ofInt_natCast,BitVec.ofInt_natCast,BitVec.toNat_xor,BitVec.toNat_ofNat,BitVec.toNat_ofNat,Nat.mod_eq_of_lt (by omega),Nat.mod_eq_of_lt (by omega)]
 exact a_r (by omega) (by omega)
theorem a_rm {r:Nat}(h:r < 4294967296)(hb:2147483648<=r) :
   w64 (BitVec.toNat ((BitVec.ofInt 64 (w64 (((2 * r:Nat) :Int) - 4294967296))) ^^^ (BitVec.ofInt 64 79764919)) :Int) =(k_3 r:Nat):=by
 have hlt:=a_a5 h
 unfold k_3 at hlt ⊢
 rw[if_pos hb] at hlt ⊢
 have e1:w64 (((2 * r:Nat) :Int) - 4294967296) =((2 * r - 4294967296:Nat) :Int):=by rw[a_r (by omega) (by omega)];omega
 have e2:BitVec.ofInt 64 79764919=BitVec.ofNat 64 79764919:=rfl
 rw[e1,e2,BitVec.ofInt_natCast,BitVec.toNat_xor,BitVec.toNat_ofNat,BitVec.toNat_ofNat,Nat.mod_eq_of_lt (by omega),Nat.mod_eq_of_lt (by omega)]
 exact a_r (by omega) (by omega)
theorem a_k6 {l:List UInt8}(hl:l.length < 2 ^ 60) :Pure prog q_y [.one (.str (ofL l))] σ (.a (iA (crc l))):=by
 refine a_n8 (ofL l) σ _ ⟨fun n n1 s=>s=σ/\∃j:Nat,n1=j/\j<=l.length/\n=(m_m 4294967295 (l.take j) :Nat),fun _ n1 _=>l.length - n1.toNat,⟨rfl,0,rfl,by omega,rfl⟩,?_⟩
 rintro _ _ s ⟨rfl,j,rfl,hj,rfl⟩
 rw[a_9]
 refine bcd (fun hlt=>?_) (fun hge=>?_)
 rotate_left
 · have e:j=l.length:=by omega
   subst e
   rw[zT]
   exact ⟨rfl,rfl⟩
 have hlt:j < l.length:=by omega
 obtain ⟨c,hc⟩:=a_c (l:=l) (j:=j) hlt
 refine ⟨c.toNat,⟨by omega,c,by rw[zF];exact hc,rfl⟩,?_⟩
 have hr1:=x_u (l.take j) (r:=4294967295) (by omega)
 rw[a_ng hr1]
 have hx:=n_j hr1 (show c.toNat * 16777216 < 4294967296 by have:=c.toNat_lt;omega)
 have hdec:=a_v hlt
 refine ⟨fun n5 n6 s'=>s'=s/\∃q:Nat,n6=q/\q<=8/\n5=(p_8 q (m_m 4294967295 (l.take j) ^^^ (c.toNat * 16777216)) :Nat),fun _ n6 _=>8 - n6.toNat,⟨rfl,0,rfl,by omega,rfl⟩,?_⟩
 rintro _ _ s' ⟨rfl,q,rfl,hq,rfl⟩
 have hN:=a_lz q hx
 have e2:w64 (((p_8 q (m_m 4294967295 (l.take j) ^^^ (c.toNat * 16777216)) :Nat) :Int) * 2) =((2 * p_8 q (m_m 4294967295 (l.take j) ^^^ (c.toNat * 16777216)) :Nat) :Int):=by rw[a_r (by omega) (by omega)];omega
 refine bcd (fun hlt3=>?_) (fun hge=>?_)
 · have hlt3:q < 8:=by omega
   rw[e2,a_i (by omega)]
   have d8:8 - ((q+1:Nat) :Int).toNat < 8 - ((q:Nat) :Int).toNat:=by omega
   refine bcd (fun hb=>?_) (fun hb=>?_)
   · refine ⟨⟨rfl,q+1,rfl,by omega,?_⟩,d8⟩
     rw[a_rm hN (by omega),a_af]
   · refine ⟨⟨rfl,q+1,rfl,by omega,?_⟩,d8⟩
     rw[a_af]
     congr 1
     unfold k_3
     rw[if_neg (by omega)]
 · have e:q=8:=by omega
   subst e
   rw[a_i (by omega)]
   refine ⟨⟨rfl,j+1,rfl,hlt,?_⟩,hdec⟩
   rw[a_jo hc,crcU]
theorem a_yp (a b:List UInt8) :(ByteArray.append (ofL a) (ofL b)).data.toList=a ++ b:=by
 show ((ofL a) ++ (ofL b)).data.toList=a ++ b
 rw[ByteArray.data_append,Array.toList_append,r_n,r_n]
theorem t_4 {b:List UInt8}(hb:b.length<=1024) :Pure prog k_j [.one (.str (ofL b))] σ (.tup [.one (.str (ofL (g_f b))),iA 0]):=by
 refine a_kz (ofL b) σ _ ?_
 show a_b (decide ((((ofL b).size:Nat) :Int) > 1024)) _ _
 rw[a_9]
 refine bcd (fun h=>absurd h (by omega)) (fun _=>(a_bo (k:=2) (N:=b.length) (by omega) (by omega) rfl rfl).use ⟨_,rfl,?_,?_⟩)
 · rw[a_9,c_f];omega
 have hc:=a_qh (be 2 b.length ++ b)
 refine (a_k6 (l:=be 2 b.length ++ b) (by rw[zP,c_f];omega)).use ⟨_,rfl,(a_bo (k:=4) (by omega) (by omega) rfl rfl).use ⟨_,rfl,?_,?_⟩⟩
 · show (((ofL (be 2 b.length ++ b)).size:Int) +_)<=_
   rw[a_9,a_9,zP,c_f,c_f];omega
 · refine ⟨?_,rfl⟩
   rw[a_yp]
   rfl
theorem a_hs {p n s:Int}{b:List UInt8}(hp:0<=p/\p < 256)(hn:0<=n/\n < 65536)(hs:0<=s/\s < 4294967296)(hb:b.length<=1000) :
   Pure prog k_i [iA p,iA n,iA s, .one (.str (ofL b))] σ (.tup [.one (.str (ofL (g_f (i_q p n s ++ b)))),iA 0]):=by
 have num:∀(w:Wr) (k:Nat) (m:Int),w.e=0->(w.out.length:Int) +k<=w.lim->(0<=m/\m < 256 ^ k)->w.num k m=⟨0,w.out ++ be k m,w.lim⟩:=fun w k m h1 h2 h3=>by
   rw[Wr.num_room h2,if_neg (by rw[h1];simp),if_neg (by omega)]
   cases w
   simp at h1
   subst h1
   rfl
 have key:DCalls prog k_i [iA p,iA n,iA s, .one (.str (ofL b))] σ fun r s'=>Ext σ s'/\r= .tup [.one (.str (ofL (g_f (i_q p n s ++ b)))),iA 0]:=by
   refine a_kt p n s (ofL b) σ _ ((a_l6 (by omega)).mono ?_)
   rintro r s1 ⟨id,rfl,h1⟩
   refine ⟨_,rfl,(w_e h1 (k:=1) (by omega) (by omega) (by simp) (by simp) (by simp) rfl).mono ?_⟩
   rintro r s2 ⟨rfl,h2⟩
   rw[num _ 1 p rfl (by simp) (by simpa using hp)] at h2
   refine ⟨rfl,(w_e h2 (k:=2) (by omega) (by omega) (by simp[c_f]) (by simp[c_f]) (by simp) rfl).mono ?_⟩
   rintro r s3 ⟨rfl,h3⟩
   rw[num _ 2 n rfl (by simp[c_f]) (by simpa using hn)] at h3
   refine ⟨rfl,(w_e h3 (k:=4) (by omega) (by omega) (by simp[c_f]) (by simp[c_f]) (by simp) rfl).mono ?_⟩
   rintro r s4 ⟨rfl,h4⟩
   rw[num _ 4 s rfl (by simp[c_f]) (by simpa using hs)] at h4
   have hl:([] ++ be 1 p ++ be 2 n ++ be 4 s) =i_q p n s:=by unfold i_q;rw[List.nil_append]
   have hhl:=y_y p n s
   refine ⟨rfl,(a_od h4).use ⟨_,0,rfl,bcn (fun e=>absurd rfl e) (fun _=>?_)⟩⟩
   rw[if_pos rfl]
   show a_b (decide ((((ofL b).size:Nat) :Int) > 1000)) _ _
   rw[a_9]
   refine bcd (fun h=>absurd h (by omega)) (fun _=>⟨?_,?_⟩)
   · rw[a_9]
     show (((([] ++ be 1 p ++ be 2 n ++ be 4 s) :List UInt8).length:Nat) :Int) +_<=_
     rw[hl,hhl];omega
   · have:=t_4 (σ:=s4) (b:=i_q p n s ++ b) (by rw[zP,hhl];omega)
     rw[<-hl] at this
     refine Pure.use this ⟨_,_,rfl,h4.ext,?_⟩
     rw[hl]
 refine .of (key.mono fun r s ⟨a,b⟩=>⟨b,a⟩) (.tup [.str _,iD 0] fun d hd=>?_)
 simp at hd
 rcases hd with rfl | rfl
 · exact .str _
 · exact .int _ _
end
section
variable {σ σ0:Store}
section
variable {c0 c1 c2 c3 c4:D} {c:Cf} (hc:∀s,CfAt s c0 c1 c2 c3 c4 c)
include hc
theorem a_bs (n oc:Int) :Pure prog n_9 [cfA c0 c1 c2 c3 c4 c,iA n,iA oc] σ (.a (bA (c.mine oc n))):=by
 unfold Cf.mine
 refine a_r9 c0 c1 c2 c3 c4 c.Age c.Brake c.Hold c.Budget n oc σ _ (bcd (fun h0=>(hc σ).secs.lenK ?_) (fun h0=>⟨by rw[a_5 (by omega)];rfl,rfl⟩))
 rw[zB]
 refine bcd (fun hlt=>?_) (fun hge=>⟨by rw[b_u (by omega)];rfl,rfl⟩)
 have h0:0<=n:=h0
 obtain ⟨j,rfl⟩:=zI h0
 obtain ⟨x,hx⟩:=a_c (l:=c.Secs) (j:=j) (by omega)
 refine (hc σ).secs.load (a_g hx) a_x rfl ⟨x.OC,rfl,?_,rfl⟩
 rw[a_1,hx];rfl
theorem a_fp (oc:Int)(h1:c.Secs.length<=2 ^ 20)(h2:c.Xs.length<=2 ^ 20)(h3:c.Sigs.length<=2 ^ 20) :
   DCalls prog j_c [cfA c0 c1 c2 c3 c4 c,iA oc] σ fun r s=>s=σ/\∃a0 a1 a2 a3,r= .a (.agg [a0,a1,a2,a3])/\ShFz a0 a1 a2 a3 (c.shape oc):=by
 have key:DCalls prog j_c [cfA c0 c1 c2 c3 c4 c,iA oc] σ fun r s=>∃a0 a1 a2 a3,r= .a (.agg [a0,a1,a2,a3])/\OwnAll σ s [a0,a1,a2,a3] [(c.shape oc).Secs,(c.shape oc).Pts,(c.shape oc).Xs,(c.shape oc).Sgs]:=by
   obtain ⟨l1,l2,l3⟩:=v_v c oc
   refine a_ha c0 c1 c2 c3 c4 c.Age c.Brake c.Hold c.Budget oc σ _ ?_
   refine (hc σ).secs.lenK ⟨fun d1 d2 d3 d4 n s=>∃j:Nat,n=j/\j<=c.Secs.length/\OwnAll σ s [d1,d2,d3,d4] [e_3 oc (c.Secs.take j) 0,g_v oc (c.Secs.take j) 0,[],[]],fun _ _ _ _ n _=>c.Secs.length - n.toNat,⟨0,rfl,by omega,OwnAll.nils σ (.refl _) 4⟩,?_⟩
   rintro d1 d2 d3 d4 _ s ⟨j,rfl,hj,ho⟩
   rw[zB]
   refine bcd (fun hlt=>?_) (fun hge=>?_)
   · have hlt:j < c.Secs.length:=by omega
     obtain ⟨x,hx⟩:=a_c (l:=c.Secs) (j:=j) hlt
     have ht:c.Secs.take (j+1) =c.Secs.take j ++ [x]:=by rw[zQ,hx,Option.toList_some]
     have hlen:(c.Secs.take j).length=j:=by rw[zR];omega
     have q1:=(l1 (c.Secs.take j) 0).1
     have q2:=(l1 (c.Secs.take j) 0).2
     have hdec:=a_v hlt
     refine (hc s).secs.load (a_g hx) a_x rfl ⟨x.Kind,x.OC,x.Line,rfl,?_⟩
     rw[a_i (by omega)]
     refine bcn (fun hoc=>⟨by trivial,⟨j+1,rfl,hlt,?_⟩,hdec⟩) (fun hoc=>a_f fun id2 s4 _ _ he4 hs4=>(ho.ext' he4).append (k:=0) (l:=e_3 oc (c.Secs.take j) 0) (ns:= [(j:Int)]) rfl rfl (At.fresh hs4 (by simp) rfl) (by simp;omega) fun d5 s5 ho5 _=>bce (fun hk=>?_) (fun hk=>⟨by trivial,⟨j+1,rfl,hlt,?_⟩,hdec⟩))
     · rw[ht,f_u,h_i,if_neg hoc,if_neg (fun h=>hoc h.1),zS,zS];exact ho
     · refine a_f fun id3 s6 _ _ he6 hs6=>(ho5.ext' he6).append (k:=1) (l:=g_v oc (c.Secs.take j) 0) (ns:= [(j:Int)]) rfl rfl (At.fresh hs6 (by simp) rfl) (by simp;omega) fun d6 s7 ho7 _=>⟨by trivial,⟨j+1,rfl,hlt,?_⟩,hdec⟩
       rw[ht,f_u,h_i,if_pos hoc,if_pos ⟨hoc,hk⟩,hlen,Int.zero_add];exact ho7
     · rw[ht,f_u,h_i,if_pos hoc,if_neg (fun h=>hk h.2),hlen,Int.zero_add,zS];exact ho5
   have e:j=c.Secs.length:=by omega
   subst e
   rw[zT] at ho
   refine (hc s).xs.lenK ⟨fun d1 d2 d3 d4 n s=>∃j:Nat,n=j/\j<=c.Xs.length/\OwnAll σ s [d1,d2,d3,d4] [e_3 oc c.Secs 0,g_v oc c.Secs 0,o_w c oc (c.Xs.take j) 0,[]],fun _ _ _ _ n _=>c.Xs.length - n.toNat,⟨0,rfl,by omega,ho⟩,?_⟩
   clear ho d1 d2 d3 d4 s
   rintro d1 d2 d3 d4 _ s ⟨j,rfl,hj,ho⟩
   rw[zB]
   refine bcd (fun hlt=>?_) (fun hge=>?_)
   · have hlt:j < c.Xs.length:=by omega
     obtain ⟨x,hx⟩:=a_c (l:=c.Xs) (j:=j) hlt
     have ht:c.Xs.take (j+1) =c.Xs.take j ++ [x]:=by rw[zQ,hx,Option.toList_some]
     have hlen:(c.Xs.take j).length=j:=by rw[zR];omega
     have q1:=l2 (c.Xs.take j) 0
     have hdec:=a_v hlt
     refine (hc s).xs.load (a_g hx) c_int rfl ⟨x,rfl,(a_bs hc x oc).use ⟨_,rfl,?_⟩⟩
     rw[a_i (by omega)]
     refine bc (fun hoc=>a_f fun id2 s4 _ _ he4 hs4=>(ho.ext' he4).append (k:=2) (l:=o_w c oc (c.Xs.take j) 0) (ns:= [(j:Int)]) rfl rfl (At.fresh hs4 (by simp) rfl) (by simp;omega) fun d5 s5 ho5 _=>⟨by trivial,⟨j+1,rfl,hlt,?_⟩,hdec⟩) (fun hoc=>⟨by trivial,⟨j+1,rfl,hlt,?_⟩,hdec⟩)
     · rw[ht,n_s,if_pos hoc,hlen,Int.zero_add];exact ho5
     · rw[ht,n_s,if_neg (by rw[hoc];simp),zS];exact ho
   have e:j=c.Xs.length:=by omega
   subst e
   rw[zT] at ho
   refine (hc s).sigs.lenK ⟨fun d1 d2 d3 d4 n s=>∃j:Nat,n=j/\j<=c.Sigs.length/\OwnAll σ s [d1,d2,d3,d4] [e_3 oc c.Secs 0,g_v oc c.Secs 0,o_w c oc c.Xs 0,j_i c oc (c.Sigs.take j) 0],fun _ _ _ _ n _=>c.Sigs.length - n.toNat,⟨0,rfl,by omega,ho⟩,?_⟩
   clear ho d1 d2 d3 d4 s
   rintro d1 d2 d3 d4 _ s ⟨j,rfl,hj,ho⟩
   rw[zB]
   refine bcd (fun hlt=>?_) (fun hge=>?_)
   · have hlt:j < c.Sigs.length:=by omega
     obtain ⟨x,hx⟩:=a_c (l:=c.Sigs) (j:=j) hlt
     have ht:c.Sigs.take (j+1) =c.Sigs.take j ++ [x]:=by rw[zQ,hx,Option.toList_some]
     have hlen:(c.Sigs.take j).length=j:=by rw[zR];omega
     have q1:=l3 (c.Sigs.take j) 0
     have hdec:=a_v hlt
     refine (hc s).sigs.load (a_g hx) d_b rfl ⟨x.Sec,x.End_,rfl,(a_bs hc x.Sec oc).use ⟨_,rfl,?_⟩⟩
     rw[a_i (by omega)]
     refine bc (fun hoc=>a_f fun id2 s4 _ _ he4 hs4=>(ho.ext' he4).append (k:=3) (l:=j_i c oc (c.Sigs.take j) 0) (ns:= [(j:Int)]) rfl rfl (At.fresh hs4 (by simp) rfl) (by simp;omega) fun d5 s5 ho5 _=>⟨by trivial,⟨j+1,rfl,hlt,?_⟩,hdec⟩) (fun hoc=>⟨by trivial,⟨j+1,rfl,hlt,?_⟩,hdec⟩)
     · rw[ht,l_o,if_pos hoc,hlen,Int.zero_add];exact ho5
     · rw[ht,l_o,if_neg (by rw[hoc];simp),zS];exact ho
   have e:j=c.Sigs.length:=by omega
   subst e
   rw[zT] at ho
   exact ⟨d1,d2,d3,d4,rfl,ho⟩
 refine key.ret ?_
 rintro r s ⟨a0,a1,a2,a3,rfl,ho⟩
 have o0:=ho.own 0 _ _ rfl rfl
 have o1:=ho.own 1 _ _ rfl rfl
 have o2:=ho.own 2 _ _ rfl rfl
 have o3:=ho.own 3 _ _ rfl rfl
 obtain ⟨b0,f0,g0⟩:=b_s o0.at_ ho.ext o0.new (g_c _)
 obtain ⟨b1,f1,g1⟩:=b_s o1.at_ ho.ext o1.new (g_c _)
 obtain ⟨b2,f2,g2⟩:=b_s o2.at_ ho.ext o2.new (g_c _)
 obtain ⟨b3,f3,g3⟩:=b_s o3.at_ ho.ext o3.new (g_c _)
 exact ⟨.a (.agg [b0,b1,b2,b3]),σ, .pure ho.ext (.cons f0 (.cons f1 (.cons f2 (.cons f3 .nil)))),rfl,b0,b1,b2,b3,rfl,⟨g0,g1,g2,g3⟩⟩
end
def bsL (ls:List (List Int)) :List UInt8:=(2::ls.flatten).map fun x=>e_u x 0
theorem encB (n:Int) :r_e (e_u n 0) =[.int .u8 (IntKind.wrap .u8 n)]:=by
 rw[a_re,show (2:Int) ^ 0=1 from rfl,Int.fdiv_one]
theorem a_em {d:D}{ds:List D}{ls:List (List Int)}(h:At prog σ a_gg d (ds.map fun x=> [x]))(hdl:ds.length=ls.length)(hd:∀(k:Nat) d l,ds[k]? =some d->ls[k]? =some l->At prog σ a_e d (l.map Go.Fw.encI))
   (hb:ls.flatten.length<=2 ^ 20) :DCalls prog m_x [iA 2, .one d] σ fun r s=>Ext σ s/\r= .a (.one (.str (ofL (bsL ls)))):=by
 have hsz:=h.size
 rw[zB] at hsz
 have hsub:∀(j m:Nat) (l:List Int),ls[j]? =some l->((ls.take j).flatten ++ l.take m).length<=2 ^ 20:=fun j m l hl=>by
   have e:ls=ls.take j ++ l::ls.drop (j+1):=by rw[<-b_k hl,List.take_append_drop]
   have:=congrArg (fun x:List (List Int)=>x.flatten.length) e
   simp only[List.flatten_append,zP,List.flatten_cons] at this
   have h1:(l.take m).length<=l.length:=by rw[zR];omega
   rw[zP];omega
 refine a_io 2 d σ _ (a_f fun id s1 hid _ he1 hs1=>?_)
 have o0:Own prog σ s1 c_t (.osl id 0 1) ((bsL (ls.take 0)).map r_e):=by
   have e:(bsL (ls.take 0)).map r_e=[[.int .u8 (IntKind.wrap .u8 2)]]:=by simp[bsL,encB]
   rw[e];exact .at_new hid he1 hs1 (by simp) rfl
 refine h.lenK ⟨fun d1 n s=>∃j:Nat,n=j/\j<=ds.length/\Own prog σ s c_t d1 ((bsL (ls.take j)).map r_e),fun _ n _=>ds.length - n.toNat,⟨0,rfl,by omega,o0⟩,?_⟩
 rintro d1 _ s ⟨j,rfl,hj,ho⟩
 rw[zB]
 refine bcd (fun hlt=>?_) (fun hge=>?_)
 · have hlt:j < ds.length:=by omega
   obtain ⟨e,he⟩:=a_c (l:=ds) (j:=j) hlt
   obtain ⟨l,hl⟩:=a_c (l:=ls) (j:=j) (by omega)
   have hdec:=a_v hlt
   have hae:=fun {s:Store} (hs:Ext σ s)=>(hd j e l he hl).ext hs
   have hll:=(hd j e l he hl).size
   rw[zB] at hll
   refine (h.ext ho.ext).load (j:=j) (show (ds.map fun x=> [x])[j]? =some [e] by rw[zL,he];rfl) a_wt rfl ⟨e,rfl,(hae ho.ext).lenK ⟨fun d2 n s=>∃m:Nat,n=m/\m<=l.length/\Own prog σ s c_t d2 (((2:: ((ls.take j).flatten ++ l.take m)).map fun x=>e_u x 0).map r_e),fun _ n _=>l.length - n.toNat,⟨0,rfl,by omega,by
     have e:(2:: ((ls.take j).flatten ++ l.take 0)).map (fun x=>e_u x 0) =bsL (ls.take j):=by rw[List.take_zero,zS];rfl
     rw[e];exact ho⟩,?_⟩⟩
   clear ho
   rintro d2 _ s2 ⟨m,rfl,hm,ho⟩
   rw[zB]
   refine bcd (fun hlt2=>?_) (fun hge=>?_)
   · have hlt2:m < l.length:=by omega
     obtain ⟨x,hx⟩:=a_c (l:=l) (j:=m) hlt2
     have hdec2:=a_v hlt2
     have hb1:=hsub j m l hl
     refine (hae ho.ext).load (a_g hx) c_int rfl ⟨x,rfl,a_f fun id1 s3 _ _ he3 hs3=>?_⟩
     refine (ho.ext' he3).append (At.fresh hs3 (by simp) rfl) (by simp only[zB,List.length_cons,List.length_nil];omega) (by simp only[zB,List.length_cons,List.length_nil];omega) fun d3 s4 ho4 _ _=>?_
     rw[a_i (by omega)]
     refine ⟨⟨m+1,rfl,hlt2,?_⟩,hdec2⟩
     have e:(2:: ((ls.take j).flatten ++ l.take (m+1))).map (fun x=>e_u x 0) =(2:: ((ls.take j).flatten ++ l.take m)).map (fun x=>e_u x 0) ++ [e_u x 0]:=by
       rw[zQ,hx,Option.toList_some,<-zK,<-List.cons_append,List.map_append];rfl
     have e2: [e_u x 0].map r_e=[[D.int .u8 (IntKind.wrap .u8 x)]]:=by simp[encB]
     rw[e,List.map_append,e2]
     exact ho4
   · have e:m=l.length:=by omega
     subst e
     rw[a_i (by omega)]
     refine ⟨⟨j+1,rfl,hlt,?_⟩,hdec⟩
     have e:(2:: ((ls.take j).flatten ++ l.take l.length)).map (fun x=>e_u x 0) =bsL (ls.take (j+1)):=by
       unfold bsL
       rw[zT,zQ,hl,Option.toList_some,List.flatten_append];simp
     rw[e] at ho
     exact ho
 · have e:j=ls.length:=by omega
   rw[e,zT] at ho
   refine ⟨ofL (bsL ls),?_,ho.ext,rfl⟩
   rw[o_u];exact ho.at_.rows
end
section
variable {σ σ0:Store}
theorem j_t {c0 c1 c2 c3 c4:D}{c:Cf}(h:CfAt σ c0 c1 c2 c3 c4 c)(a e:Int) :Pure prog f_w [cfA c0 c1 c2 c3 c4 c,iA a,iA e] σ (.a (iA (c.sigAt a e))):=by
 have hl:=h.sigs.size
 rw[zB] at hl
 refine a_ep _ _ _ _ _ _ _ _ _ a e σ _ (h.sigs.lenK ⟨fun n s=>s=σ/\∃j:Nat,n=j/\j<=c.Sigs.length/\d_h (fun x=>decide ((⟨a,e⟩ :Sg) =x)) (c.Sigs.drop j) j=c.sigAt a e,fun n _=>c.Sigs.length - n.toNat,⟨rfl,0,rfl,by omega,rfl⟩,?_⟩)
 rintro _ τ ⟨rfl,j,rfl,hj,hF⟩
 rw[zB]
 refine bcd (fun hlt=>?_) (fun hge=>?_)
 · have hlt:j < c.Sigs.length:=by omega
   obtain ⟨x,hx⟩:=a_c (l:=c.Sigs) (j:=j) hlt
   rw[b_k hx,d_h] at hF
   have go:¬(x.Sec=a/\x.End_=e)->(τ=τ/\∃j':Nat,w64 ((j:Int) +1) =j'/\j'<=c.Sigs.length/\d_h (fun x=>decide ((⟨a,e⟩ :Sg) =x)) (c.Sigs.drop j') j'=c.sigAt a e)/\c.Sigs.length - (w64 ((j:Int) +1)).toNat < c.Sigs.length - ((j:Nat) :Int).toNat:=fun hne=>by
     rw[a_i (by omega)]
     refine ⟨⟨rfl,j+1,rfl,hlt,?_⟩,a_v hlt⟩
     rw[if_neg (by
       simp only[decide_eq_true_eq]
       intro g;subst g;exact hne ⟨rfl,rfl⟩)] at hF
     exact hF
   refine h.sigs.load (a_g hx) d_b rfl ⟨x.Sec,x.End_,rfl,bce (fun h1=>bce (fun h2=>⟨?_,rfl⟩) (fun h2=>go fun g=>h2 g.2)) (fun h1=>go fun g=>h1 g.1)⟩
   rw[if_pos (by
     simp only[decide_eq_true_eq]
     rw[<-h1,<-h2])] at hF
   rw[<-hF]
 · rw[e_c (by omega),d_h] at hF
   exact ⟨by rw[<-hF],rfl⟩
theorem t_8 {c0 c1 c2 c3 c4:D}{c:Cf}(h:CfAt σ c0 c1 c2 c3 c4 c)(a e:Int) :Pure prog k_m [cfA c0 c1 c2 c3 c4 c,iA a,iA e] σ (.a (bA (c.stands a e))):=by
 refine a_lh _ _ _ _ _ _ _ _ _ a e σ _ ((e_h a e h.jts).mono ?_)
 rintro r s' ⟨rfl,rfl⟩
 unfold Cf.stands
 cases hn:nxt c.Jts a e with
 | none=>exact ⟨0,0,false,rfl,a_0 (fun _=>⟨rfl,rfl⟩) (fun e=>by cases e)⟩
 | some p=>
   refine ⟨p.1,p.2,true,rfl,a_0 (fun e=>by cases e) (fun _=>(j_t h a e).use ⟨_,rfl,?_,rfl⟩)⟩
   simp only[Option.isNone_some,Bool.false_or]
theorem a_il (x:Th)(hl:0<=x.Left/\x.Left<=2)(stuck:Bool) :Pure prog i_f [.agg x.enc,bA stuck] σ (.a (.agg (x.tick stuck).enc)):=by
 refine a_j4 x.At x.To x.Left stuck σ _ ?_
 refine bce (fun h0=>⟨?_,rfl⟩) (fun h0=>bc (fun hs=>⟨?_,rfl⟩) (fun hs=>?_))
 · unfold Th.tick;rw[if_neg (by omega)];rfl
 · unfold Th.tick;rw[if_neg (by rintro ⟨_,g⟩;rw[g] at hs;cases hs)];rfl
 rw[a_r (by omega) (by omega)]
 have ht:x.tick stuck=if x.Left - 1 > 0 then { x with Left:=x.Left - 1 } else ⟨x.To,x.To,x.Left - 1⟩:=by
   unfold Th.tick;rw[if_pos ⟨by omega,by simpa using hs⟩]
 refine bce (fun h1=>⟨?_,rfl⟩) (fun h1=>⟨?_,rfl⟩)
 · rw[ht,if_neg (by omega)];rfl
 · rw[ht,if_pos (by omega)];rfl
theorem a_gf (x:Th)(to:Int) :Pure prog g_u [.agg x.enc,iA to] σ (.a (.agg (x.order to).enc)):=by
 refine a_h0 x.At x.To x.Left to σ _ (bce (fun h=>⟨?_,rfl⟩) (fun h=>⟨?_,rfl⟩))
 · unfold Th.order;rw[if_neg (fun g=>g h)];rfl
 · unfold Th.order;rw[if_pos h];rfl
theorem a_e4 (now stamp age:Int)(h:0<=stamp/\stamp<=4294967296)(hn:now<=9223372036854775807) :Pure prog m_u [iA now,iA stamp,iA age] σ (.a (bA (decide (stamp<=now) && decide (now - stamp<=age)))):=by
 refine a_gz now stamp age σ _ (bcd (fun h0=>bcd (fun h1=>⟨?_,rfl⟩) (fun h1=>⟨?_,rfl⟩)) (fun h0=>⟨?_,rfl⟩))
 · rw[a_r (by omega) (by omega),decide_eq_true h1,Bool.true_and]
 · rw[decide_eq_false h1,Bool.false_and]
 · rw[decide_eq_false (by omega),Bool.false_and]
end
section
variable {σ σ0:Store}
def lsD (o:Option (Nat × List (List D)))(n:Nat) :D:=match o with
 | none=> .nils
 | some x=> .osl x.1 0 n
def lsE (t:TypeId)(o:Option (Nat × List (List D)))(rows:List (List D)) :List (Nat × SO):=match o with
 | none=> []
 | some x=> [(x.1, .live t (rows ++ x.2))]
def z_u {α:Type}(o:Option (Nat × List (List D)))(l:List α) :Prop:=o=none->l=[]
theorem t_5 {P:Program}{s:Store}{t:TypeId}{o:Option (Nat × List (List D))}{rows:List (List D)}(h:∀x ∈ lsE t o rows,s x.1=x.2)(hn:z_u o rows)(hsz:rows.length < 2 ^ 60) :At P s t (lsD o rows.length) rows:=by
 unfold lsD
 cases o with
 | none=>rw[hn rfl];exact .nil
 | some x=>exact o_p (h (x.1, .live t (rows ++ x.2)) (by simp[lsE])) rfl hsz
theorem a_d8 {s:Store}{id:Nat}{row:List D}{tr:D}{l:List Tr}(h:s id= .live a_w [row])(htr:row[11]? =some tr)(ht:p_d s tr l)(hl:l.length<=2 ^ 10)(hs:∀t ∈ l,t.Secs.length<=2 ^ 45)(n:Int) :
   Pure prog h_e [.one (pO id),iA n] s (.a (iA (d_i l n:Nat))):=by
 obtain ⟨rows,hat,hrl,hrow⟩:=ht
 have hbound:∀j≤l.length,d_i (l.take j) n<=j * 2 ^ 45:=by
   intro j
   induction j with
   | zero=>intro _;simp[d_i]
   | succ j ih=>
     intro hj
     obtain ⟨t,htj⟩:=a_c (l:=l) (j:=j) (by omega)
     rw[zQ,htj,Option.toList_some,l_4]
     have h1:=ih (by omega)
     have h2:=hs t (zC htj)
     have h3:t.Secs.count n<=t.Secs.length:=List.count_le_length
     have e:(j+1) * 2 ^ 45=j * 2 ^ 45+2 ^ 45:=by omega
     omega
 refine w_v (pO id) n s _ ⟨trivial,_,_,_,rfl,_,a_d h,tr,c_8 htr,hat.lenK ⟨fun m k s'=>s'=s/\∃j:Nat,k=j/\j<=l.length/\m=(d_i (l.take j) n:Nat),fun _ k _=>l.length - k.toNat,⟨rfl,0,rfl,by omega,by simp[d_i]⟩,?_⟩⟩
 rintro _ _ s' ⟨rfl,j,rfl,hj,rfl⟩
 rw[hrl]
 refine bcd (fun hlt=>?_) (fun hge=>?_)
 rotate_left
 · have e:j=l.length:=by omega
   subst e
   rw[zT];exact ⟨rfl,rfl⟩
 have hlt:j < l.length:=by omega
 obtain ⟨t,htj⟩:=a_c (l:=l) (j:=j) hlt
 obtain ⟨r,hr⟩:=a_c (l:=rows) (j:=j) (by omega)
 obtain ⟨e,rfl,hae⟩:=hrow j r t hr htj
 have hts:=hs t (zC htj)
 have hb:=hbound j (by omega)
 have hjb:j * 2 ^ 45<=2 ^ 10 * 2 ^ 45:=Nat.mul_le_mul_right _ (by omega)
 generalize hm0:d_i (l.take j) n=m0 at *
 have hdec:=a_v hlt
 refine hat.load hr b_4 rfl ⟨e,t.Out,rfl,hae.lenK ⟨fun m k s2=>s2=s'/\∃q:Nat,k=q/\q<=t.Secs.length/\m=(m0+ (t.Secs.take q).count n:Nat),fun _ k _=>t.Secs.length - k.toNat,⟨rfl,0,rfl,by omega,by simp⟩,?_⟩⟩
 rintro _ _ s2 ⟨rfl,q,rfl,hq,rfl⟩
 rw[zB]
 refine bcd (fun hlt2=>?_) (fun hge=>?_)
 · have hlt2:q < t.Secs.length:=by omega
   obtain ⟨x,hx⟩:=a_c (l:=t.Secs) (j:=q) hlt2
   have htk:t.Secs.take (q+1) =t.Secs.take q ++ [x]:=by rw[zQ,hx,Option.toList_some]
   have hdec2:=a_v hlt2
   have hc:(t.Secs.take q).count n<=q:=by have:=List.count_le_length (l:=t.Secs.take q) (a:=n);rw[zR] at this;omega
   refine hae.load (a_g hx) c_int rfl ⟨x,rfl,?_⟩
   have hwq:w64 ((q:Int) +1) =((q+1:Nat) :Int):=a_i (by omega)
   have hwm:w64 (((m0+ (t.Secs.take q).count n:Nat) :Int) +1) =((m0+ (t.Secs.take q).count n+1:Nat) :Int):=a_i (by omega)
   rw[hwq,hwm]
   refine bce (fun he=>⟨⟨rfl,q+1,rfl,hlt2,?_⟩,hdec2⟩) (fun he=>⟨⟨rfl,q+1,rfl,hlt2,?_⟩,hdec2⟩)
   · rw[htk,o_h,if_pos he];rfl
   · rw[htk,o_h,if_neg he];rfl
 · have e2:q=t.Secs.length:=by omega
   subst e2
   rw[zT,a_i (by omega)]
   refine ⟨⟨rfl,j+1,rfl,hlt,?_⟩,hdec⟩
   rw[zQ,htj,Option.toList_some,l_4,hm0]
structure RR where
 i:Nat
 nm:Option (Nat × List (List D))
 ns:List Int
structure RL where
 mp:Nat
 clk:Nat
 es:List Ent
 c0:D
 c1:D
 c2:D
 c3:D
 c4:D
 pt:Option (Nat × List (List D))
 gt:Option (Nat × List (List D))
 rc:Option (Nat × List (List D))
 ap:Option (Nat × List (List D))
 st:Option (Nat × List (List D))
 la:Option (Nat × List (List D))
 tr:Option (Nat × List (List D))
 rs:List RR
 tk:List (Nat × List (List D))
def rrE (x:RR × Pst) :Nat × SO:=(x.1.i, .live a_t [[iD x.2.R.Peer,iD x.2.R.Age,iD x.2.R.Last,lsD x.1.nm x.1.ns.length]])
def f_f (L:RL)(y:Yd) :List D:=
 [L.c0,L.c1,L.c2,L.c3,L.c4,iD y.C.Age,iD y.C.Brake,iD y.C.Hold,iD y.C.Budget,lsD L.pt y.Pts.length,lsD L.gt y.Gts.length,lsD L.tr y.Trs.length,lsD L.rc L.rs.length,lsD L.ap y.Lps.length,lsD L.st y.Psts.length,lsD L.la y.Lps.length, .omap L.mp,iD y.Now]
def c_l (id:Nat)(L:RL)(y:Yd) :List (Nat × SO):=
 [(id, .live a_w [f_f L y]),(L.mp, .mp L.clk L.es)]
def e_1 (L:RL)(y:Yd) :List (Nat × SO):=
 lsE a_h L.pt (y.Pts.map Th.enc) ++ (lsE a_h L.gt (y.Gts.map Th.enc) ++ (lsE a_p L.rc (L.rs.map fun x=> [pO x.i]) ++ (lsE a_e L.ap (y.Lps.map fun x=>Go.Fw.encI x.Asp) ++
   (lsE a_e L.st (y.Psts.map fun x=>Go.Fw.encI x.Stamp) ++ (lsE a_e L.la (y.Lps.map fun x=>Go.Fw.encI x.Last) ++ lsE a_m L.tr ((L.tk.zip y.Trs).map a_z))))))
def c_9 (id:Nat)(L:RL)(y:Yd)(fr:List (Nat × SO)) :List (Nat × SO):=
 c_l id L y ++ (e_1 L y ++ ((L.rs.zip y.Psts).map rrE ++ ((L.rs.map fun x=>lsE a_e x.nm (x.ns.map Go.Fw.encI)).flatten ++ ((L.tk.zip y.Trs).map tkE ++ fr))))
structure RyIn (s:Store) (id:Nat) (L:RL) (y:Yd) (fr:List (Nat × SO)) :Prop where
 heap:Heap s (c_9 id L y fr)
 cfg:∀s,CfAt s L.c0 L.c1 L.c2 L.c3 L.c4 y.C
 keys:f_l prog j_k L.es
 flt:∀k,∃n:Int,(b_e (n_4 k) L.es).getD (iA 0) =iA n/\(n == 1) =y.Flt k
 rsl:L.rs.length=y.Psts.length
 tkl:L.tk.length=y.Trs.length
 ptn:z_u L.pt y.Pts
 gtn:z_u L.gt y.Gts
 rcn:z_u L.rc L.rs
 apn:z_u L.ap y.Lps
 stn:z_u L.st y.Psts
 lan:z_u L.la y.Lps
 trn:z_u L.tr y.Trs
 nmn:∀x ∈ L.rs,z_u x.nm x.ns
 num:∀e ∈ L.rs.zip y.Psts,(e.1.ns.length:Int)<=e.2.R.Last+1
section
variable {s:Store} {id:Nat} {L:RL} {y:Yd} {fr:List (Nat × SO)} {N:Nat}
theorem RyIn.row (h:RyIn s id L y fr) :s id= .live a_w [f_f L y]:=h.heap.get (i:=id) (zE _ (by simp[c_l]))
theorem RyIn.mp (h:RyIn s id L y fr) :s L.mp= .mp L.clk L.es:=h.heap.get (i:=L.mp) (zE _ (by simp[c_l]))
theorem RyIn.lists (h:RyIn s id L y fr){x:Nat × SO}(hx:x ∈ e_1 L y) :s x.1=x.2:=h.heap.get (i:=x.1) (zD _ (zE _ hx))
theorem RyIn.tk (h:RyIn s id L y fr){k:Nat}{x:Nat × List (List D)}{t:Tr}(h1:L.tk[k]? =some x)(h2:y.Trs[k]? =some t) :s x.1= .live a_e (t.Secs.map Go.Fw.encI ++ x.2):=
 h.heap.get (i:=x.1) (zD _ (zD _ (zD _ (zD _ (zE _ (List.mem_map.2 ⟨(x,t),zC (c_d h1 h2),rfl⟩))))))
theorem RyIn.rcv (h:RyIn s id L y fr){k:Nat}{x:RR}{p:Pst}(h1:L.rs[k]? =some x)(h2:y.Psts[k]? =some p) :s x.i= .live a_t [[iD p.R.Peer,iD p.R.Age,iD p.R.Last,lsD x.nm x.ns.length]]:=
 h.heap.get (i:=x.i) (zD _ (zD _ (zE _ (List.mem_map.2 ⟨(x,p),zC (c_d h1 h2),rfl⟩))))
theorem RyIn.ptsAt (h:RyIn s id L y fr)(hw:Ywf y N) :At prog s a_h (lsD L.pt y.Pts.length) (y.Pts.map Th.enc):=by
 have:=c_m hw.chk
 have:=t_5 (P:=prog) (s:=s) (t:=a_h) (o:=L.pt) (rows:=y.Pts.map Th.enc) (fun x hx=>h.lists (zE _ hx)) (fun e=>by rw[h.ptn e];rfl) (by simp;have:=hw.pts;omega)
 rwa [zB] at this
theorem RyIn.trAt (h:RyIn s id L y fr)(hw:Ywf y N) :At prog s a_m (lsD L.tr y.Trs.length) ((L.tk.zip y.Trs).map a_z):=by
 have hl:((L.tk.zip y.Trs).map a_z).length=y.Trs.length:=by simp[h.tkl]
 have:=t_5 (P:=prog) (s:=s) (t:=a_m) (o:=L.tr) (rows:=(L.tk.zip y.Trs).map a_z) (fun x hx=>h.lists (zD _ (zD _ (zD _ (zD _ (zD _ (zD _ hx))))))) (fun e=>by rw[h.trn e];simp) (by rw[hl];have:=hw.trs;omega)
 rwa [hl] at this
end
end
section
variable {σ σ0:Store}
theorem a_j7 (k i p:Int) :Pure prog j_l [iA k,iA i,iA p] σ (opt1 (e_e k i p)):=by
 refine Pure.of (a_my k i p σ _ ((m_p k).mono ?_)) ?_
 rotate_left
 · cases e_e k i p with
   | none=>exact .tup [iD 0, .bool false] (by intro d hd;simp at hd;rcases hd with rfl | rfl;exact .int _ _;exact .bool _)
   | some x=>exact .tup [iD x, .bool true] (by intro d hd;simp at hd;rcases hd with rfl | rfl;exact .int _ _;exact .bool _)
 rintro r s ⟨rfl,d,rfl,hd⟩
 have hat:=hd s
 have hwl:=n_g k
 refine ⟨_,rfl,hat.lenK ⟨fun n s'=>s'=s/\Rng (d_5 k) (fun r=>q_5 r i p=e_e k i p) n,fun n _=>(d_5 k).length - n.toNat,⟨rfl, .start rfl⟩,?_⟩⟩
 rintro n s' ⟨rfl,hr⟩
 refine bcd (fun hlt=>?_) (fun hge=>?_)
 · obtain ⟨j,w,rfl,hw,hj,hE,nx⟩:=hr.step (by simp) hwl hlt
   rw[q_5] at hE
   have next:q_5 ((d_5 k).drop (j+1)) i p=e_e k i p->(s'=s'/\Rng (d_5 k) (fun r=>q_5 r i p=e_e k i p) (w64 ((j:Int) +1)))/\(d_5 k).length - (w64 ((j:Int) +1)).toNat < (d_5 k).length - ((j:Int)).toNat:=fun h=>by
     have:=nx (fun r=>q_5 r i p=e_e k i p) h
     exact ⟨⟨rfl,this.1⟩,this.2⟩
   have e1:w.1=i->(w.2.2=0\/w.2.2=p)->some w.2.1=e_e k i p:=fun a b=>by
     rw[if_pos a.symm] at hE
     simp only at hE
     rw[if_pos b] at hE
     exact hE
   have e2:¬w.1=i->w.2.1=i->(w.2.2=0\/w.2.2=p)->some w.1=e_e k i p:=fun n a b=>by
     rw[if_neg (fun g=>n g.symm),if_pos a.symm] at hE
     simp only at hE
     rw[if_pos b] at hE
     exact hE
   have e4:¬w.1=i->¬w.2.1=i->q_5 ((d_5 k).drop (j+1)) i p=e_e k i p:=fun n a=>by
     rw[if_neg (fun g=>n g.symm),if_neg (fun g=>a g.symm)] at hE
     exact hE
   have e3:¬(w.2.2=0\/w.2.2=p)->q_5 ((d_5 k).drop (j+1)) i p=e_e k i p:=fun n=>by
     by_cases a:w.1=i
     · rw[if_pos a.symm] at hE
       simp only at hE
       rw[if_neg n] at hE
       exact hE
     · by_cases b:w.2.1=i
       · rw[if_neg (fun g=>a g.symm),if_pos b.symm] at hE
         simp only at hE
         rw[if_neg n] at hE
         exact hE
       · exact e4 a b
   refine hat.load (a_g hw) h_n rfl ⟨w.1,w.2.1,w.2.2,rfl,bcn (fun h0=>bcn (fun h1=>next (e3 fun g=>g.elim h0 h1)) (fun h1=>bce (fun ha=>?_) (fun ha=>bce (fun hb=>?_) (fun hb=>next (e4 ha hb))))) (fun h0=>bce (fun ha=>?_) (fun ha=>bce (fun hb=>?_) (fun hb=>next (e4 ha hb))))⟩
   · rw[<-e1 ha (.inr h1)];exact ⟨rfl, .refl _⟩
   · rw[<-e2 ha hb (.inr h1)];exact ⟨rfl, .refl _⟩
   · rw[<-e1 ha (.inl h0)];exact ⟨rfl, .refl _⟩
   · rw[<-e2 ha hb (.inl h0)];exact ⟨rfl, .refl _⟩
 · have:=hr.done (by simp) hge
   rw[q_5] at this
   rw[<-this];exact ⟨rfl, .refl _⟩
section
variable {s:Store} {id:Nat} {L:RL} {y:Yd} {fr:List (Nat × SO)} {N:Nat}
theorem RyIn.way (h:RyIn s id L y fr)(hw:Ywf y N){a:Int}{sec:Sec}(ha:a_n y.C.Secs a=some sec)(i:Int) :Pure prog d_m [.one (pO id),iA a,iA i] s (.a (iA (y.way a i))):=by
 obtain ⟨h0,h1,h2⟩:=b_w ha
 obtain ⟨j,rfl⟩:=zI h0
 rw[zF] at h2
 obtain ⟨x,hx⟩:=a_c (l:=y.Pts) (j:=j) (by have:=hw.pts;omega)
 have hP:=h.ptsAt hw
 have hpos:y.pos (j:Int) =if x.Left > 0 then 0 else x.At:=by unfold Yd.pos;rw[a_1,hx];rfl
 have hway:y.way (j:Int) i=(e_e sec.Kind i (y.pos (j:Int))).getD (-1):=by unfold Yd.way;rw[ha];rfl
 have fin:∀p,y.pos (j:Int) =p->DCalls prog j_l [iA sec.Kind,iA i,iA p] s fun r s'=>∃n2:Int,∃b1:Bool,(r= .tup [iA n2,bA b1])/\a_b (!b1) (RV.a (iA (-1)) = .a (iA (y.way (j:Int) i))/\s'=s) (RV.a (iA n2) = .a (iA (y.way (j:Int) i))/\s'=s):=by
   rintro p rfl
   refine (a_j7 _ _ _).mono ?_
   rintro r s' ⟨rfl,rfl⟩
   rw[hway]
   cases e_e sec.Kind i (y.pos (j:Int)) with
   | none=>exact ⟨0,false,rfl,a_0 (fun _=>⟨rfl,rfl⟩) (fun e=>by cases e)⟩
   | some o=>exact ⟨o,true,rfl,a_0 (fun e=>by cases e) (fun _=>⟨rfl,rfl⟩)⟩
 refine a_aq (pO id) j i s _ ⟨trivial,_,_,_,rfl,_,a_d h.row,_,rfl,hP.load (a_g hx) c_g rfl ⟨x.At,rfl,trivial,_,_,_,rfl,_,a_d h.row,_,rfl,hP.load (a_g hx) c_g rfl ⟨x.Left,rfl,bcd (fun hm=>?_) (fun hm=>?_)⟩⟩⟩
 · exact ⟨trivial,_,_,_,rfl,_,a_d h.row,_,rfl,(h.cfg s).secs.load (a_g h2) a_x rfl ⟨sec.Kind,rfl,fin 0 (by rw[hpos,if_pos hm])⟩⟩
 · exact ⟨trivial,_,_,_,rfl,_,a_d h.row,_,rfl,(h.cfg s).secs.load (a_g h2) a_x rfl ⟨sec.Kind,rfl,fin x.At (by rw[hpos,if_neg hm])⟩⟩
theorem RyIn.apAt (h:RyIn s id L y fr)(hw:Ywf y N) :At prog s a_e (lsD L.ap y.Lps.length) (y.Lps.map fun x=>Go.Fw.encI x.Asp):=by
 have:=c_m hw.chk
 have:=t_5 (P:=prog) (s:=s) (t:=a_e) (o:=L.ap) (rows:=y.Lps.map fun x=>Go.Fw.encI x.Asp) (fun x hx=>h.lists (zD _ (zD _ (zD _ (zE _ hx))))) (fun e=>by rw[h.apn e];rfl) (by simp;have:=hw.lps;omega)
 rwa [zB] at this
theorem RyIn.stAt (h:RyIn s id L y fr)(hw:Ywf y N) :At prog s a_e (lsD L.st y.Psts.length) (y.Psts.map fun x=>Go.Fw.encI x.Stamp):=by
 have:=t_5 (P:=prog) (s:=s) (t:=a_e) (o:=L.st) (rows:=y.Psts.map fun x=>Go.Fw.encI x.Stamp) (fun x hx=>h.lists (zD _ (zD _ (zD _ (zD _ (zE _ hx)))))) (fun e=>by rw[h.stn e];rfl) (by simp;have:=hw.psts;omega)
 rwa [zB] at this
theorem RyIn.laAt (h:RyIn s id L y fr)(hw:Ywf y N) :At prog s a_e (lsD L.la y.Lps.length) (y.Lps.map fun x=>Go.Fw.encI x.Last):=by
 have:=c_m hw.chk
 have:=t_5 (P:=prog) (s:=s) (t:=a_e) (o:=L.la) (rows:=y.Lps.map fun x=>Go.Fw.encI x.Last) (fun x hx=>h.lists (zD _ (zD _ (zD _ (zD _ (zD _ (zE _ hx))))))) (fun e=>by rw[h.lan e];rfl) (by simp;have:=hw.lps;omega)
 rwa [zB] at this
theorem RyIn.shows (h:RyIn s id L y fr)(hw:Ywf y N)(x:Int) :Pure prog g_4 [.one (pO id),iA x] s (.a (iA (y.shows x))):=by
 refine u_4 (pO id) x s _ ?_
 intro R hR
 refine bcd (fun h0=>⟨by unfold Yd.shows;rw[a_5 (by have:=hw.lps;omega)],rfl⟩) (fun h0=>⟨trivial,_,_,_,rfl,_,a_d h.row,L.c2,rfl,(h.cfg s).sigs.lenK ?_⟩)
 rw[zB]
 have hlp:=hw.lps
 refine bcd (fun h1=>⟨by unfold Yd.shows;rw[b_u (by omega)],rfl⟩) (fun h1=>hR s ?_)
 obtain ⟨j,rfl⟩:=zI (show 0<=x by omega)
 obtain ⟨l,hl⟩:=a_c (l:=y.Lps) (j:=j) (by omega)
 obtain ⟨g,hg⟩:=a_c (l:=y.C.Sigs) (j:=j) (by omega)
 obtain ⟨sec,hsec⟩:=a_sr hw.chk (zC hg)
 obtain ⟨q0,q1,q2⟩:=b_w hsec
 have hoc:=a_up hw.chk (zC q2)
 obtain ⟨oc,hoce⟩:=zI hoc.1
 obtain ⟨p,hp⟩:=a_c (l:=y.Psts) (j:=oc) (by rw[hw.psts];omega)
 have hpw:=hw.pst oc p hp
 have hnow:=hw.now
 have hsh:y.shows (j:Int) =if p.Stamp < 0\/y.Now - p.Stamp > y.C.Age then 0 else l.Asp:=by
   unfold Yd.shows
   rw[a_1,hl,a_1,hg]
   simp only[hsec,hoce,a_1,hp]
 have hgj:(y.C.Secs.map Sec.enc)[g.Sec.toNat]? =some sec.enc:=a_g q2
 refine ⟨trivial,_,_,_,rfl,_,a_d h.row,_,rfl,trivial,_,_,_,rfl,_,a_d h.row,L.c0,rfl,trivial,_,_,_,rfl,_,a_d h.row,L.c2,rfl,(h.cfg s).sigs.load (a_g hg) d_b rfl ⟨g.Sec,rfl,(h.cfg s).secs.load (j:=g.Sec.toNat) hgj a_x (by omega) ⟨sec.OC,rfl,?_⟩⟩⟩
 rw[hoce]
 refine (h.stAt hw).load (j:=oc) (a_g (f:=fun x:Pst=>Go.Fw.encI x.Stamp) hp) c_int rfl ⟨p.Stamp,rfl,bcd (fun hs=>⟨by rw[hsh,if_pos (.inl hs)],rfl⟩) (fun hs=>⟨trivial,_,_,_,rfl,_,a_d h.row,y.Now,rfl,trivial,_,_,_,rfl,_,a_d h.row,y.C.Age,rfl,?_⟩)⟩
 rw[a_r (by omega) (by omega)]
 refine bcd (fun ha=>⟨by rw[hsh,if_pos (.inr ha)],rfl⟩) (fun ha=>⟨trivial,_,_,_,rfl,_,a_d h.row,_,rfl,(h.apAt hw).load (a_g (f:=fun x:Lp=>Go.Fw.encI x.Asp) hl) c_int rfl ⟨l.Asp,rfl,by rw[hsh,if_neg (fun g=>g.elim hs ha)],rfl⟩⟩)
end
end
end Go.Proofs.YtaklhjodjbgmgaaGreat
namespace Go.Proofs.YtaklhjodjbgmgaaGreat
open Go.Fw Go.Proofs Go.RowKit
section
variable {σ σ0:Store}
theorem z_7 {s s':Store}{A B:List (Nat × SO)}{t:TypeId}{o:Option (Nat × List (List D))}{x:Nat × List (List D)}{rows rows':List (List D)}(h:Heap s (A ++ (lsE t o rows ++ B)))(ho:o=some x)(hs:s' x.1= .live t (rows' ++ x.2))(hk:Keep x.1 s s') :Heap s' (A ++ (lsE t o rows' ++ B)):=by
 subst ho
 have h1:Heap s (A ++ [(x.1, .live t (rows ++ x.2))] ++ B):=by simpa[lsE] using h
 have hp:=Heap.put (A:=A) (X:= [(x.1, .live t (rows ++ x.2))]) (B:=B) (k:=0) h1 rfl hs (by intro e;cases e) hk
 simpa[lsE] using hp
section
variable {s:Store} {id:Nat} {L:RL} {y:Yd} {fr:List (Nat × SO)} {N:Nat}
theorem RyIn.ext (h:RyIn s id L y fr){s':Store}(he:Ext s s') :RyIn s' id L y fr:=⟨h.heap.ext he,h.cfg,h.keys,h.flt,h.rsl,h.tkl,h.ptn,h.gtn,h.rcn,h.apn,h.stn,h.lan,h.trn,h.nmn,h.num⟩
theorem RyIn.putP (h:RyIn s id L y fr){l:List Th}(hl:l.length=y.Pts.length){x:Nat × List (List D)}(hx:L.pt=some x){s':Store}(hs:s' x.1= .live a_h (l.map Th.enc ++ x.2))(ho:Keep x.1 s s') :RyIn s' id L { y with Pts:=l } fr:=by
 refine ⟨?_,h.cfg,h.keys,h.flt,h.rsl,h.tkl,fun e=>(by rw[hx] at e;cases e),h.gtn,h.rcn,h.apn,h.stn,h.lan,h.trn,h.nmn,h.num⟩
 have hh:=h.heap
 unfold c_9 e_1 c_l f_f at hh ⊢
 simp only[zK] at hh ⊢
 have hp:=z_7 hh hx hs ho
 simpa only[hl] using hp
theorem RyIn.putG (h:RyIn s id L y fr){l:List Th}(hl:l.length=y.Gts.length){x:Nat × List (List D)}(hx:L.gt=some x){s':Store}(hs:s' x.1= .live a_h (l.map Th.enc ++ x.2))(ho:Keep x.1 s s') :RyIn s' id L { y with Gts:=l } fr:=by
 refine ⟨?_,h.cfg,h.keys,h.flt,h.rsl,h.tkl,h.ptn,fun e=>(by rw[hx] at e;cases e),h.rcn,h.apn,h.stn,h.lan,h.trn,h.nmn,h.num⟩
 have hh:=h.heap
 unfold c_9 e_1 c_l f_f at hh ⊢
 simp only[zK] at hh ⊢
 rw[<-zK,<-zK] at hh ⊢
 have hp:=z_7 (A:=_ ++ lsE a_h L.pt (y.Pts.map Th.enc)) (by simpa only[zK] using hh) hx hs ho
 simpa only[hl,zK] using hp
theorem RyIn.putNow (h:RyIn s id L y fr){n:Int}{s':Store}(hs:s' id= .live a_w [f_f L { y with Now:=n }])(ho:Keep id s s') :RyIn s' id L { y with Now:=n } fr:=by
 have hp:=Heap.put (A:= []) (X:=c_l id L y) (B:=e_1 L y ++ ((L.rs.zip y.Psts).map rrE ++ ((L.rs.map fun x=>lsE a_e x.nm (x.ns.map Go.Fw.encI)).flatten ++ ((L.tk.zip y.Trs).map tkE ++ fr)))) (k:=0) h.heap rfl hs (by intro e;cases e) ho
 exact ⟨hp,h.cfg,h.keys,h.flt,h.rsl,h.tkl,h.ptn,h.gtn,h.rcn,h.apn,h.stn,h.lan,h.trn,h.nmn,h.num⟩
theorem RyIn.putLa (h:RyIn s id L y fr){l:List Lp}(hl:l.length=y.Lps.length)(ha:(l.map fun x=>Go.Fw.encI x.Asp) =y.Lps.map fun x=>Go.Fw.encI x.Asp){x:Nat × List (List D)}(hx:L.la=some x){s':Store}(hs:s' x.1= .live a_e ((l.map fun x=>Go.Fw.encI x.Last) ++ x.2))(ho:Keep x.1 s s') :RyIn s' id L { y with Lps:=l } fr:=by
 refine ⟨?_,h.cfg,h.keys,h.flt,h.rsl,h.tkl,h.ptn,h.gtn,h.rcn,fun e=>?_,h.stn,fun e=>(by rw[hx] at e;cases e),h.trn,h.nmn,h.num⟩
 rotate_left
 · have:=h.apn e
   rw[this] at hl
   exact List.eq_nil_of_length_eq_zero hl
 have hh:=h.heap
 unfold c_9 e_1 at hh ⊢
 have hp:=z_7 (A:=c_l id L y ++ (lsE a_h L.pt (y.Pts.map Th.enc) ++ (lsE a_h L.gt (y.Gts.map Th.enc) ++ (lsE a_p L.rc (L.rs.map fun x=> [pO x.i]) ++ (lsE a_e L.ap (y.Lps.map fun x=>Go.Fw.encI x.Asp) ++ lsE a_e L.st (y.Psts.map fun x=>Go.Fw.encI x.Stamp)))))) (by simpa only[zK] using hh) hx hs ho
 simp only[ha]
 have e:c_l id L { y with Lps:=l } =c_l id L y:=by unfold c_l f_f;simp only[hl]
 rw[e]
 simpa only[zK] using hp
theorem RyIn.putAp (h:RyIn s id L y fr){l:List Lp}(hl:l.length=y.Lps.length)(ha:(l.map fun x=>Go.Fw.encI x.Last) =y.Lps.map fun x=>Go.Fw.encI x.Last){x:Nat × List (List D)}(hx:L.ap=some x){s':Store}(hs:s' x.1= .live a_e ((l.map fun x=>Go.Fw.encI x.Asp) ++ x.2))(ho:Keep x.1 s s') :RyIn s' id L { y with Lps:=l } fr:=by
 refine ⟨?_,h.cfg,h.keys,h.flt,h.rsl,h.tkl,h.ptn,h.gtn,h.rcn,fun e=>(by rw[hx] at e;cases e),h.stn,fun e=>?_,h.trn,h.nmn,h.num⟩
 rotate_left
 · have:=h.lan e
   rw[this] at hl
   exact List.eq_nil_of_length_eq_zero hl
 have hh:=h.heap
 unfold c_9 e_1 at hh ⊢
 have hp:=z_7 (A:=c_l id L y ++ (lsE a_h L.pt (y.Pts.map Th.enc) ++ (lsE a_h L.gt (y.Gts.map Th.enc) ++ lsE a_p L.rc (L.rs.map fun x=> [pO x.i])))) (by simpa only[zK] using hh) hx hs ho
 simp only[ha]
 have e:c_l id L { y with Lps:=l } =c_l id L y:=by unfold c_l f_f;simp only[hl]
 rw[e]
 simpa only[zK] using hp
end
end
end Go.Proofs.YtaklhjodjbgmgaaGreat
namespace Go.Proofs.YtaklhjodjbgmgaaGreat
open Go.Fw Go.Proofs Go.RowKit
open Go.Proofs.Tryz (prog)
section
variable {σ σ0:Store}
section
variable {s:Store} {id:Nat} {L:RL} {y:Yd} {fr:List (Nat × SO)} {N:Nat}
theorem RyIn.look (h:RyIn s id L y fr)(hw:Ywf y N) :DCalls prog h_x [.one (pO id)] s fun r s'=>r= .tup []/\RyIn s' id L y.look fr:=by
 have hcl:=c_m hw.chk
 have hll:=hw.lps
 have hlook:y.look= { y with Lps:=o_9 y.shows y.Now y.Lps 0 } :=rfl
 rw[hlook]
 generalize hP:o_9 y.shows y.Now y.Lps 0=P'
 have hPl:P'.length=y.Lps.length:=by rw[<-hP];exact r_6 _ _ _ _
 refine y_s (pO id) s _ ⟨trivial,_,_,_,rfl,_,a_d h.row,_,rfl,?_⟩
 refine (h.laAt hw).lenK ⟨fun n s'=>∃j:Nat,n=j/\j<=y.Lps.length/\RyIn s' id L { y with Lps:=P'.take j ++ y.Lps.drop j } fr,fun n _=>y.Lps.length - n.toNat,⟨0,rfl,by omega,by simpa using h⟩,?_⟩
 rintro _ s2 ⟨j,rfl,hj,hy⟩
 rw[zB]
 have hml:(P'.take j ++ y.Lps.drop j).length=y.Lps.length:=by simp;omega
 have hPm:∀(k:Nat) p,P'[k]? =some p->∃x,y.Lps[k]? =some x/\p.Asp=x.Asp/\(p.Last=x.Last\/p.Last=y.Now):=fun k p hp=>by
   rw[<-hP,k_p] at hp
   cases hx:y.Lps[k]? with
   | none=>rw[hx] at hp;cases hp
   | some x=>
     rw[hx] at hp
     have hp:some (if y.shows (0+k)≠0 then { x with Last:=y.Now } else x) =some p:=hp
     injection hp with hp
     subst hp
     refine ⟨x,rfl,?_,?_⟩
     · split <;> rfl
     · split
       · exact .inr rfl
       · exact .inl rfl
 have hmix:∀(k:Nat) p,(P'.take j ++ y.Lps.drop j)[k]? =some p->∃x,y.Lps[k]? =some x/\p.Asp=x.Asp/\(p.Last=x.Last\/p.Last=y.Now):=fun k p hp=>by
   by_cases hk:k < j
   · rw[zJ (by simp;omega),List.getElem?_take,if_pos hk] at hp
     exact hPm k p hp
   · rw[zN (by simp;omega),List.getElem?_drop,zR,Nat.min_eq_left (by omega),show j+ (k - j) =k by omega] at hp
     exact ⟨p,hp,rfl, .inl rfl⟩
 have hwj:Ywf { y with Lps:=P'.take j ++ y.Lps.drop j } N:=by
   refine ⟨hw.chk,hw.pts,hw.gts,hml.trans hw.lps,hw.psts,hw.pst,hw.trs,hw.tr,hw.now,fun l hl=>?_,hw.left⟩
   obtain ⟨k,hk⟩:=List.mem_iff_getElem?.1 hl
   obtain ⟨x,hx,_,h2⟩:=hmix k l hk
   have:=hw.last x (zC hx)
   have:=hw.now
   omega
 have hsh:({ y with Lps:=P'.take j ++ y.Lps.drop j } :Yd).shows (j:Int) =y.shows (j:Int):=a_jh (fun k=>by
   cases hk:(P'.take j ++ y.Lps.drop j)[k]? with
   | none=>
     have:y.Lps[k]? =none:=by rw[List.getElem?_eq_none_iff] at hk ⊢;omega
     rw[this]
   | some p=>
     obtain ⟨x,hx,h1,_⟩:=hmix k p hk
     rw[hx];simp[h1]) _
 refine bcd (fun hlt=>?_) (fun hge=>?_)
 · have hlt:j < y.Lps.length:=by omega
   obtain ⟨x,hx⟩:=a_c (l:=y.Lps) (j:=j) hlt
   have hxm:(P'.take j ++ y.Lps.drop j)[j]? =some x:=(r_0 hPl hlt).trans hx
   have hPj:P'[j]? =some (if y.shows (j:Int)≠0 then { x with Last:=y.Now } else x):=by rw[<-hP,k_p,hx,Option.map_some,Int.zero_add]
   have hA:=hy.laAt hwj
   obtain ⟨z,hz⟩ :∃z,L.la=some z:=by
     cases hz:L.la with
     | none=>rw[h.lan hz] at hlt;cases hlt
     | some z=>exact ⟨z,rfl⟩
   have hla:s2 z.1= .live a_e (((P'.take j ++ y.Lps.drop j).map fun x=>Go.Fw.encI x.Last) ++ z.2):=hy.lists (x:=(z.1,_)) (zD _ (zD _ (zD _ (zD _ (zD _ (zE _ (by rw[hz];exact List.mem_singleton.2 rfl)))))))
   have hgm:(((P'.take j ++ y.Lps.drop j).map fun x=>Go.Fw.encI x.Last) ++ z.2)[j]? =some (Go.Fw.encI x.Last):=by
     rw[zJ (by rw[zB,hml];exact hlt)];exact a_g (f:=fun x:Lp=>Go.Fw.encI x.Last) hxm
   have hset:=r_4 (l:=y.Lps) hPl hPj
   have hdec:=a_v hlt
   refine (hy.shows hwj j).use ⟨_,rfl,?_⟩
   rw[hsh,a_i (by omega)]
   refine bcn (fun hne=>⟨trivial,_,_,_,rfl,_,a_d hy.row,_,rfl,trivial,_,_,_,rfl,_,a_d hy.row,y.Now,rfl,hA.idxK c_int rfl (by rw[zB,hml];exact hlt) ?_⟩) (fun he=>?_)
   · rw[zF]
     have hd:lsD L.la (P'.take j ++ y.Lps.drop j).length= .osl z.1 0 (P'.take j ++ y.Lps.drop j).length:=by rw[hz];rfl
     show a_k _ _ (lsD L.la (P'.take j ++ y.Lps.drop j).length) _ _ _
     rw[hd]
     refine b_m hla (by rw[hml];exact hlt) hgm (by simp[Go.Fw.encI]) fun s3 h3 o3=>⟨⟨j+1,rfl,hlt,?_⟩,hdec⟩
     rw[if_pos hne] at hset
     rw[<-hset]
     exact hy.putLa (by simp) (by rw[List.map_set];have q:=a_g (f:=fun x:Lp=>Go.Fw.encI x.Asp) hxm;exact f_q q) hz (by rw[h3,List.set_append_left _ _ (by rw[zB,hml];exact hlt),List.map_set];rfl) (.of o3)
   · rw[if_neg (by simpa using he),f_q hxm] at hset
     rw[hset] at hy
     exact ⟨⟨j+1,rfl,hlt,hy⟩,hdec⟩
 have e:j=y.Lps.length:=by omega
 subst e
 rw[<-hPl,zT,hPl,List.drop_length,zS] at hy
 exact ⟨rfl,hy⟩
end
end
section
variable {σ σ0:Store}
section
variable {s:Store} {id:Nat} {L:RL} {y:Yd} {fr:List (Nat × SO)} {N:Nat}
def a_sf (id:Nat)(F:Int × Int->Bool)(az:List A)(s:Store) :Prop:=∃k n:Int,az=[.one (pO id),iA k,iA n]/\∃(row:List D) (mp clk:Nat) (es:List Ent),s id= .live a_w [row]/\row[16]? =some (.omap mp)/\s mp= .mp clk es/\f_l prog j_k es/\∀k,∃n:Int,(b_e (n_4 k) es).getD (iA 0) =iA n/\(n == 1) =F k
theorem a_b6 (id:Nat)(F:Int × Int->Bool) :b_7 prog e_2 (a_sf id F) (r_7 id F):=by
 refine ⟨?_,?_,?_,?_,?_⟩
 · rintro az s ⟨k,n,rfl,row,mp,clk,es,h1,h2,h3,h4,h5⟩
   obtain ⟨m,hm,hb⟩:=h5 (k,n)
   refine w_7 (pO id) k n s _ ⟨trivial,_,_,_,rfl,_,a_d h1, .omap mp,c_8 h2,b_e (n_4 (k,n)) es,⟨by kernel_rfl, .inr ⟨mp,clk,es,rfl,h3,h4,rfl⟩⟩,m,hm,rfl,k,n,rfl,by rw[hb]⟩
 · rintro az s ⟨k,n,rfl,_⟩ hf
   exact ⟨.a (bA (F (k,n))),s,⟨rfl,k,n,rfl,rfl⟩,hf⟩
 · rintro az s r s' ⟨rfl,_⟩ hf;exact hf
 · rintro az s i so h0 hso ⟨k,n,rfl,row,mp,clk,es,h1,h2,h3,h4,h5⟩
   have g1:(s.set i so) id= .live a_w [row]:=e_t h1 (Ext.new h0 so)
   have g3:(s.set i so) mp= .mp clk es:=(Ext.new h0 so mp (by rw[h3];intro e;cases e)).trans h3
   refine ⟨⟨k,n,rfl,row,mp,clk,es,g1,h2,g3,h4,h5⟩,?_⟩
   rintro r s' ⟨rfl,hr⟩
   exact ⟨s,⟨rfl,hr⟩,h0,rfl⟩
 · rintro az s r s' _ ⟨rfl,_⟩ i hi
   rfl
theorem RyIn.fltp (h:RyIn s id L y fr)(k n:Int) :a_sf id y.Flt [.one (pO id),iA k,iA n] s:=⟨k,n,rfl,_,L.mp,L.clk,L.es,h.row,rfl,h.mp,h.keys,h.flt⟩
def a_v5 (az:List A)(s:Store) :Prop:=∃(x:Th) (b:Bool),az=[.agg x.enc,bA b]/\0<=x.Left/\x.Left<=2
def a_qu (az:List A)(s:Store)(r:RV)(s':Store) :Prop:=s'=s/\∃(x:Th) (b:Bool),az=[.agg x.enc,bA b]/\r= .a (.agg (x.tick b).enc)
theorem a_i6:b_7 prog i_f a_v5 a_qu:=by
 refine ⟨?_,?_,?_,?_,?_⟩
 · rintro az s ⟨x,b,rfl,hl⟩
   exact (a_il x hl b).use ⟨rfl,x,b,rfl,rfl⟩
 · rintro az s ⟨x,b,rfl,hl⟩ hf
   exact ⟨.a (.agg (x.tick b).enc),s,⟨rfl,x,b,rfl,rfl⟩,hf⟩
 · rintro az s r s' ⟨rfl,_⟩ hf;exact hf
 · rintro az s i so h0 hso ⟨x,b,rfl,hl⟩
   refine ⟨⟨x,b,rfl,hl⟩,?_⟩
   rintro r s' ⟨rfl,hr⟩
   exact ⟨s,⟨rfl,hr⟩,h0,rfl⟩
 · rintro az s r s' _ ⟨rfl,_⟩ i hi
   rfl
end
end
section
variable {σ σ0:Store}
section
variable {s:Store} {id:Nat} {L:RL} {y:Yd} {fr:List (Nat × SO)} {N:Nat}
theorem a_ut (h:RyIn s id L y fr)(hl:y.Pts.length < 2 ^ 60) :At prog s a_h (lsD L.pt y.Pts.length) (y.Pts.map Th.enc):=by
 have:=t_5 (P:=prog) (s:=s) (t:=a_h) (o:=L.pt) (rows:=y.Pts.map Th.enc) (fun x hx=>h.lists (zE _ hx)) (fun e=>by rw[h.ptn e];rfl) (by simpa using hl)
 rwa [zB] at this
theorem a_wc (h:RyIn s id L y fr)(hl:y.Gts.length < 2 ^ 60) :At prog s a_h (lsD L.gt y.Gts.length) (y.Gts.map Th.enc):=by
 have:=t_5 (P:=prog) (s:=s) (t:=a_h) (o:=L.gt) (rows:=y.Gts.map Th.enc) (fun x hx=>h.lists (zD _ (zE _ hx))) (fun e=>by rw[h.gtn e];rfl) (by simpa using hl)
 rwa [zB] at this
theorem RyIn.ptLive (h:RyIn s id L y fr){z:Nat × List (List D)}(hz:L.pt=some z) :s z.1= .live a_h (y.Pts.map Th.enc ++ z.2):=h.lists (x:=(z.1,_)) (zE _ (by rw[hz];exact List.mem_singleton.2 rfl))
theorem RyIn.gtLive (h:RyIn s id L y fr){z:Nat × List (List D)}(hz:L.gt=some z) :s z.1= .live a_h (y.Gts.map Th.enc ++ z.2):=h.lists (x:=(z.1,_)) (zD _ (zE _ (by rw[hz];exact List.mem_singleton.2 rfl)))
theorem RyIn.tick (h:RyIn s id L y fr)(hw:Ywf y N)(now:Int) :DCalls prog i_e [.one (pO id),iA now] s fun r s'=>r= .tup []/\RyIn s' id L (y.tick now) fr:=by
 have hcl:=c_m hw.chk
 have hpl:=hw.pts
 have hgl:=hw.gts
 have htick:y.tick now=if now<=y.Now then y else { y with Now:=now,Pts:=h_l (fun i=>y.Flt (3,i)) y.Pts 0,Gts:=h_l (fun i=>y.Flt (6,i)) y.Gts 0 } :=rfl
 refine y_x (pO id) now s _ ⟨trivial,_,_,_,rfl,_,a_d h.row,y.Now,rfl,bcd (fun hle=>?_) (fun hgt=>⟨trivial,_,_,_,rfl,b_h h.row (by simp[f_f]) fun s1 h1 o1=>?_⟩)⟩
 · rw[htick,if_pos hle];exact ⟨rfl,h⟩
 rw[htick,if_neg hgt]
 have hy1:RyIn s1 id L { y with Now:=now } fr:=h.putNow h1 (.of o1)
 generalize hP:h_l (fun i=>y.Flt (3,i)) y.Pts 0=P'
 generalize hG:h_l (fun i=>y.Flt (6,i)) y.Gts 0=G'
 have hPl:P'.length=y.Pts.length:=by rw[<-hP];exact i_2 _ _ _
 have hGl:G'.length=y.Gts.length:=by rw[<-hG];exact i_2 _ _ _
 have hw1:Ywf { y with Now:=y.Now } N:=hw
 refine ⟨trivial,_,_,_,rfl,_,a_d hy1.row,_,rfl,?_⟩
 have hA1:At prog s1 a_h (lsD L.pt y.Pts.length) (y.Pts.map Th.enc):=(by have q:=a_ut hy1 (by show y.Pts.length < _;omega);exact q)
 refine hA1.lenK ⟨fun n s'=>∃j:Nat,n=j/\j<=y.Pts.length/\RyIn s' id L { y with Now:=now,Pts:=P'.take j ++ y.Pts.drop j } fr,fun n _=>y.Pts.length - n.toNat,⟨0,rfl,by omega,by simpa using hy1⟩,?_⟩
 rintro _ s2 ⟨j,rfl,hj,hy⟩
 rw[zB]
 have hml:(P'.take j ++ y.Pts.drop j).length=y.Pts.length:=by simp;omega
 refine bcd (fun hlt=>?_) (fun hge=>?_)
 · have hlt:j < y.Pts.length:=by omega
   obtain ⟨x,hx⟩:=a_c (l:=y.Pts) (j:=j) hlt
   have hxm:(P'.take j ++ y.Pts.drop j)[j]? =some x:=(r_0 hPl hlt).trans hx
   have hA:At prog s2 a_h (lsD L.pt (P'.take j ++ y.Pts.drop j).length) ((P'.take j ++ y.Pts.drop j).map Th.enc):=(by have q:=a_ut hy (by show (P'.take j ++ y.Pts.drop j).length < _;omega);exact q)
   obtain ⟨z,hz⟩ :∃z,L.pt=some z:=by
     cases hz:L.pt with
     | none=>rw[h.ptn hz] at hlt;cases hlt
     | some z=>exact ⟨z,rfl⟩
   have hla:s2 z.1= .live a_h ((P'.take j ++ y.Pts.drop j).map Th.enc ++ z.2):=hy.ptLive hz
   have hgm:((P'.take j ++ y.Pts.drop j).map Th.enc ++ z.2)[j]? =some x.enc:=by
     rw[zJ (by rw[zB,hml];exact hlt)];exact a_g hxm
   refine ⟨a_sf id y.Flt,r_7 id y.Flt,a_b6 id y.Flt,a_v5,a_qu,a_i6,trivial,_,_,_,rfl,_,a_d hy.row,_,rfl,trivial,_,_,_,rfl,_,a_d hy.row,_,rfl,hA.load (a_g hxm) c_g rfl ⟨x.At,x.To,x.Left,rfl,hy.fltp 3 j,?_⟩⟩
   rintro r s3 ⟨rfl,k,n,he,rfl⟩
   have e1:k=3/\n=(j:Int):=by simp at he;exact ⟨he.1.symm,he.2.symm⟩
   obtain ⟨rfl,rfl⟩:=e1
   have hlx:=hw.left x (zE _ (zC hx))
   refine ⟨_,rfl,⟨x,_,rfl,hlx⟩,?_⟩
   rintro r s4 ⟨rfl,x',b',he,rfl⟩
   have e2:x'=x/\b'=y.Flt (3,(j:Int)):=by
     cases x;cases x'
     simp[Th.enc] at he
     obtain ⟨⟨q1,q2,q3⟩,q4⟩:=he
     subst q1;subst q2;subst q3;exact ⟨rfl,q4.symm⟩
   obtain ⟨rfl,rfl⟩:=e2
   refine ⟨_,_,_,rfl,hA.idxK c_g rfl (by rw[zB,hml];exact hlt) ?_⟩
   rw[zF]
   have hd:lsD L.pt (P'.take j ++ y.Pts.drop j).length= .osl z.1 0 (P'.take j ++ y.Pts.drop j).length:=by rw[hz];rfl
   show a_k _ _ (lsD L.pt (P'.take j ++ y.Pts.drop j).length) _ _ _
   rw[hd]
   refine b_m hla (by rw[hml];exact hlt) hgm (by simp[Th.enc]) fun s5 h5 o5=>?_
   rw[a_i (by omega)]
   refine ⟨⟨j+1,rfl,hlt,?_⟩,a_v hlt⟩
   have hy4:=hy.putP (l:=(P'.take j ++ y.Pts.drop j).set j (x'.tick (y.Flt (3,(j:Int))))) (by simp) hz (by rw[h5,List.set_append_left _ _ (by rw[zB,hml];exact hlt),List.map_set];rfl) (.of o5)
   rw[r_4 hPl (by rw[<-hP,i_x,hx,Option.map_some,Int.zero_add])] at hy4
   exact hy4
 have e:j=y.Pts.length:=by omega
 subst e
 rw[<-hPl,zT,hPl,List.drop_length,zS] at hy
 clear hml hge hj hA1 hy1 h1 o1
 have hA1:At prog s2 a_h (lsD L.gt y.Gts.length) (y.Gts.map Th.enc):=(by have q:=a_wc hy (by show y.Gts.length < _;omega);exact q)
 refine ⟨trivial,_,_,_,rfl,_,a_d hy.row,_,rfl,hA1.lenK ⟨fun n s'=>∃j:Nat,n=j/\j<=y.Gts.length/\RyIn s' id L { y with Now:=now,Pts:=P',Gts:=G'.take j ++ y.Gts.drop j } fr,fun n _=>y.Gts.length - n.toNat,⟨0,rfl,by omega,by simpa using hy⟩,?_⟩⟩
 clear hA1 hy s2 s1
 rintro _ s2 ⟨j,rfl,hj,hy⟩
 rw[zB]
 have hml:(G'.take j ++ y.Gts.drop j).length=y.Gts.length:=by simp;omega
 refine bcd (fun hlt=>?_) (fun hge=>?_)
 · have hlt:j < y.Gts.length:=by omega
   obtain ⟨x,hx⟩:=a_c (l:=y.Gts) (j:=j) hlt
   have hxm:(G'.take j ++ y.Gts.drop j)[j]? =some x:=(r_0 hGl hlt).trans hx
   have hA:At prog s2 a_h (lsD L.gt (G'.take j ++ y.Gts.drop j).length) ((G'.take j ++ y.Gts.drop j).map Th.enc):=(by have q:=a_wc hy (by show (G'.take j ++ y.Gts.drop j).length < _;omega);exact q)
   obtain ⟨z,hz⟩ :∃z,L.gt=some z:=by
     cases hz:L.gt with
     | none=>rw[h.gtn hz] at hlt;cases hlt
     | some z=>exact ⟨z,rfl⟩
   have hla:s2 z.1= .live a_h ((G'.take j ++ y.Gts.drop j).map Th.enc ++ z.2):=hy.gtLive hz
   have hgm:((G'.take j ++ y.Gts.drop j).map Th.enc ++ z.2)[j]? =some x.enc:=by
     rw[zJ (by rw[zB,hml];exact hlt)];exact a_g hxm
   refine ⟨a_sf id y.Flt,r_7 id y.Flt,a_b6 id y.Flt,a_v5,a_qu,a_i6,trivial,_,_,_,rfl,_,a_d hy.row,_,rfl,trivial,_,_,_,rfl,_,a_d hy.row,_,rfl,hA.load (a_g hxm) c_g rfl ⟨x.At,x.To,x.Left,rfl,hy.fltp 6 j,?_⟩⟩
   rintro r s3 ⟨rfl,k,n,he,rfl⟩
   have e1:k=6/\n=(j:Int):=by simp at he;exact ⟨he.1.symm,he.2.symm⟩
   obtain ⟨rfl,rfl⟩:=e1
   have hlx:=hw.left x (zD _ (zC hx))
   refine ⟨_,rfl,⟨x,_,rfl,hlx⟩,?_⟩
   rintro r s4 ⟨rfl,x',b',he,rfl⟩
   have e2:x'=x/\b'=y.Flt (6,(j:Int)):=by
     cases x;cases x'
     simp[Th.enc] at he
     obtain ⟨⟨q1,q2,q3⟩,q4⟩:=he
     subst q1;subst q2;subst q3;exact ⟨rfl,q4.symm⟩
   obtain ⟨rfl,rfl⟩:=e2
   refine ⟨_,_,_,rfl,hA.idxK c_g rfl (by rw[zB,hml];exact hlt) ?_⟩
   rw[zF]
   have hd:lsD L.gt (G'.take j ++ y.Gts.drop j).length= .osl z.1 0 (G'.take j ++ y.Gts.drop j).length:=by rw[hz];rfl
   show a_k _ _ (lsD L.gt (G'.take j ++ y.Gts.drop j).length) _ _ _
   rw[hd]
   refine b_m hla (by rw[hml];exact hlt) hgm (by simp[Th.enc]) fun s5 h5 o5=>?_
   rw[a_i (by omega)]
   refine ⟨⟨j+1,rfl,hlt,?_⟩,a_v hlt⟩
   have hy4:=hy.putG (l:=(G'.take j ++ y.Gts.drop j).set j (x'.tick (y.Flt (6,(j:Int))))) (by simp) hz (by rw[h5,List.set_append_left _ _ (by rw[zB,hml];exact hlt),List.map_set];rfl) (.of o5)
   rw[r_4 hGl (by rw[<-hG,i_x,hx,Option.map_some,Int.zero_add])] at hy4
   exact hy4
 have e:j=y.Gts.length:=by omega
 subst e
 rw[<-hGl,zT,hGl,List.drop_length,zS] at hy
 exact ⟨rfl,hy⟩
end
end
section
variable {σ σ0:Store}
section
variable {s:Store} {id:Nat} {L:RL} {y:Yd} {fr:List (Nat × SO)} {N:Nat}
theorem RyIn.putSt (h:RyIn s id L y fr){l:List Pst}(hl:l.length=y.Psts.length)(ha:(L.rs.zip l).map rrE=(L.rs.zip y.Psts).map rrE){x:Nat × List (List D)}(hx:L.st=some x){s':Store}(hs:s' x.1= .live a_e ((l.map fun x=>Go.Fw.encI x.Stamp) ++ x.2))(ho:Keep x.1 s s') :RyIn s' id L { y with Psts:=l } fr:=by
 refine ⟨?_,h.cfg,h.keys,h.flt,h.rsl.trans hl.symm,h.tkl,h.ptn,h.gtn,h.rcn,h.apn,fun e=>(by rw[hx] at e;cases e),h.lan,h.trn,h.nmn,fun e he=>?_⟩
 rotate_left
 · obtain ⟨k,hk⟩:=List.mem_iff_getElem?.1 he
   obtain ⟨hx1,hp1⟩:=List.getElem?_zip_eq_some.1 hk
   obtain ⟨p,hp⟩:=a_c (l:=y.Psts) (j:=k) (by rw[<-hl];exact (zA.1 hp1).1)
   have q:=congrArg (fun l=>l[k]?) ha
   simp only[zL,c_d hx1 hp1,c_d hx1 hp,Option.map_some] at q
   have hlast:e.2.R.Last=p.R.Last:=by
     unfold rrE at q
     simp only[Option.some.injEq,Prod.mk.injEq,true_and,SO.live.injEq,List.cons.injEq,D.int.injEq] at q
     exact q.1.2.2.1
   rw[hlast]
   exact h.num (e.1,p) (zC (c_d hx1 hp))
 have hh:=h.heap
 unfold c_9 e_1 at hh ⊢
 have hp:=z_7 (A:=c_l id L y ++ (lsE a_h L.pt (y.Pts.map Th.enc) ++ (lsE a_h L.gt (y.Gts.map Th.enc) ++ (lsE a_p L.rc (L.rs.map fun x=> [pO x.i]) ++ lsE a_e L.ap (y.Lps.map fun x=>Go.Fw.encI x.Asp))))) (by simpa only[zK] using hh) hx hs ho
 simp only[ha]
 have e:c_l id L { y with Psts:=l } =c_l id L y:=by unfold c_l f_f;simp only[hl]
 rw[e]
 simpa only[zK] using hp
theorem RyIn.putMp (h:RyIn s id L y fr){c':Nat}{es':List Ent}{F:Int × Int->Bool}{s':Store}(hs:s' L.mp= .mp c' es')(hk:f_l prog j_k es')(hf:∀k,∃n:Int,(b_e (n_4 k) es').getD (iA 0) =iA n/\(n == 1) =F k)(ho:Keep L.mp s s') :
   RyIn s' id { L with clk:=c',es:=es' } { y with Flt:=F } fr:=by
 have hp:=Heap.put (A:= []) (X:=c_l id L y) (B:=e_1 L y ++ ((L.rs.zip y.Psts).map rrE ++ ((L.rs.map fun x=>lsE a_e x.nm (x.ns.map Go.Fw.encI)).flatten ++ ((L.tk.zip y.Trs).map tkE ++ fr)))) (k:=1) h.heap rfl hs (by intro e;cases e) ho
 exact ⟨hp,h.cfg,hk,hf,h.rsl,h.tkl,h.ptn,h.gtn,h.rcn,h.apn,h.stn,h.lan,h.trn,h.nmn,h.num⟩
end
end
end Go.Proofs.YtaklhjodjbgmgaaGreat
