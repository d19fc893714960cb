/-
  Proofs that the statement of this claim leans on: part 4.
-/
import Derived.Test.YtfdffboelecgoaaGreatDoorP3
set_option linter.unusedVariables false
set_option linter.unusedSimpArgs false
section
set_option maxRecDepth 20000
namespace Go.Proofs.YtfdffboelecgoaaGreatDoor
open Go.Fw Go.Proofs Go.RowKit
open Go.Proofs.Tryz (prog)
variable {σ:Store}
theorem a_py (l:List (Int × Int × Int)) :∀row ∈ l.map encW,∀x ∈ row,Flat x:=by
 intro row hrow x hx
 obtain ⟨w,_,rfl⟩:=List.mem_map.1 hrow
 simp[encW] at hx
 rcases hx with rfl | rfl | rfl <;> exact .int _ _
def n_2 (σ:Store)(t:TypeId)(k:Int)(r:RV)(σ':Store) :Prop:=σ'=σ∧∃d,r= .a (.one d)∧∀s,At prog s t d ((h_1 k).map encW)
theorem k_t {t:TypeId}(hc:prog.cellsOf t=3){k:Int}{rows:List (List D)}{n:Nat}{id:Nat}{σ':Store}(hn:n=rows.length)(hl:rows.length < 100)(hid:σ id= .free)(he:Ext σ σ')(hs:σ' id= .live t rows)(hr:rows=(h_1 k).map encW) :
   ∃r' σ'',Ret prog σ σ' (.a (.one (.osl id 0 n))) σ'' r'∧n_2 σ t k r' σ'':=by
 have hat:At prog σ' t (.osl id 0 n) rows:=At.fresh hs (by omega) hn
 obtain ⟨d',h1,h2⟩:=a_ap hat he (v_6 hid) (by rw[hr];exact a_py _)
 exact ⟨.a (.one d'),σ, .pure he h1,rfl,d',rfl,fun s=>hr ▸ h2 s⟩
theorem s_p (k:Int) :DCalls prog j_y [iA k] σ (n_2 σ b_m k):=by
 refine (a_ex k σ _ ?_).ret (Q:=fun r s=>∃r' σ',Ret prog σ s r σ' r'∧n_2 σ b_m k r' σ') (fun r s h=>h)
 refine bce (fun h0=>a_f fun id σ' hid _ he hs=>?_) (fun h0=>bce (fun h1=>a_f fun id σ' hid _ he hs=>?_) (fun h1=>bce (fun h2=>a_f fun id σ' hid _ he hs=>?_) (fun h2=>?_)))
 · exact k_t i_6 rfl (by simp) hid he hs (by subst h0;rfl)
 · exact k_t i_6 rfl (by simp) hid he hs (by subst h1;rfl)
 · exact k_t i_6 rfl (by simp) hid he hs (by subst h2;rfl)
 · exact ⟨.a (.one .nils),σ, .pure (.refl _) .nils,rfl, .nils,rfl,fun s=>by simp[h_1,h0,h1,h2];exact .nil⟩
theorem y_2 (k:Int) :DCalls prog l_5 [iA k] σ (n_2 σ f_v k):=by
 refine (a_b1 k σ _ ?_).ret (Q:=fun r s=>∃r' σ',Ret prog σ s r σ' r'∧n_2 σ f_v k r' σ') (fun r s h=>h)
 refine bce (fun h0=>a_f fun id σ' hid _ he hs=>?_) (fun h0=>bce (fun h1=>a_f fun id σ' hid _ he hs=>?_) (fun h1=>bce (fun h2=>a_f fun id σ' hid _ he hs=>?_) (fun h2=>?_)))
 · exact k_t j_m rfl (by simp) hid he hs (by subst h0;rfl)
 · exact k_t j_m rfl (by simp) hid he hs (by subst h1;rfl)
 · exact k_t j_m rfl (by simp) hid he hs (by subst h2;rfl)
 · exact ⟨.a (.one .nils),σ, .pure (.refl _) .nils,rfl, .nils,rfl,fun s=>by simp[h_1,h0,h1,h2];exact .nil⟩
theorem x_b (k:Int) :(h_1 k).length < 2 ^ 60:=by unfold h_1;split <;> (try split) <;> (try split) <;> simp
theorem h_8 (k:Int) :Pure prog h_h [iA k] σ (.a (iA (a_x k))):=by
 refine a_dj k σ _ ((s_p k).mono ?_)
 rintro r σ' ⟨rfl,d,rfl,hd⟩
 refine ⟨d,rfl,(hd σ').lenK ⟨fun n m s=>s=σ'∧Rng (h_1 k) (fun r=>r.foldl l_7 n=a_x k) m,fun n m _=>(h_1 k).length - m.toNat,⟨rfl, .start (a_h9 k)⟩,?_⟩⟩
 rintro n m _ ⟨rfl,hr⟩
 refine bcd (fun hlt=>?_) (fun hge=>?_)
 · obtain ⟨j,x,rfl,hx,hj,hF,nx⟩:=hr.step (by simp) (x_b k) hlt
   refine (hd _).load (a_m hx) i_6 rfl ⟨x.1,x.2.1,x.2.2,rfl,by omega,by omega,by omega,by omega,m_t rfl (nx (fun r=>r.foldl l_7 (l_7 n x) =a_x k) hF)⟩
 · have:=hr.done (by simp) hge
   exact ⟨by rw[←this];rfl,rfl⟩
theorem y_1 (k:Int) :Pure prog l_p [iA k] σ (.a (iA (a_x k))):=by
 refine a_at k σ _ ((y_2 k).mono ?_)
 rintro r σ' ⟨rfl,d,rfl,hd⟩
 refine ⟨d,rfl,(hd σ').lenK ⟨fun n m s=>s=σ'∧Rng (h_1 k) (fun r=>r.foldl l_7 n=a_x k) m,fun n m _=>(h_1 k).length - m.toNat,⟨rfl, .start (a_h9 k)⟩,?_⟩⟩
 rintro n m _ ⟨rfl,hr⟩
 refine bcd (fun hlt=>?_) (fun hge=>?_)
 · obtain ⟨j,x,rfl,hx,hj,hF,nx⟩:=hr.step (by simp) (x_b k) hlt
   refine (hd _).load (a_m hx) j_m rfl ⟨x.1,x.2.1,x.2.2,rfl,m_t rfl (nx (fun r=>r.foldl l_7 (l_7 n x) =a_x k) hF)⟩
 · have:=hr.done (by simp) hge
   exact ⟨by rw[←this];rfl,rfl⟩
theorem d_8 (n lo hi:Int) :Pure prog c_5 [iA n,iA lo,iA hi] σ (.a (bA (decide (lo≤n∧n≤hi)))):=by
 refine y_b n lo hi σ _ (bcd (fun h=>⟨?_,rfl⟩) (fun h=>⟨?_,rfl⟩))
 · simp[h]
 · simp[h]
theorem e_w {d:D}{js:List Jt}(s e:Int)(h:At prog σ b_v d (js.map Jt.enc)) :Pure prog e_v [.one d,iA s,iA e] σ (opt2 (nxt js s e)):=by
 have hl:=h.size
 rw[List.length_map] at hl
 refine a_c2 d s e σ _ (h.lenK ⟨fun n σ'=>σ'=σ∧Rng js (fun r=>nxt r s e=nxt js s e) n,fun n _=>js.length - n.toNat,⟨rfl, .start rfl⟩,?_⟩)
 rintro n σ' ⟨rfl,hr⟩
 refine bcd (fun hlt=>?_) (fun hge=>?_)
 · obtain ⟨j,x,rfl,hx,hj,hF,nx⟩:=hr.step (by simp) hl hlt
   refine h.load (a_m hx) d_3 rfl ⟨x.A,x.AEnd,x.B,x.BEnd,rfl,?_⟩
   rw[nxt] at hF
   repeat' (first | refine bce (fun _=>?_) (fun _=>?_))
   all_goals first
     | exact ⟨by rw[←hF];simp[*,opt2],rfl⟩
     | exact m_t rfl (nx (fun r=>nxt r s e=nxt js s e) (by simpa[*] using hF))
 · exact ⟨by rw[←hr.done (by simp) hge];rfl,rfl⟩
theorem h_z {d:D}{l:List Int}(v:Int)(h:At prog σ t_int d (l.map Go.Fw.encI)) :Pure prog d_6 [.one d,iA v] σ (.a (iA (i_4 l v 0))):=by
 have hl:=h.size
 rw[List.length_map] at hl
 refine q_4 d v σ _ (h.lenK ⟨fun n σ'=>σ'=σ∧Rng l (fun r=>(∀j:Nat,n=j→i_4 r v j=i_4 l v 0)) n,fun n _=>l.length - n.toNat,⟨rfl, .start fun j hj=>by cases j with | zero=>rfl | succ j=>omega⟩,?_⟩)
 rintro n σ' ⟨rfl,hr⟩
 refine bcd (fun hlt=>?_) (fun hge=>?_)
 · obtain ⟨j,x,rfl,hx,hj,hF,nx⟩:=hr.step (by simp) hl hlt
   refine h.load (a_m hx) c_int rfl ⟨x,rfl,?_⟩
   have hF:=hF j rfl
   rw[i_4] at hF
   refine bce (fun _=>?_) (fun _=>?_)
   · exact ⟨by rw[←hF];simp[*],rfl⟩
   · refine m_t rfl (nx _ fun j' hj'=>?_)
     rw[a_g (by omega)] at hj'
     obtain rfl:j'=j+1:=by omega
     rw[if_neg (fun e=>by simp_all)] at hF
     exact hF
 · refine ⟨?_,rfl⟩
   obtain ⟨j,hj,hj2,hF⟩:=hr
   have hF:=hF j hj
   rw[e_u (by simp at hge;omega)] at hF
   rw[←hF];rfl
theorem p_3 {W:World}{cs:Array Value}{t:TypeId}{j:Nat}{v:Value}(h:cs[j]? =some v) :(W.alloc (.cells cs t)).cell? ⟨W.heap.size,j,none⟩ =some v:=by
 unfold World.cell?
 rw[(MapKept.heap_alloc W _).1]
 exact h
theorem a_aq (a b p e:Int)(W:World)(hgl:Gl prog (j_e W) W) :Calls prog d_6 #[.slice (some ⟨W.heap.size,0,none⟩) 2 2, .int .i64 e] (W.alloc (.cells #[.int .i64 a, .int .i64 b, .int .i64 p] b_m)) fun r W'=>
   r= .returned (.int .i64 (i_4 [a,b] e 0))∧Below (W.heap.size+1) (W.alloc (.cells #[.int .i64 a, .int .i64 b, .int .i64 p] b_m)) W':=by
 have hsz:(W.alloc (.cells #[.int .i64 a, .int .i64 b, .int .i64 p] b_m)).heap.size=W.heap.size+1:=Array.size_push _
 have hA:At prog noS t_int (.sl 1 [[iD a],[iD b]]) ([a,b].map Go.Fw.encI):=⟨⟨rfl, .inr c_int.symm⟩,by simp,fun es rows e=>by injection e with e1 _;rw[←e1,c_int]⟩
 have hcell:∀j v,#[Value.int .i64 a, .int .i64 b, .int .i64 p][j]? =some v→(W.alloc (.cells #[.int .i64 a, .int .i64 b, .int .i64 p] b_m)).cell? ⟨W.heap.size,j,none⟩ =some v:=fun j v h=>p_3 h
 have hV:V (j_e (W.alloc (.cells #[.int .i64 a, .int .i64 b, .int .i64 p] b_m))) noB (W.alloc (.cells #[.int .i64 a, .int .i64 b, .int .i64 p] b_m)) (.slice (some ⟨W.heap.size,0,none⟩) 2 2) (.sl 1 [[iD a],[iD b]]):=by
   have key:∀(i:Nat) row (j:Nat) d,([[iD a],[iD b]]:List (List D))[i]? =some row→row[j]? =some d→(i=0∧j=0∧row=[iD a]∧d=iD a)∨(i=1∧j=0∧row=[iD b]∧d=iD b):=by
     intro i row j d h1 h2
     rcases i with _ | _ | i
     · simp at h1;subst h1
       rcases j with _ | j
       · simp at h2;exact .inl ⟨rfl,rfl,rfl,h2.symm⟩
       · simp at h2
     · simp at h1;subst h1
       rcases j with _ | j
       · simp at h2;exact .inr ⟨rfl,rfl,rfl,h2.symm⟩
       · simp at h2
     · simp at h1
   refine V.sl ⟨W.heap.size,0,none⟩ 2 2 1 _ (fun i j=>if i=0 then .int .i64 a else .int .i64 b) (fun _=>⟨by show W.heap.size < _;rw[hsz];omega,rfl⟩) rfl (by omega) (fun i row h=>?_) (fun i row j d h hj=>?_) (fun i row j d h hj=>?_)
   · rcases i with _ | _ | i
     · simp at h;subst h;rfl
     · simp at h;subst h;rfl
     · simp at h
   · rcases key i row j d h hj with ⟨rfl,rfl,rfl,rfl⟩ | ⟨rfl,rfl,rfl,rfl⟩
     · exact hcell 0 _ rfl
     · exact hcell 1 _ rfl
   · rcases key i row j d h hj with ⟨rfl,rfl,rfl,rfl⟩ | ⟨rfl,rfl,rfl,rfl⟩
     · exact V.int _ _
     · exact V.int _ _
 have hc:=(h_z e hA).2 (j_e _) noB (W.alloc (.cells #[.int .i64 a, .int .i64 b, .int .i64 p] b_m)) #[.slice (some ⟨W.heap.size,0,none⟩) 2 2, .int .i64 e] (a_om (hgl.mono (fun x hx=>Nat.lt_of_lt_of_le hx (Grow.push W (.cells #[.int .i64 a, .int .i64 b, .int .i64 p] b_m)).size) fun x hx=>(Grow.push W (.cells #[.int .i64 a, .int .i64 b, .int .i64 p] b_m)).block x hx)) rfl (by
   intro i v x hv hx
   rcases i with _ | _ | i
   · simp at hv hx
     subst hv hx
     exact hV
   · simp at hv hx
     subst hv hx
     exact V.int _ _
   · simp at hv)
 refine hc.mono fun r W' ⟨v,rr,σ',k',β',q1,⟨q2,_⟩,q3,_,_,q6⟩=>?_
 subst q2
 have hv:=V.inv_int q3
 subst hv
 exact ⟨q1,q6.os,q6.tape,q6.output,q6.size,fun b hb=>q6.block b (by rw[hsz];exact hb) (fun i bi hi=>by cases hi)⟩
theorem u_7 (a b p e:Int)(W:World)(hgl:Gl prog (j_e W) W) :Calls prog g_2 #[.agg #[.int .i64 a, .int .i64 b, .int .i64 p], .int .i64 e] W fun r W'=>
   r= .returned (if e=a then .tuple #[.int .i64 b, .bool true] else if e=b then .tuple #[.int .i64 a, .bool true] else .tuple #[.int .i64 0, .bool false])∧Below W.heap.size W W':=by
 have hI:=a_aq a b p e W hgl
 clear hgl
 have fin:∀W',Below (W.heap.size+1) (W.alloc (.cells #[.int .i64 a, .int .i64 b, .int .i64 p] b_m)) W'→Below W.heap.size W W':=fun W' hb=>
   ((Below.refl _ _).alloc (Nat.le_refl _) _).trans (hb.mono (by omega))
 have cells : ∀ W', Below (W.heap.size + 1) (W.alloc (.cells #[.int .i64 a, .int .i64 b, .int .i64 p] b_m)) W' →
     W'.cell? ⟨W.heap.size,0,none⟩ =some (.int .i64 a)∧W'.cell? ⟨W.heap.size,1,none⟩ =some (.int .i64 b):=fun W' hb=>by
   exact ⟨(hb.cell (p:=⟨W.heap.size,0,none⟩) (Nat.lt_succ_self _)).trans (p_3 rfl),(hb.cell (p:=⟨W.heap.size,1,none⟩) (Nat.lt_succ_self _)).trans (p_3 rfl)⟩
 by_cases h0:e=a
 · subst h0
   rw[show i_4 [e,b] e 0=0 by simp[i_4]] at hI
   rw[if_pos rfl]
   go_enter Tryz.func72,Tryz.ntmps72
   go_wp2_with fail
   refine hI.mono ?_
   rintro r W' ⟨rfl,hb⟩
   obtain ⟨c0,c1⟩:=cells W' hb
   have hf:=fin W' hb
   clear cells fin hI hb
   go_wp2
   go_ret2
   exact ⟨rfl,hf⟩
 · by_cases h1:e=b
   · subst h1
     rw[show i_4 [a,e] e 0=1 by simp[i_4,h0]] at hI
     rw[if_neg h0,if_pos rfl]
     go_enter Tryz.func72,Tryz.ntmps72
     go_wp2_with fail
     refine hI.mono ?_
     rintro r W' ⟨rfl,hb⟩
     obtain ⟨c0,c1⟩:=cells W' hb
     have hf:=fin W' hb
     clear cells fin hI hb
     go_wp2
     go_ret2
     exact ⟨rfl,hf⟩
   · rw[show i_4 [a,b] e 0= -1 by simp[i_4,h0,h1]] at hI
     rw[if_neg h0,if_neg h1]
     go_enter Tryz.func72,Tryz.ntmps72
     go_wp2_with fail
     refine hI.mono ?_
     rintro r W' ⟨rfl,hb⟩
     have hf:=fin W' hb
     clear cells fin hI hb
     go_wp2
     go_ret2
     exact ⟨rfl,hf⟩
theorem a_cu (a b p e:Int) :Pure prog g_2 [.agg [iD a,iD b,iD p],iA e] σ (opt1 (if e=a then some b else if e=b then some a else none)):=by
 refine ⟨by kernel_rfl,fun k β W vs hS hsz hv=>?_⟩
 have hvs:vs= #[.agg #[.int .i64 a, .int .i64 b, .int .i64 p], .int .i64 e]:=by
   have h0:=hv 0 (vs.getD 0 undef) _ (by simp at hsz;simp[hsz]) rfl
   have h1:=hv 1 (vs.getD 1 undef) _ (by simp at hsz;simp[hsz]) rfl
   obtain ⟨us,e0,hu⟩:=h0
   have e1:=V.inv_int h1
   have hus:us= #[.int .i64 a, .int .i64 b, .int .i64 p]:=by
     apply Array.ext'
     exact a_ew hu rfl
   apply Array.ext
   · simpa using hsz
   · intro i h1 h2
     simp at hsz
     match i,h1 with
     | 0,_=>simp[hsz] at e0;simp[e0,hus]
     | 1,_=>simp[hsz] at e1;simp[e1]
     | i+2,h=>omega
 subst hvs
 refine (u_7 a b p e W (hS.gl.mono hS.klt fun _ _=>rfl)).mono fun r W' ⟨h1,h2⟩=>?_
 have hg:Grow W W':=⟨h2.os,h2.tape,h2.output,h2.size,h2.block⟩
 have tup:∀(x:Int) (c:Bool),VR k β W' (.tuple #[.int .i64 x, .bool c]) (.tup [iA x,bA c]):=fun x c=>tup2 (v:=iA x) (V.int _ _)
 refine ⟨_,_,σ,k,β,h1,⟨rfl,rfl⟩,?_,hS.grow hg,Ghost.refl _ _ _ _,hg.frm _ _⟩
 by_cases h0:e=a
 · simp only[h0,if_true];exact tup _ _
 · by_cases h1:e=b
   · simp only[h0,h1,if_false,if_true];split <;> exact tup _ _
   · simp only[h0,h1,if_false];exact tup _ _
theorem a_eq (k i o:Int) :Pure prog q_7 [iA k,iA i,iA o] σ (opt1 (r_c (h_1 k) i o)):=by
 refine a_hl k i o σ _ ((s_p k).mono ?_)
 rintro r σ' ⟨rfl,d,rfl,hd⟩
 refine ⟨d,rfl,(hd σ').lenK ⟨fun m s=>s=σ'∧Rng (h_1 k) (fun r=>r_c r i o=r_c (h_1 k) i o) m,fun m _=>(h_1 k).length - m.toNat,⟨rfl, .start rfl⟩,?_⟩⟩
 rintro m _ ⟨rfl,hr⟩
 refine bcd (fun hlt=>?_) (fun hge=>?_)
 · obtain ⟨j,x,rfl,hx,hj,hF,nx⟩:=hr.step (by simp) (x_b k) hlt
   refine (hd _).load (a_m hx) i_6 rfl ⟨x.1,x.2.1,x.2.2,rfl,(a_cu _ _ _ _).use ?_⟩
   have hne:x.1≠x.2.1:=by
     have hm:=List.mem_of_getElem? hx
     unfold h_1 at hm
     split at hm
     · simp at hm;subst hm;decide
     · split at hm
       · simp at hm;rcases hm with rfl | rfl <;> decide
       · split at hm
         · simp at hm;rcases hm with rfl | rfl <;> decide
         · cases hm
   rw[r_c] at hF
   by_cases h0:i=x.1
   · subst h0
     refine ⟨x.2.1,true,by simp[opt1],?_⟩
     refine bce (fun h1=>?_) (fun h1=>?_)
     · exact ⟨by rw[←hF];simp[*,opt1],rfl⟩
     · exact m_t rfl (nx (fun r=>r_c r x.1 o=r_c (h_1 k) x.1 o) (by rw[if_neg (by rintro (⟨_,h⟩ | ⟨h,_⟩);exact h1 h;exact hne h.symm)] at hF;exact hF))
   · by_cases h1:i=x.2.1
     · subst h1
       refine ⟨x.1,true,by simp[opt1,h0],?_⟩
       refine bce (fun h1=>?_) (fun h1=>?_)
       · exact ⟨by rw[←hF];simp[*,opt1],rfl⟩
       · exact m_t rfl (nx (fun r=>r_c r x.2.1 o=r_c (h_1 k) x.2.1 o) (by rw[if_neg (by rintro (⟨h,_⟩ | ⟨_,h⟩);exact hne h;exact h1 h)] at hF;exact hF))
     · refine ⟨0,false,by simp[opt1,h0,h1],?_⟩
       exact m_t rfl (nx (fun r=>r_c r i o=r_c (h_1 k) i o) (by rw[if_neg (by rintro (⟨h,_⟩ | ⟨h,_⟩);exact h0 h.symm;exact h1 h.symm)] at hF;exact hF))
 · have:=hr.done (by simp) hge
   exact ⟨by rw[←this];rfl,rfl⟩
theorem p_r {d:D}{js:List Jt}(s e:Int)(h:At prog σ b_v d (js.map Jt.enc)) :Pure prog i_b [.one d,iA s,iA e] σ (opt2 (nxt js s e)):=by
 have hl:=h.size
 rw[List.length_map] at hl
 refine a_bl d s e σ _ (h.lenK ⟨fun n σ'=>σ'=σ∧Rng js (fun r=>nxt r s e=nxt js s e) n,fun n _=>js.length - n.toNat,⟨rfl, .start rfl⟩,?_⟩)
 rintro n σ' ⟨rfl,hr⟩
 refine bcd (fun hlt=>?_) (fun hge=>?_)
 · obtain ⟨j,x,rfl,hx,hj,hF,nx⟩:=hr.step (by simp) hl hlt
   refine h.load (a_m hx) d_3 rfl ⟨x.A,x.AEnd,x.B,x.BEnd,rfl,?_⟩
   rw[nxt] at hF
   repeat' (first | refine bce (fun _=>?_) (fun _=>?_))
   all_goals first
     | exact ⟨by rw[←hF];simp[*,opt2],rfl⟩
     | exact m_t rfl (nx (fun r=>nxt r s e=nxt js s e) (by simpa[*] using hF))
 · exact ⟨by rw[←hr.done (by simp) hge];rfl,rfl⟩
end Go.Proofs.YtfdffboelecgoaaGreatDoor
end
namespace Go.Fw
section
def b_4 (js:List Jt) :List (Int × Int):=js.flatMap Jt.spots
theorem w_d (secs:List Sec) :∀(l tk tk':List (Int × Int)),q_t secs l tk=some tk'↔(∀p ∈ l,i_y secs p=true)∧l.Nodup∧(∀p ∈ l,p ∉ tk)∧tk'=l.reverse ++ tk
 | [],tk,tk'=>by simp[q_t];exact eq_comm
 | p::r,tk,tk'=>by
   rw[q_t]
   by_cases h:i_y secs p=true∧p ∉ tk
   · rw[if_pos h,w_d secs r (p::tk) tk']
     simp only[List.mem_cons,forall_eq_or_imp,List.nodup_cons,List.reverse_cons,List.append_assoc,List.singleton_append]
     constructor
     · rintro ⟨h1,h2,h3,h4⟩
       exact ⟨⟨h.1,h1⟩,⟨fun hp=>(h3 p hp) (.inl rfl),h2⟩,⟨h.2,fun q hq hqt=>h3 q hq (.inr hqt)⟩,h4⟩
     · rintro ⟨⟨_,h1⟩,⟨h2,h3⟩,⟨_,h4⟩,h5⟩
       exact ⟨h1,h3,fun q hq hqt=>hqt.elim (fun e=>h2 (e ▸ hq)) (h4 q hq),h5⟩
   · rw[if_neg h]
     simp only[List.mem_cons,forall_eq_or_imp]
     constructor
     · intro h';cases h'
     · rintro ⟨⟨h1,_⟩,_,⟨h2,_⟩,_⟩;exact absurd ⟨h1,h2⟩ h
theorem w_3 (secs:List Sec) :∀(js:List Jt) (tk tk':List (Int × Int)),q_b secs js tk=some tk'↔
   (∀p ∈ b_4 js,i_y secs p=true)∧(b_4 js).Nodup∧(∀p ∈ b_4 js,p ∉ tk)∧(∀j ∈ js,j.A≠j.B)∧tk'=(b_4 js).reverse ++ tk
 | [],tk,tk'=>by simp[q_b,b_4];exact eq_comm
 | j::r,tk,tk'=>by
   rw[q_b]
   have hall:b_4 (j::r) =j.spots ++ b_4 r:=by simp[b_4]
   rw[hall]
   cases hp:q_t secs j.spots tk with
   | none=>
     have hno:¬∃t,q_t secs j.spots tk=some t:=by rw[hp];rintro ⟨t,h⟩;cases h
     constructor
     · intro h;cases h
     · rintro ⟨h1,h2,h3,_,_⟩
       exact absurd ⟨_,(w_d secs j.spots tk _).2 ⟨fun p hp=>h1 p (List.mem_append_left _ hp),(List.nodup_append.1 h2).1,fun p hp=>h3 p (List.mem_append_left _ hp),rfl⟩⟩ hno
   | some t=>
     obtain ⟨a1,a2,a3,a4⟩:=(w_d secs j.spots tk t).1 hp
     by_cases hAB:j.A=j.B
     · simp only[hAB,if_true]
       constructor
       · intro h;cases h
       · rintro ⟨_,_,_,h4,_⟩;exact absurd hAB (h4 j (by simp))
     · simp only[hAB,if_false]
       rw[w_3 secs r t tk',a4]
       constructor
       · rintro ⟨h1,h2,h3,h4,h5⟩
         refine ⟨fun p hp=>(List.mem_append.1 hp).elim (a1 p) (h1 p),List.nodup_append.2 ⟨a2,h2,fun a ha b hb e=>?_⟩,fun p hp=>(List.mem_append.1 hp).elim (a3 p) (fun hp ht=>h3 p hp (by simp[ht])),fun x hx=>?_,by rw[h5];simp⟩
         · subst e;exact h3 a hb (by simp[ha])
         · rcases List.mem_cons.1 hx with rfl | hx
           · exact hAB
           · exact h4 x hx
       · rintro ⟨h1,h2,h3,h4,h5⟩
         obtain ⟨b1,b2,b3⟩:=List.nodup_append.1 h2
         refine ⟨fun p hp=>h1 p (List.mem_append_right _ hp),b2,fun p hp ht=>?_,fun x hx=>h4 x (List.mem_cons_of_mem _ hx),by rw[h5];simp⟩
         rcases List.mem_append.1 ht with ht | ht
         · exact b3 p (by simpa using ht) p hp rfl
         · exact h3 p (List.mem_append_right _ hp) ht
theorem i_h (s e:Int) :∀js:List Jt,cnt js s e=((b_4 js).count (s,e) :Int)
 | []=>by simp[cnt,b_4]
 | j::r=>by
   have hall:b_4 (j::r) =(j.A,j.AEnd) :: (j.B,j.BEnd) ::b_4 r:=by simp[b_4,Jt.spots]
   rw[hall,cnt,i_h s e r,List.count_cons,List.count_cons]
   simp only[beq_iff_eq,Prod.mk.injEq]
   split <;> split <;> omega
theorem s_y (tk:List (Int × Int)) :∀(secs:List Sec) (i:Int) (ls:List Int),p_0 tk secs i ls=true↔
   ∀(k:Nat) s,secs[k]? =some s→a_x s.Kind≠0∧(0≤s.OC∧s.OC≤3)∧(0≤s.Line∧s.Line≤3)∧(s.Line≠0→s.Kind=0∧(i+k,1) ∉ tk∧s.Line ∉ ls∧∀k' s',k' < k→secs[k']? =some s'→s'.Line≠s.Line)
 | [],i,ls=>by simp[p_0]
 | x::r,i,ls=>by
   rw[p_0]
   by_cases hc:a_x x.Kind=0∨¬(0≤x.OC∧x.OC≤3)∨¬(0≤x.Line∧x.Line≤3)∨x.Line≠0∧(x.Kind≠0∨(i,1) ∈ tk∨x.Line ∈ ls)
   · rw[if_pos hc]
     constructor
     · intro h;cases h
     · intro h
       obtain ⟨h1,h2,h3,h4⟩:=h 0 x rfl
       rcases hc with hc | hc | hc | ⟨hc,hd⟩
       · exact absurd hc h1
       · exact absurd h2 hc
       · exact absurd h3 hc
       · obtain ⟨g1,g2,g3,_⟩:=h4 hc
         rcases hd with hd | hd | hd
         · exact absurd g1 hd
         · exact absurd hd (by simpa using g2)
         · exact absurd hd g3
   · rw[if_neg hc,s_y tk r (i+1) (x.Line::ls)]
     have hx:a_x x.Kind≠0∧(0≤x.OC∧x.OC≤3)∧(0≤x.Line∧x.Line≤3)∧(x.Line≠0→x.Kind=0∧(i,1) ∉ tk∧x.Line ∉ ls):=by
       refine ⟨fun h=>hc (.inl h),Classical.not_not.1 fun h=>hc (.inr (.inl h)),Classical.not_not.1 fun h=>hc (.inr (.inr (.inl h))),fun hl=>⟨Classical.not_not.1 fun h=>hc (.inr (.inr (.inr ⟨hl, .inl h⟩))),fun h=>hc (.inr (.inr (.inr ⟨hl, .inr (.inl h)⟩))),fun h=>hc (.inr (.inr (.inr ⟨hl, .inr (.inr h)⟩)))⟩⟩
     constructor
     · intro h k s hk
       cases k with
       | zero=>
         simp at hk;subst hk
         exact ⟨hx.1,hx.2.1,hx.2.2.1,fun hl=>by
           obtain ⟨a,b,c⟩:=hx.2.2.2 hl
           exact ⟨a,by simpa using b,c,fun k' s' hk'=>by omega⟩⟩
       | succ k=>
         obtain ⟨h1,h2,h3,h4⟩:=h k s (by simpa using hk)
         refine ⟨h1,h2,h3,fun hl=>?_⟩
         obtain ⟨a,b,c,d⟩:=h4 hl
         refine ⟨a,by rw[show i+ ((k+1:Nat) :Int) =i+1+k by omega];exact b,fun hm=>c (by simp[hm]),fun k' s' hk' hs'=>?_⟩
         cases k' with
         | zero=>simp at hs';subst hs';exact fun e=>c (by simp[e])
         | succ k'=>exact d k' s' (by omega) (by simpa using hs')
     · intro h k s hk
       obtain ⟨h1,h2,h3,h4⟩:=h (k+1) s (by simpa using hk)
       refine ⟨h1,h2,h3,fun hl=>?_⟩
       obtain ⟨a,b,c,d⟩:=h4 hl
       refine ⟨a,by rw[show i+1+ (k:Int) =i+ ((k+1:Nat) :Int) by omega];exact b,fun hm=>?_,fun k' s' hk' hs'=>d (k'+1) s' (by omega) (by simpa using hs')⟩
       rcases List.mem_cons.1 hm with hm | hm
       · exact d 0 x (by omega) rfl hm.symm
       · exact c hm
def a_pt (secs:List Sec)(js:List Jt)(k:Nat)(s:Sec) :Prop:=
 a_x s.Kind≠0∧(0≤s.OC∧s.OC≤3)∧(0≤s.Line∧s.Line≤3)∧(s.Line≠0→s.Kind=0∧cnt js k 1≤0∧∀k' s',k' < k→secs[k']? =some s'→s'.Line≠s.Line)
def jtOk (secs:List Sec)(js:List Jt)(j:Jt) :Prop:=
 (0≤j.A∧j.A < secs.length)∧(0≤j.B∧j.B < secs.length)∧j.A≠j.B∧(0≤j.AEnd∧j.AEnd < a_x (n_b secs j.A))∧(0≤j.BEnd∧j.BEnd < a_x (n_b secs j.B))∧cnt js j.A j.AEnd≤1∧cnt js j.B j.BEnd≤1
theorem l_j (secs:List Sec)(p:Int × Int) :i_y secs p=true↔(0≤p.1∧p.1 < secs.length)∧(0≤p.2∧p.2 < a_x (n_b secs p.1)):=by
 simp only[i_y,Bool.and_eq_true,decide_eq_true_eq];omega
theorem mem_spots {js:List Jt}{p:Int × Int} :p ∈ b_4 js↔∃j ∈ js,p=(j.A,j.AEnd)∨p=(j.B,j.BEnd):=by
 simp[b_4,Jt.spots]
theorem a_hf (secs:List Sec)(js:List Jt) :d_z secs js=true↔
   (1≤secs.length∧secs.length≤16∧js.length≤24)∧(∀(k:Nat) s,secs[k]? =some s→a_pt secs js k s)∧∀j ∈ js,jtOk secs js j:=by
 simp only[d_z,Bool.and_eq_true,decide_eq_true_eq]
 refine and_congr_right fun _=>?_
 have hnd:(b_4 js).Nodup↔∀j ∈ js,cnt js j.A j.AEnd≤1∧cnt js j.B j.BEnd≤1:=by
   rw[List.nodup_iff_count]
   constructor
   · intro h j _
     rw[i_h,i_h]
     have h1:=h (j.A,j.AEnd)
     have h2:=h (j.B,j.BEnd)
     omega
   · intro h p
     by_cases hp:p ∈ b_4 js
     · obtain ⟨j,hj,rfl | rfl⟩:=mem_spots.1 hp
       · have:=(h j hj).1;rw[i_h] at this;omega
       · have:=(h j hj).2;rw[i_h] at this;omega
     · rw[List.count_eq_zero_of_not_mem hp];omega
 have hsp:(∀p ∈ b_4 js,i_y secs p=true)↔∀j ∈ js,((0≤j.A∧j.A < secs.length)∧(0≤j.AEnd∧j.AEnd < a_x (n_b secs j.A)))∧((0≤j.B∧j.B < secs.length)∧(0≤j.BEnd∧j.BEnd < a_x (n_b secs j.B))):=by
   constructor
   · intro h j hj
     exact ⟨(l_j _ _).1 (h (j.A,j.AEnd) (mem_spots.2 ⟨j,hj, .inl rfl⟩)),(l_j _ _).1 (h (j.B,j.BEnd) (mem_spots.2 ⟨j,hj, .inr rfl⟩))⟩
   · intro h p hp
     obtain ⟨j,hj,rfl | rfl⟩:=mem_spots.1 hp
     · exact (l_j _ _).2 (h j hj).1
     · exact (l_j _ _).2 (h j hj).2
 have hcz:∀k:Nat,cnt js k 1≤0↔((k:Int),(1:Int)) ∉ (b_4 js).reverse ++ []:=fun k=>by
   rw[i_h,List.append_nil,List.mem_reverse,←List.count_eq_zero];omega
 constructor
 · intro h
   cases hj:q_b secs js [] with
   | none=>rw[hj] at h;cases h
   | some tk=>
     rw[hj] at h
     obtain ⟨h1,h2,_,h4,rfl⟩:=(w_3 secs js [] tk).1 hj
     have h5:=(s_y _ secs 0 []).1 h
     refine ⟨fun k s hk=>?_,fun j hj=>?_⟩
     · obtain ⟨a,b,c,d⟩:=h5 k s hk
       refine ⟨a,b,c,fun hl=>?_⟩
       obtain ⟨d1,d2,_,d4⟩:=d hl
       exact ⟨d1,(hcz k).2 (by simpa using d2),d4⟩
     · obtain ⟨⟨a1,a2⟩,b1,b2⟩:=hsp.1 h1 j hj
       exact ⟨a1,b1,h4 j hj,a2,b2,hnd.1 h2 j hj⟩
 · rintro ⟨h1,h2⟩
   have hj:q_b secs js []=some ((b_4 js).reverse ++ []):=(w_3 secs js [] _).2 ⟨hsp.2 fun j hj=>by obtain ⟨a,b,c,d,e,f⟩:=h2 j hj;exact ⟨⟨a,d⟩,b,e⟩,hnd.2 fun j hj=>(h2 j hj).2.2.2.2.2,by simp,fun j hj=>(h2 j hj).2.2.1,rfl⟩
   rw[hj]
   refine (s_y _ secs 0 []).2 fun k s hk=>?_
   obtain ⟨a,b,c,d⟩:=h1 k s hk
   refine ⟨a,b,c,fun hl=>?_⟩
   obtain ⟨d1,d2,d3⟩:=d hl
   exact ⟨d1,by simpa using (hcz k).1 d2,by simp,d3⟩
end
end Go.Fw
namespace Go.Proofs.YtfdffboelecgoaaGreatDoor
open Go.Fw Go.Proofs Go.RowKit
open Go.Proofs.Tryz (prog)
section
variable {σ:Store}
abbrev encP (p:Int × Int) :A:= .agg [iD p.1,iD p.2]
theorem i_j:Keys prog b_w encP:=a_j5 fun a b=>by kernel_rfl
theorem m_f:Keys prog t_int iA:=⟨fun x=>by kernel_rfl,fun x y=>by simp[eqA,b_p,b_j,d_x]⟩
theorem y_4 {d1 d2:D}{secs:List Sec}{js:List Jt}(hs:∀s,At prog s a_2 d1 (secs.map Sec.enc))(hj:∀s,At prog s b_v d2 (js.map Jt.enc)) :
   Pure prog l_m [.one d1, .one d2] σ (.a (iA (if d_z secs js=true then 0 else 6))):=by
 have hls:=(hs σ).size
 have hlj:=(hj σ).size
 rw[List.length_map] at hls hlj
 refine .of (a_co d1 d2 σ _ ?_) (a_o1 _)
 intro R hR
 refine (hs σ).lenK ((d_8 _ _ _).use ⟨_,rfl,b_g (fun h=>?_) (fun h=>(hj σ).lenK (bcd (fun h2=>?_) (fun h2=>hR σ ?_)))⟩)
 · simp at h
   exact ⟨by rw[if_neg];simp[d_z];omega, .refl _⟩
 · simp at h2
   exact ⟨by rw[if_neg];simp[d_z];omega, .refl _⟩
 simp at h h2
 have hsize:decide (1≤secs.length∧secs.length≤16∧js.length≤24) =true:=by simp;omega
 refine a_f fun id σ1 hid _ he hs1=>(hj σ1).lenK ⟨fun n s=>∃tk f,MapAt prog b_w encP s id f∧(∀z,f z=if z ∈ tk then some (iA 1) else none)∧Ext σ s∧Rng js (fun r=>q_b secs r tk=q_b secs js []) n,
   fun n _=>js.length - n.toNat,⟨[],_, .new hs1,fun z=>by simp,he, .start rfl⟩,?_⟩
 rintro n s ⟨tk,f,hm,hf,hes,hr⟩
 refine bcd (fun hlt=>?_) (fun hge=>?_)
 · obtain ⟨j,x,rfl,hx,hjl,hF,nx⟩:=hr.step (by simp) hlj hlt
   refine (hj s).load (a_m hx) d_3 rfl ⟨x.A,x.AEnd,x.B,x.BEnd,rfl,?_⟩
   refine a_f fun id1 s1 hid1 _ he1 hs2=>?_
   have hne:id≠id1:=fun e=>by
     obtain ⟨c,es,h1,_⟩:=hm
     rw[e,hid1] at h1;cases h1
   have hbad:q_t secs x.spots tk=none∨x.A=x.B→(if d_z secs js=true then (0:Int) else 6) =6:=by
     intro hb
     have:q_b secs js []=none:=by
       rw[←hF,q_b]
       rcases hb with hb | hb
       · rw[hb]
       · cases q_t secs x.spots tk with
         | none=>rfl
         | some tk'=>simp[hb]
     rw[if_neg];simp[d_z,this]
   have hloc:∀s',s' id1= .live b_w [[iD x.A,iD x.AEnd],[iD x.B,iD x.BEnd]]→At prog s' b_w (.osl id1 0 2) (x.spots.map fun p=> [iD p.1,iD p.2]):=fun s' h=>At.fresh h (by simp) rfl
   refine (hloc s1 hs2).lenK ⟨fun m s'=>∃tk' f',MapAt prog b_w encP s' id f'∧(∀z,f' z=if z ∈ tk' then some (iA 1) else none)∧Ext σ s'∧s' id1= .live b_w [[iD x.A,iD x.AEnd],[iD x.B,iD x.BEnd]]∧
     Rng x.spots (fun q=>q_t secs q tk'=q_t secs x.spots tk) m,fun m _=>x.spots.length - m.toNat,⟨tk,f,hm.same (he1 id (fun e=>hne (by
       obtain ⟨c,es,h1,_⟩:=hm
       rw[e] at h1;cases h1))),hf,hes.trans he1,hs2, .start rfl⟩,?_⟩
   rintro m s' ⟨tk',f',hm',hf',hes',hs2',hr'⟩
   refine bcd (fun hlt'=>?_) (fun hge'=>?_)
   · obtain ⟨i,p,rfl,hp,hil,hG,nx'⟩:=hr'.step (by simp) (by simp[Jt.spots]) hlt'
     refine (hloc s' hs2').load (a_m hp) a_dn rfl ⟨p.1,p.2,rfl,(hs s').lenK ?_⟩
     rw[q_t] at hG
     have hw1:w64 (((secs.map Sec.enc).length:Int) - 1) =(secs.length:Int) - 1:=by rw[List.length_map,d_9 (by omega) (by omega)]
     refine (d_8 _ _ _).use ⟨_,rfl,?_⟩
     rw[hw1]
     refine b_g (fun h3=>?_) (fun h3=>?_)
     · exact ⟨by rw[hbad (.inl ?_)];rw[←hG,if_neg];simp only[i_y,h3];simp,hes'⟩
     · have h3':=of_decide_eq_true h3
       obtain ⟨y,hy⟩:=a_h (l:=secs) (j:=p.1.toNat) (by omega)
       refine (hs s').load (a_m hy) b_2 (by omega) ⟨y.Kind,rfl,(h_8 _).use ⟨_,rfl,(d_8 _ _ _).use ⟨_,rfl,?_⟩⟩⟩
       have hk:n_b secs p.1=y.Kind:=by simp[n_b,hy]
       have hn:=n_e y.Kind
       rw[d_9 (n:=a_x y.Kind - 1) (by omega) (by omega)]
       refine b_g (fun h4=>?_) (fun h4=>?_)
       · exact ⟨by rw[hbad (.inl ?_)];rw[←hG,if_neg];simp only[i_y,hk,h4];simp,hes'⟩
       · have hok:i_y secs p=true:=by simp only[i_y,hk,h3,h4];rfl
         by_cases hin:p ∈ tk'
         · refine hm'.lookI i_j p (n:=1) (by rw[hf',if_pos hin];rfl) (bcd (fun _=>?_) (fun h=>absurd (by decide) h))
           exact ⟨by rw[hbad (.inl ?_)];rw[←hG,if_neg];simp[hin],hes'⟩
         · refine hm'.lookI i_j p (n:=0) (by rw[hf',if_neg hin];rfl) (bcd (fun h=>absurd h (by decide)) (fun _=>?_))
           refine hm'.lookI i_j p (n:=0) (by rw[hf',if_neg hin];rfl) ?_
           rw[if_pos ⟨hok,hin⟩] at hG
           refine hm'.bump i_j p fun s3 f3 hm3 hf3 hf3' hs3 hs3'=>⟨rfl,?_⟩
           have hn2:=nx' (fun q=>q_t secs q (p::tk') =q_t secs x.spots tk) hG
           refine ⟨⟨p::tk',f3,hm3,fun z=>?_,fun i hi=>?_,?_,hn2.1⟩,hn2.2⟩
           · by_cases hz:z=p
             · subst hz;rw[hf3'];simp;rfl
             · rw[hf3 z hz,hf'];simp[hz]
           · rw[hs3 i (fun e=>?_)]
             · exact hes' i hi
             · subst e;rw[hid] at hi;exact hi rfl
           · rw[hs3 _ (Ne.symm hne)];exact hs2'
   · have hG:=hr'.done (by simp) hge'
     rw[q_t] at hG
     refine bce (fun h5=>⟨by rw[hbad (.inr h5)],hes'⟩) (fun h5=>?_)
     rw[q_b,←hG] at hF
     simp only[if_neg h5] at hF
     have hn2:=nx (fun r=>q_b secs r tk'=q_b secs js []) hF
     exact ⟨⟨tk',f',hm',hf',hes',hn2.1⟩,hn2.2⟩
 · have hF:=hr.done (by simp) hge
   rw[q_b] at hF
   have htop:d_z secs js=p_0 tk secs 0 []:=by simp only[d_z,hsize,←hF,Bool.true_and]
   rw[htop]
   clear htop hr hF hR
   refine a_f fun id1 s1 hid1 _ he1 hs2=>?_
   have hne:id≠id1:=fun e=>by
     obtain ⟨c,es,h1,_⟩:=hm
     rw[e,hid1] at h1;cases h1
   refine (hs s1).lenK ⟨fun n s'=>∃ls f2,MapAt prog t_int iA s' id1 f2∧(∀z,z ∉ ls→f2 z=none)∧(∀z,z ∈ ls→∃c:Int,1≤c∧c≤n∧f2 z=some (iA c))∧MapAt prog b_w encP s' id f∧Ext σ s'∧
     Rng secs (fun r=>p_0 tk r n ls=p_0 tk secs 0 []) n,fun n _=>secs.length - n.toNat,⟨[],_, .new hs2,fun z _=>rfl,fun z hz=>(by cases hz),hm.same (he1 id (fun e=>by
       obtain ⟨c,es,h1,_⟩:=hm
       rw[e] at h1;cases h1)),hes.trans he1, .start rfl⟩,?_⟩
   rintro n s' ⟨ls,f2,hm2,hf2,hf2',hm',hes',hr⟩
   refine bcd (fun hlt=>?_) (fun hge=>?_)
   · obtain ⟨j,x,rfl,hx,hjl,hF,nx⟩:=hr.step (by simp) hls hlt
     refine (hs s').load (a_m hx) b_2 rfl ⟨x.Kind,x.OC,x.Line,rfl,?_⟩
     intro R1 hR1
     rw[p_0] at hF
     have hbad:∀hc:(a_x x.Kind=0∨¬(0≤x.OC∧x.OC≤3)∨¬(0≤x.Line∧x.Line≤3)∨x.Line≠0∧(x.Kind≠0∨((j:Int),1) ∈ tk∨x.Line ∈ ls)),(if p_0 tk secs 0 []=true then (0:Int) else 6) =6:=by
       intro hc
       rw[if_pos hc] at hF
       rw[←hF];rfl
     refine (h_8 _).use ⟨_,rfl,bce (fun h1=>⟨by rw[hbad (.inl h1)],hes'⟩) (fun h1=>(d_8 _ _ _).use ⟨_,rfl,b_g (fun h2=>⟨by rw[hbad (.inr (.inl (of_decide_eq_false h2)))],hes'⟩) (fun h2=>(d_8 _ _ _).use ⟨_,rfl,b_g (fun h3=>⟨by rw[hbad (.inr (.inr (.inl (of_decide_eq_false h3))))],hes'⟩) (fun h3=>⟨rfl,hR1 s' ?_⟩)⟩)⟩)⟩
     have put : ∀ hc : ¬ (x.Line ≠ 0 ∧ (x.Kind ≠ 0 ∨ ((j : Int), 1) ∈ tk ∨ x.Line ∈ ls)), ∃ c : Int, (f2 x.Line).getD (iA 0) = iA c ∧ 0 ≤ c ∧ c ≤ j ∧ (x.Line ∉ ls → c = 0) ∧ ∀ (c' : Int), c' = c → MPut prog t_int s' (.omap id1) (iA x.Line) (iA (w64 (c' + 1))) fun s6 =>
         (∃ls f2,MapAt prog t_int iA s6 id1 f2∧(∀z,z ∉ ls→f2 z=none)∧(∀z,z ∈ ls→∃c:Int,1≤c∧c≤w64 ((j:Int) +1)∧f2 z=some (iA c))∧MapAt prog b_w encP s6 id f∧Ext σ s6∧
           Rng secs (fun r=>p_0 tk r (w64 ((j:Int) +1)) ls=p_0 tk secs 0 []) (w64 ((j:Int) +1)))∧secs.length - (w64 ((j:Int) +1)).toNat < secs.length - (j:Int).toNat:=by
       intro hc
       have hgo:¬(a_x x.Kind=0∨¬(0≤x.OC∧x.OC≤3)∨¬(0≤x.Line∧x.Line≤3)∨x.Line≠0∧(x.Kind≠0∨((j:Int),1) ∈ tk∨x.Line ∈ ls)):=by
         rintro (h | h | h | h)
         · exact h1 h
         · exact h (of_decide_eq_true h2)
         · exact h (of_decide_eq_true h3)
         · exact hc h
       rw[if_neg hgo] at hF
       have hcount:∃c:Int,(f2 x.Line).getD (iA 0) =iA c∧0≤c∧c≤j∧(x.Line ∉ ls→c=0):=by
         by_cases hin:x.Line ∈ ls
         · obtain ⟨c,c1,c2,c3⟩:=hf2' _ hin
           exact ⟨c,by rw[c3];rfl,by omega,c2,fun h=>absurd hin h⟩
         · exact ⟨0,by rw[hf2 _ hin];rfl,by omega,by omega,fun _=>rfl⟩
       obtain ⟨c,k1,k2,k3,k4⟩:=hcount
       refine ⟨c,k1,k2,k3,k4,fun c' hc'=>?_⟩
       subst hc'
       refine hm2.put m_f x.Line fun s6 f6 g1 g2 g3 g4 g5=>?_
       have hn2:=nx (fun r=>p_0 tk r (w64 ((j:Int) +1)) (x.Line::ls) =p_0 tk secs 0 []) (by rw[a_g (by omega)];simpa using hF)
       have hw:w64 ((j:Int) +1) =(j:Int) +1:=d_9 (by omega) (by omega)
       refine ⟨⟨x.Line::ls,f6,g1,fun z hz=>?_,fun z hz=>?_,hm'.same (g4 _ hne),fun i hi=>?_,hn2.1⟩,hn2.2⟩
       · simp only[List.mem_cons,not_or] at hz
         rw[g2 z hz.1];exact hf2 z hz.2
       · by_cases hzx:z=x.Line
         · subst hzx
           exact ⟨c'+1,by omega,by omega,by rw[g3,d_9 (by omega) (by omega)]⟩
         · rw[g2 z hzx]
           obtain ⟨c2,q1,q2,q3⟩:=hf2' z ((List.mem_cons.1 hz).resolve_left hzx)
           exact ⟨c2,q1,by omega,q3⟩
       · rw[g4 i (fun e=>?_)]
         · exact hes' i hi
         · subst e
           have:=hes _ hi
           rw[hid1] at this;exact hi this.symm
     refine bcn (fun h4=>bcn (fun h5=>⟨by rw[hbad (.inr (.inr (.inr ⟨h4, .inl h5⟩)))],hes'⟩) (fun h5=>?_)) (fun h4=>?_)
     · by_cases hin:((j:Int),(1:Int)) ∈ tk
       · refine hm'.lookI i_j ((j:Int),(1:Int)) (n:=1) (by rw[hf,if_pos hin];rfl) (bcd (fun _=>⟨by rw[hbad (.inr (.inr (.inr ⟨h4, .inr (.inl hin)⟩)))],hes'⟩) (fun h=>absurd (by decide) h))
       · refine hm'.lookI i_j ((j:Int),(1:Int)) (n:=0) (by rw[hf,if_neg hin];rfl) (bcd (fun h=>absurd h (by decide)) (fun _=>?_))
         by_cases hin2:x.Line ∈ ls
         · obtain ⟨c,c1,c2,c3⟩:=hf2' _ hin2
           exact hm2.lookI m_f x.Line (n:=c) (by rw[c3];rfl) (bcd (fun _=>⟨by rw[hbad (.inr (.inr (.inr ⟨h4, .inr (.inr hin2)⟩)))],hes'⟩) (fun h=>absurd (show c > 0 by omega) h))
         · obtain ⟨c,k1,k2,k3,k4,k5⟩:=put (by rintro ⟨_,h | h | h⟩;exact h h5;exact hin h;exact hin2 h)
           have:=k4 hin2
           refine hm2.lookI m_f x.Line k1 (bcd (fun h=>absurd h (by omega)) (fun _=>hm2.lookI m_f x.Line k1 (k5 c rfl)))
     · obtain ⟨c,k1,k2,k3,k4,k5⟩:=put (fun h=>h.1 h4)
       exact hm2.lookI m_f x.Line k1 (k5 c rfl)
   · have hF:=hr.done (by simp) hge
     rw[p_0] at hF
     exact ⟨by rw[←hF];rfl,hes'⟩
end
end Go.Proofs.YtfdffboelecgoaaGreatDoor
namespace Go.Fw
section
structure Rt where
 Entry:Int
 Exit:Int
 Path:List St
 Flank:List Nd
 Overlap:List Int
 Shunt:Bool
structure Cf where
 Secs:List Sec
 Jts:List Jt
 Sigs:List Sg
 Xs:List Int
 Rts:List Rt
 Age:Int
 Brake:Int
 Hold:Int
 Budget:Int
def FnIs {α:Type}(P:Program)(σ:Store)(f:D)(arg:α→A)(l:List α)(p:α→Bool) :Prop:=
 ∃f1 a b as0' bs,f= .fn f1 a b∧e_7 a=some as0'∧e_7 b=some bs∧∀x ∈ l,DCalls P f1 (as0' ++ [arg x] ++ bs) σ fun r s=>r= .a (bA (p x))∧s=σ
def j_5 {α:Type}(p:α→Bool) :List α→Nat→Int
 | [],_=> -1
 | x::r,j=>if p x=true then j else j_5 p r (j+1)
theorem s_r {α:Type}(p:α→Bool)(l:List α) :decide (j_5 p l 0≥0) =l.any p:=by
 have key:∀(l:List α) (j:Nat),decide (j_5 p l j≥0) =l.any p:=by
   intro l
   induction l with
   | nil=>intro j;simp[j_5]
   | cons x r ih=>
     intro j
     rw[j_5,List.any_cons]
     by_cases hp:p x=true
     · rw[if_pos hp,hp];simp
     · rw[if_neg hp,ih];simp[hp]
 exact key l 0
def b_c {α:Type}(l:List α)(i:Int) :Option α:=if i < 0 then none else l[i.toNat]?
theorem g_x {α:Type}{l:List α}{i:Int}{x:α}(h:b_c l i=some x) :0≤i∧i < l.length∧l[i.toNat]? =some x:=by
 unfold b_c at h
 split at h
 · cases h
 · have:=(List.getElem?_eq_some_iff.1 h).1
   exact ⟨by omega,by omega,h⟩
theorem d_7 {α:Type}{l:List α}{i:Int}(h:i < 0) :b_c l i=none:=if_pos h
theorem f_h {α:Type}{l:List α}{i:Int}(h:(l.length:Int)≤i) :b_c l i=none:=by
 unfold b_c;rw[if_neg (by omega),List.getElem?_eq_none_iff];omega
def a_og:Option Sec→RV
 | none=> .tup [.agg [iD 0,iD 0,iD 0],bA false]
 | some s=> .tup [.agg s.enc,bA true]
def sgRV:Option Sg→RV
 | none=> .tup [.agg [iD 0,iD 0],bA false]
 | some s=> .tup [.agg s.enc,bA true]
def Cf.approach (c:Cf)(r:Rt) :Int:=((b_c c.Sigs r.Entry).map Sg.Sec).getD (-1)
def Cf.Approach (c:Cf)(i:Int) :Int:=((b_c c.Rts i).map c.approach).getD (-1)
def e_l (path:List St)(s:Int) :Bool:=path.any fun x=>x.Sec == s
def RtAt (P:Program)(tS tN tI:TypeId)(σ:Store)(cs:List D)(r:Rt) :Prop:=
 ∃d1 d2 d3,cs=[iD r.Entry,iD r.Exit,d1,d2,d3, .bool r.Shunt]∧At P σ tS d1 (r.Path.map St.enc)∧At P σ tN d2 (r.Flank.map Nd.enc)∧At P σ tI d3 (r.Overlap.map encI)
def z_q (P:Program)(tR tS tN tI:TypeId)(σ:Store)(d:D)(l:List Rt) :Prop:=
 ∃rows,At P σ tR d rows∧rows.length=l.length∧∀(i:Nat) row r,rows[i]? =some row→l[i]? =some r→RtAt P tS tN tI σ row r
def a_1 (c:Cf)(approach:Int)(path:List St)(s:St)(out:List Nd)(e:Int) :List Nd:=
 if e=s.In∨e=s.Out then out else
 match nxt c.Jts s.Sec e with
 | none=>out
 | some (q,f)=>match b_c c.Secs q with
   | none=>out
   | some y=>if y.Kind=1∧(1≤f∧f≤2)∧q≠approach∧e_l path q=false∧(out.any fun n=>n.Sec == q) =false then out ++ [⟨q,3 - f⟩] else out
def a_y (c:Cf)(approach:Int)(path:List St)(s:St) :Nat→Int→List Nd→List Nd
 | 0,_,out=>out
 | n+1,e,out=>a_y c approach path s n (e+1) (a_1 c approach path s out e)
def b_n (c:Cf)(approach:Int)(path:List St) :List St→List Nd→List Nd
 | [],out=>out
 | s::r,out=>b_n c approach path r (match b_c c.Secs s.Sec with
   | none=>out
   | some x=>a_y c approach path s (a_x x.Kind).toNat 0 out)
def Cf.flank (c:Cf)(approach:Int)(path:List St) :List Nd:=b_n c approach path path []
theorem g_5 (c:Cf)(a:Int)(p:List St)(s:St)(out:List Nd)(e:Int) :out.length≤(a_1 c a p s out e).length∧(a_1 c a p s out e).length≤out.length+1:=by
 unfold a_1
 split
 · omega
 · split
   · omega
   · split
     · omega
     · split <;> simp
theorem p_n (c:Cf)(a:Int)(p:List St)(s:St) :∀(n:Nat) (e:Int) (out:List Nd),out.length≤(a_y c a p s n e out).length∧(a_y c a p s n e out).length≤out.length+n
 | 0,e,out=>by simp[a_y]
 | n+1,e,out=>by
   have h1:=g_5 c a p s out e
   have h2:=p_n c a p s n (e+1) (a_1 c a p s out e)
   rw[a_y];omega
theorem l_y (c:Cf)(a:Int)(p:List St) :∀(l:List St) (out:List Nd),out.length≤(b_n c a p l out).length∧(b_n c a p l out).length≤out.length+4 * l.length
 | [],out=>by simp[b_n]
 | s::r,out=>by
   rw[b_n]
   cases hg:b_c c.Secs s.Sec with
   | none=>have:=l_y c a p r out;simp only[List.length_cons];omega
   | some x=>
     have h1:=p_n c a p s (a_x x.Kind).toNat 0 out
     have h2:=l_y c a p r (a_y c a p s (a_x x.Kind).toNat 0 out)
     have h3:=n_e x.Kind
     simp only[List.length_cons]
     omega
def Cf.overlap (c:Cf)(r:Rt) :List Int:=
 if r.Shunt=true then [] else
 match b_c c.Sigs r.Exit with
 | none=> []
 | some x=>match nxt c.Jts x.Sec x.End_ with
   | none=> []
   | some (q,_)=>match b_c c.Secs q with
     | none=> []
     | some y=>if y.Line=0∧e_l r.Path q=false∧q≠c.approach r then [q] else []
def u_u (js:List Jt) :List Sg→List Sg→Bool
 | [],_=>true
 | x::r,seen=>if (nxt js x.Sec x.End_).isSome=true∧x ∉ seen then u_u js r (x::seen) else false
def xrun (secs:List Sec) :List Int→List Int→Bool
 | [],_=>true
 | x::r,seen=>match b_c secs x with
   | none=>false
   | some s=>if s.Line=0∧x ∉ seen then xrun secs r (x::seen) else false
def Cf.sigsOk (c:Cf) :Bool:=u_u c.Jts c.Sigs [] && decide (c.Sigs.length≤12)
def Cf.xsOk (c:Cf) :Bool:=xrun c.Secs c.Xs [] && decide (c.Xs.length≤4)
end
end Go.Fw
namespace Go.Proofs.YtfdffboelecgoaaGreatDoor
open Go.Fw Go.Proofs Go.RowKit
open Go.Proofs.Tryz (prog)
section
variable {σ:Store}
theorem r_o {d f:D}{l:List St}{p:St→Bool}(h:At prog σ a_i d (l.map St.enc))(hf:FnIs prog σ f (fun x:St=> .agg x.enc) l p) :
   Pure prog d_s [.one d, .one f] σ (.a (iA (j_5 p l 0))):=by
 have hl:=h.size
 rw[List.length_map] at hl
 obtain ⟨f1,a,b,as0',bs,rfl,ha,hb,hf⟩:=hf
 refine k_y d _ σ _ (h.lenK ⟨fun n s=>s=σ∧Rng l (fun r=>∀j:Nat,n=j→j_5 p r j=j_5 p l 0) n,fun n _=>l.length - n.toNat,⟨rfl, .start fun j hj=>by cases j with | zero=>rfl | succ j=>omega⟩,?_⟩)
 rintro n τ ⟨rfl,hr⟩
 refine bcd (fun hlt=>?_) (fun hge=>?_)
 · obtain ⟨j,x,rfl,hx,hj,hF,nx⟩:=hr.step (by simp) hl hlt
   refine h.load (a_m hx) c_s rfl ⟨x.Sec,x.In,x.Out,rfl,f1,a,b,as0',bs,rfl,ha,hb,?_⟩
   have hF:=hF j rfl
   rw[j_5] at hF
   refine (hf x (List.mem_of_getElem? hx)).mono ?_
   rintro r s ⟨rfl,rfl⟩
   refine ⟨p x,rfl,bc (fun hp=>?_) (fun hp=>?_)⟩
   · rw[if_pos hp] at hF;exact ⟨by rw[←hF],rfl⟩
   · refine m_t rfl (nx _ fun j' hj'=>?_)
     rw[a_g (by omega)] at hj'
     have:j'=j+1:=by omega
     subst this
     rw[if_neg (by rw[hp];simp)] at hF
     exact hF
 · refine ⟨?_,rfl⟩
   obtain ⟨j,hj,hj2,hF⟩:=hr
   have hF:=hF j hj
   rw[List.length_map] at hge
   rw[e_u (by omega)] at hF
   rw[←hF];rfl
theorem m_0 {d f:D}{l:List St}{p:St→Bool}(h:At prog σ a_i d (l.map St.enc))(hf:FnIs prog σ f (fun x:St=> .agg x.enc) l p) :
   Pure prog c_4 [.one d, .one f] σ (.a (bA (l.any p))):=
 i_5 d f σ _ ((r_o h hf).use ⟨_,rfl,by rw[s_r];exact ⟨rfl,rfl⟩⟩)
theorem s_a {d f:D}{l:List Nd}{p:Nd→Bool}(h:At prog σ a_r d (l.map Nd.enc))(hf:FnIs prog σ f (fun x:Nd=> .agg x.enc) l p) :
   Pure prog d_w [.one d, .one f] σ (.a (iA (j_5 p l 0))):=by
 have hl:=h.size
 rw[List.length_map] at hl
 obtain ⟨f1,a,b,as0',bs,rfl,ha,hb,hf⟩:=hf
 refine k_v d _ σ _ (h.lenK ⟨fun n s=>s=σ∧Rng l (fun r=>∀j:Nat,n=j→j_5 p r j=j_5 p l 0) n,fun n _=>l.length - n.toNat,⟨rfl, .start fun j hj=>by cases j with | zero=>rfl | succ j=>omega⟩,?_⟩)
 rintro n τ ⟨rfl,hr⟩
 refine bcd (fun hlt=>?_) (fun hge=>?_)
 · obtain ⟨j,x,rfl,hx,hj,hF,nx⟩:=hr.step (by simp) hl hlt
   refine h.load (a_m hx) e_i rfl ⟨x.Sec,x.Pos,rfl,f1,a,b,as0',bs,rfl,ha,hb,?_⟩
   have hF:=hF j rfl
   rw[j_5] at hF
   refine (hf x (List.mem_of_getElem? hx)).mono ?_
   rintro r s ⟨rfl,rfl⟩
   refine ⟨p x,rfl,bc (fun hp=>?_) (fun hp=>?_)⟩
   · rw[if_pos hp] at hF;exact ⟨by rw[←hF],rfl⟩
   · refine m_t rfl (nx _ fun j' hj'=>?_)
     rw[a_g (by omega)] at hj'
     have:j'=j+1:=by omega
     subst this
     rw[if_neg (by rw[hp];simp)] at hF
     exact hF
 · refine ⟨?_,rfl⟩
   obtain ⟨j,hj,hj2,hF⟩:=hr
   have hF:=hF j hj
   rw[List.length_map] at hge
   rw[e_u (by omega)] at hF
   rw[←hF];rfl
theorem n_x {d f:D}{l:List Nd}{p:Nd→Bool}(h:At prog σ a_r d (l.map Nd.enc))(hf:FnIs prog σ f (fun x:Nd=> .agg x.enc) l p) :
   Pure prog c_a [.one d, .one f] σ (.a (bA (l.any p))):=
 i_z d f σ _ ((s_a h hf).use ⟨_,rfl,by rw[s_r];exact ⟨rfl,rfl⟩⟩)
theorem v_u {d:D}{l:List Sg}(v:Sg)(h:At prog σ b_b d (l.map Sg.enc)) :Pure prog e_c [.one d, .agg v.enc] σ (.a (iA (j_5 (fun x=>decide (v=x)) l 0))):=by
 have hl:=h.size
 rw[List.length_map] at hl
 refine m_l d v.Sec v.End_ σ _ (h.lenK ⟨fun n s=>s=σ∧Rng l (fun r=>∀j:Nat,n=j→j_5 (fun x=>decide (v=x)) r j=j_5 (fun x=>decide (v=x)) l 0) n,fun n _=>l.length - n.toNat,⟨rfl, .start fun j hj=>by cases j with | zero=>rfl | succ j=>omega⟩,?_⟩)
 rintro n τ ⟨rfl,hr⟩
 refine bcd (fun hlt=>?_) (fun hge=>?_)
 · obtain ⟨j,x,rfl,hx,hj,hF,nx⟩:=hr.step (by simp) hl hlt
   refine h.load (a_m hx) c_h rfl ⟨x.Sec,x.End_,rfl,?_⟩
   have hF:=hF j rfl
   rw[j_5] at hF
   have hd:((v.Sec == x.Sec) && (v.End_ == x.End_)) =decide (v=x):=by
     rw[Bool.eq_iff_iff];cases v;cases x;simp
   rw[hd]
   refine bc (fun hp=>?_) (fun hp=>?_)
   · rw[if_pos hp] at hF;exact ⟨by rw[←hF],rfl⟩
   · refine m_t rfl (nx _ fun j' hj'=>?_)
     rw[a_g (by omega)] at hj'
     have:j'=j+1:=by omega
     subst this
     rw[if_neg (by rw[hp];simp)] at hF
     exact hF
 · refine ⟨?_,rfl⟩
   obtain ⟨j,hj,hj2,hF⟩:=hr
   have hF:=hF j hj
   rw[List.length_map] at hge
   rw[e_u (by omega)] at hF
   rw[←hF];rfl
theorem r_d {d:D}{l:List Sg}(v:Sg)(h:At prog σ b_b d (l.map Sg.enc)) :Pure prog d_k [.one d, .agg v.enc] σ (.a (bA (l.any fun x=>decide (v=x)))):=
 k_c d v.Sec v.End_ σ _ ((v_u v h).use ⟨_,rfl,by rw[s_r];exact ⟨rfl,rfl⟩⟩)
theorem z_c {d1 d2:D}{l1 l2:List Nd}(h1:At prog σ a_r d1 (l1.map Nd.enc))(h2:At prog σ a_r d2 (l2.map Nd.enc)) :Pure prog e_5 [.one d1, .one d2] σ (.a (bA (decide (l1=l2)))):=by
 have hl1:=h1.size
 have hl2:=h2.size
 rw[List.length_map] at hl1 hl2
 refine o_2 d1 d2 σ _ (h1.lenK (h2.lenK (bcn (fun hne=>?_) (fun heq=>h1.lenK ?_))))
 · rw[List.length_map,List.length_map] at hne
   exact ⟨by rw[decide_eq_false (fun e=>hne (by rw[e]))],rfl⟩
 rw[List.length_map,List.length_map] at heq
 refine ⟨fun n s=>s=σ∧Rng l1 (fun r=>∀j:Nat,n=j→(r=l2.drop j↔l1=l2)) n,fun n _=>l1.length - n.toNat,⟨rfl, .start fun j hj=>by cases j with | zero=>simp | succ j=>omega⟩,?_⟩
 rintro n τ ⟨rfl,hr⟩
 refine bcd (fun hlt=>?_) (fun hge=>?_)
 · obtain ⟨j,x,rfl,hx,hj,hF,nx⟩:=hr.step (by simp) hl1 hlt
   obtain ⟨y,hy⟩:=a_h (l:=l2) (j:=j) (by omega)
   refine h1.load (a_m hx) e_i rfl ⟨x.Sec,x.Pos,rfl,h2.load (a_m hy) e_i rfl ⟨y.Sec,y.Pos,rfl,?_⟩⟩
   have hF:=hF j rfl
   rw[r_t hy,List.cons.injEq] at hF
   have hd:((x.Sec == y.Sec) && (x.Pos == y.Pos)) =decide (x=y):=by
     rw[Bool.eq_iff_iff];cases x;cases y;simp
   rw[hd]
   refine b_g (fun hp=>?_) (fun hp=>?_)
   · exact ⟨by rw[decide_eq_false (fun e=>of_decide_eq_false hp (hF.2 e).1)],rfl⟩
   · refine m_t rfl (nx _ fun j' hj'=>?_)
     rw[a_g (by omega)] at hj'
     have:j'=j+1:=by omega
     subst this
     rw[←hF];exact ⟨fun h=>⟨of_decide_eq_true hp,h⟩,fun h=>h.2⟩
 · obtain ⟨j,hj,hj2,hF⟩:=hr
   rw[List.length_map] at hge
   have hF:=hF j hj
   rw[e_u (by omega),e_u (by omega)] at hF
   exact ⟨by rw[decide_eq_true (hF.1 rfl)],rfl⟩
theorem a_b0 {d1 d2:D}{l1 l2:List Int}(h1:At prog σ t_int d1 (l1.map Go.Fw.encI))(h2:At prog σ t_int d2 (l2.map Go.Fw.encI)) :Pure prog f_m [.one d1, .one d2] σ (.a (bA (decide (l1=l2)))):=by
 have hl1:=h1.size
 have hl2:=h2.size
 rw[List.length_map] at hl1 hl2
 refine q_h d1 d2 σ _ (h1.lenK (h2.lenK (bcn (fun hne=>?_) (fun heq=>h1.lenK ?_))))
 · rw[List.length_map,List.length_map] at hne
   exact ⟨by rw[decide_eq_false (fun e=>hne (by rw[e]))],rfl⟩
 rw[List.length_map,List.length_map] at heq
 refine ⟨fun n s=>s=σ∧Rng l1 (fun r=>∀j:Nat,n=j→(r=l2.drop j↔l1=l2)) n,fun n _=>l1.length - n.toNat,⟨rfl, .start fun j hj=>by cases j with | zero=>simp | succ j=>omega⟩,?_⟩
 rintro n τ ⟨rfl,hr⟩
 refine bcd (fun hlt=>?_) (fun hge=>?_)
 · obtain ⟨j,x,rfl,hx,hj,hF,nx⟩:=hr.step (by simp) hl1 hlt
   obtain ⟨y,hy⟩:=a_h (l:=l2) (j:=j) (by omega)
   refine h1.load (a_m hx) c_int rfl ⟨x,rfl,h2.load (a_m hy) c_int rfl ⟨y,rfl,?_⟩⟩
   have hF:=hF j rfl
   rw[r_t hy,List.cons.injEq] at hF
   refine bcn (fun hp=>?_) (fun hp=>?_)
   · exact ⟨by rw[decide_eq_false (fun e=>hp (hF.2 e).1)],rfl⟩
   · refine m_t rfl (nx _ fun j' hj'=>?_)
     rw[a_g (by omega)] at hj'
     have:j'=j+1:=by omega
     subst this
     rw[←hF];exact ⟨fun h=>⟨hp,h⟩,fun h=>h.2⟩
 · obtain ⟨j,hj,hj2,hF⟩:=hr
   rw[List.length_map] at hge
   have hF:=hF j hj
   rw[e_u (by omega),e_u (by omega)] at hF
   exact ⟨by rw[decide_eq_true (hF.1 rfl)],rfl⟩
end
section
variable {σ:Store}
structure CfAt (σ:Store) (c0 c1 c2 c3 c4:D) (c:Cf) :Prop where
 secs:At prog σ a_2 c0 (c.Secs.map Sec.enc)
 jts:At prog σ b_v c1 (c.Jts.map Jt.enc)
 sigs:At prog σ b_b c2 (c.Sigs.map Sg.enc)
 xs:At prog σ t_int c3 (c.Xs.map Go.Fw.encI)
 rts:z_q prog a_w a_i a_r t_int σ c4 c.Rts
abbrev cfA (c0 c1 c2 c3 c4:D)(c:Cf) :A:= .agg [c0,c1,c2,c3,c4,iD c.Age,iD c.Brake,iD c.Hold,iD c.Budget]
abbrev rtA (d1 d2 d3:D)(r:Rt) :A:= .agg [iD r.Entry,iD r.Exit,d1,d2,d3, .bool r.Shunt]
section
variable {c0 c1 c2 c3 c4:D} {c:Cf} (h:CfAt σ c0 c1 c2 c3 c4 c)
include h
theorem c_t (s:Int) :Pure prog b_r [cfA c0 c1 c2 c3 c4 c,iA s] σ (a_og (b_c c.Secs s)):=by
 refine p_d _ _ _ _ _ _ _ _ _ s σ _ (bcd (fun h1=>⟨by rw[d_7 h1];rfl,rfl⟩) (fun h1=>h.secs.lenK (bcd (fun h2=>⟨by rw[List.length_map] at h2;rw[f_h h2];rfl,rfl⟩) (fun h2=>?_))))
 rw[List.length_map] at h2
 obtain ⟨x,hx⟩:=a_h (l:=c.Secs) (j:=s.toNat) (by omega)
 refine h.secs.load (a_m hx) b_2 (by omega) ⟨x.Kind,x.OC,x.Line,rfl,?_,rfl⟩
 have:b_c c.Secs s=some x:=by unfold b_c;rw[if_neg h1,hx]
 rw[this];rfl
theorem g_f (s:Int) :Pure prog c_k [cfA c0 c1 c2 c3 c4 c,iA s] σ (sgRV (b_c c.Sigs s)):=by
 refine q_d _ _ _ _ _ _ _ _ _ s σ _ (bcd (fun h1=>⟨by rw[d_7 h1];rfl,rfl⟩) (fun h1=>h.sigs.lenK (bcd (fun h2=>⟨by rw[List.length_map] at h2;rw[f_h h2];rfl,rfl⟩) (fun h2=>?_))))
 rw[List.length_map] at h2
 obtain ⟨x,hx⟩:=a_h (l:=c.Sigs) (j:=s.toNat) (by omega)
 refine h.sigs.load (a_m hx) c_h (by omega) ⟨x.Sec,x.End_,rfl,?_,rfl⟩
 have:b_c c.Sigs s=some x:=by unfold b_c;rw[if_neg h1,hx]
 rw[this];rfl
theorem g_1 (r:Rt)(d1 d2 d3:D) :Pure prog c_q [cfA c0 c1 c2 c3 c4 c,rtA d1 d2 d3 r] σ (.a (iA (c.approach r))):=by
 refine n_w _ _ _ _ _ _ _ _ _ _ _ d1 d2 d3 _ σ _ ((g_f h r.Entry).use ?_)
 cases hg:b_c c.Sigs r.Entry with
 | none=>exact ⟨0,0,false,rfl,by simp[Cf.approach,hg],rfl⟩
 | some x=>exact ⟨x.Sec,x.End_,true,rfl,by simp[Cf.approach,hg],rfl⟩
theorem a_h3 {i:Nat}{r:Rt}(hr:c.Rts[i]? =some r) :∃rows,At prog σ a_w c4 rows∧rows.length=c.Rts.length∧∃d1 d2 d3,rows[i]? =some [iD r.Entry,iD r.Exit,d1,d2,d3, .bool r.Shunt]∧At prog σ a_i d1 (r.Path.map St.enc)∧At prog σ a_r d2 (r.Flank.map Nd.enc)∧At prog σ t_int d3 (r.Overlap.map Go.Fw.encI):=by
 obtain ⟨rows,h1,h2,h3⟩:=h.rts
 have hlt:=(List.getElem?_eq_some_iff.1 hr).1
 obtain ⟨row,hrow⟩:=a_h (l:=rows) (j:=i) (by omega)
 obtain ⟨d1,d2,d3,rfl,q1,q2,q3⟩:=h3 i row r hrow hr
 exact ⟨rows,h1,h2,d1,d2,d3,hrow,q1,q2,q3⟩
theorem a_iq:∃rows,At prog σ a_w c4 rows∧rows.length=c.Rts.length:=by
 obtain ⟨rows,h1,h2,h3⟩:=h.rts
 exact ⟨rows,h1,h2⟩
theorem k_1 (i:Int) :Pure prog f_j [cfA c0 c1 c2 c3 c4 c,iA i] σ (.a (iA (c.Approach i))):=by
 obtain ⟨rows,hr,hl⟩:=a_iq h
 refine v_d _ _ _ _ _ _ _ _ _ i σ _ (bcd (fun h1=>⟨by rw[Cf.Approach,d_7 h1];rfl,rfl⟩) (fun h1=>hr.lenK (bcd (fun h2=>⟨by rw[hl] at h2;rw[Cf.Approach,f_h h2];rfl,rfl⟩) (fun h2=>?_))))
 rw[hl] at h2
 obtain ⟨x,hx⟩:=a_h (l:=c.Rts) (j:=i.toNat) (by omega)
 obtain ⟨rows',hr',_,d1,d2,d3,hrow,_⟩:=a_h3 h hx
 refine hr'.load hrow b_h (by omega) ⟨_,_,d1,d2,d3,_,rfl,(g_1 h x d1 d2 d3).use ⟨_,rfl,?_,rfl⟩⟩
 have:b_c c.Rts i=some x:=by unfold b_c;rw[if_neg h1,hx]
 rw[Cf.Approach,this];rfl
end
theorem a_j8 {α:Type}{f1:FuncId}{id:Nat}{t:TypeId}{n:Int}{arg:α→A}{l:List α}{p:α→Bool}(hs:σ id= .live t [[iD n]])
   (hf:∀x ∈ l,DCalls prog f1 [arg x, .one (.el (.osl id 0 1) 0 0)] σ fun r s=>r= .a (bA (p x))∧s=σ) :FnIs prog σ (.fn f1 [] [(false,[.el (.osl id 0 1) 0 0])]) arg l p:=
 ⟨f1,_,_,[],[.one (.el (.osl id 0 1) 0 0)],rfl,rfl,rfl,hf⟩
theorem a_j {id:Nat}{t:TypeId}{row:List D}(hs:σ id= .live t [row]) :Row σ (.osl id 0 1) 0 row:=⟨by omega,t,[row],hs,rfl⟩
theorem n_m {d:D}{path:List St}(s:Int)(h:At prog σ a_i d (path.map St.enc)) :Pure prog l_o [.one d,iA s] σ (.a (bA (e_l path s))):=by
 refine .of (a_gh d s σ _ (a_f fun id σ1 hid _ he hs=>?_)) (t_q _)
 refine (m_0 (p:=fun x=>x.Sec == s) (h.ext he) (a_j8 hs fun x _=>?_)).use ⟨_,rfl,rfl,he⟩
 exact a_bq x.Sec x.In x.Out _ σ1 _ ⟨_,_,_,rfl,_,a_j hs,s,rfl,rfl,rfl⟩
theorem x_q {d:D}{l:List Nd}{id:Nat}{q:Int}(h:At prog σ a_r d (l.map Nd.enc))(hs:σ id= .live t_int [[iD q]]) :
   Pure prog c_a [.one d, .one (.fn e_1 [] [(false,[.el (.osl id 0 1) 0 0])])] σ (.a (bA (l.any fun n=>n.Sec == q))):=
 n_x (p:=fun x=>x.Sec == q) h (a_j8 hs fun x _=>o_1 x.Sec x.Pos _ σ _ ⟨_,_,_,rfl,_,a_j hs,q,rfl,rfl,rfl⟩)
end
end Go.Proofs.YtfdffboelecgoaaGreatDoor
namespace Go.Fw
section
theorem j_z (o:Option (Int × Int)){K:Int→Int→Bool→Prop}(h:K (o.getD (0,0)).1 (o.getD (0,0)).2 o.isSome) :∃n m:Int,∃b:Bool,opt2 o= .tup [iA n,iA m,bA b]∧K n m b:=by
 cases o with
 | none=>exact ⟨0,0,false,rfl,h⟩
 | some p=>exact ⟨p.1,p.2,true,rfl,h⟩
theorem a_n5 (o:Option Int){K:Int→Bool→Prop}(h:K (o.getD 0) o.isSome) :∃n:Int,∃b:Bool,opt1 o= .tup [iA n,bA b]∧K n b:=by
 cases o with
 | none=>exact ⟨0,false,rfl,h⟩
 | some p=>exact ⟨p,true,rfl,h⟩
theorem q_f (o:Option Sec){K:Int→Int→Int→Bool→Prop}(h:K (o.getD ⟨0,0,0⟩).Kind (o.getD ⟨0,0,0⟩).OC (o.getD ⟨0,0,0⟩).Line o.isSome) :∃n m k:Int,∃b:Bool,a_og o= .tup [.agg [iD n,iD m,iD k],bA b]∧K n m k b:=by
 cases o with
 | none=>exact ⟨0,0,0,false,rfl,h⟩
 | some p=>exact ⟨p.Kind,p.OC,p.Line,true,rfl,h⟩
theorem a_kn (o:Option Sg){K:Int→Int→Bool→Prop}(h:K (o.getD ⟨0,0⟩).Sec (o.getD ⟨0,0⟩).End_ o.isSome) :∃n m:Int,∃b:Bool,sgRV o= .tup [.agg [iD n,iD m],bA b]∧K n m b:=by
 cases o with
 | none=>exact ⟨0,0,false,rfl,h⟩
 | some p=>exact ⟨p.Sec,p.End_,true,rfl,h⟩
def z_5 (c:Cf)(r:Rt)(ex:Option Sg)(a:Sg)(s:St)(last:Bool)(seen:List Int) :Bool:=
 match nxt c.Jts a.Sec a.End_ with
 | none=>false
 | some (q, i) => decide (q = s.Sec) && decide (i = s.In) && (r_c (h_1 ((b_c c.Secs q).getD ⟨0, 0, 0⟩).Kind) s.In s.Out).isSome && decide (q ∉ seen) &&
     (!(c.Sigs.any fun x=>decide (⟨s.Sec,s.Out⟩ =x)) || (last && decide (ex=some ⟨s.Sec,s.Out⟩))) && !(r.Shunt && decide (((b_c c.Secs q).getD ⟨0,0,0⟩).Line≠0))
def u_v (c:Cf)(r:Rt)(ex:Option Sg) :List St→Sg→List Int→Bool
 | [],a,_=>match ex with
   | some x=>decide (a=x)
   | none=> !(nxt c.Jts a.Sec a.End_).isSome
 | s::rest,a,seen=>z_5 c r ex a s rest.isEmpty seen && u_v c r ex rest ⟨s.Sec,s.Out⟩ (s.Sec::seen)
def Cf.path (c:Cf)(r:Rt) :Bool:=
 match b_c c.Sigs r.Entry with
 | none=>false
 | some a=>(decide (r.Exit= -1) || (b_c c.Sigs r.Exit).isSome) && decide (1≤r.Path.length∧r.Path.length≤8) && u_v c r (b_c c.Sigs r.Exit) r.Path a [a.Sec]
def Cf.route (c:Cf)(r:Rt) :Int:=
 if c.path r=false then 9 else if r.Flank≠c.flank (c.approach r) r.Path then 10 else if r.Overlap≠c.overlap r then 11 else 0
def Cf.routes (c:Cf) :List Rt→Int
 | []=>0
 | r::l=>if c.route r≠0 then c.route r else c.routes l
def Cf.timing (c:Cf) :Bool:=
 decide (1≤c.Age∧c.Age≤8) && decide (0≤c.Brake∧c.Brake≤8) && decide (c.Age+c.Brake+1≤c.Hold∧c.Hold≤40) && decide (1≤c.Budget∧c.Budget≤1000000)
def Cf.check (c:Cf) :Int:=
 if d_z c.Secs c.Jts=false then 6 else if c.sigsOk=false then 7 else if c.xsOk=false then 8 else if c.Rts.length > 12 then 9
 else if c.routes c.Rts≠0 then c.routes c.Rts else if c.timing=true then 0 else 12
theorem Rows.det {P:Program}{s s':Store}{el:TypeId}{d:D}{rs rs':List (List D)}(h:Rows P s el d rs)(h':Rows P s' el d rs')(hd:∀id i len,d≠ .osl id i len) :rs=rs':=by
 cases d <;> simp only[Rows] at h h' <;> try exact h.elim
 · rw[h,h']
 · rw[h,h']
 · rw[h.1,h'.1]
 · exact absurd rfl (hd _ _ _)
theorem a_ha {P:Program}{el:TypeId}{d:D}(h:∀s,∃rs,Rows P s el d rs) :∀id i len,d≠ .osl id i len:=by
 rintro id i len rfl
 obtain ⟨rs,t,rows,h1,_⟩:=h fun _=> .free
 cases h1
theorem r_1 {P:Program}{tR tS tN tI:TypeId}{d:D}{l:List Rt}(h:∀s,z_q P tR tS tN tI s d l) :
   ∃rows,(∀s,At P s tR d rows)∧rows.length=l.length∧∀(i:Nat) row r,rows[i]? =some row→l[i]? =some r→
     ∃d1 d2 d3,row=[iD r.Entry,iD r.Exit,d1,d2,d3, .bool r.Shunt]∧(∀s,At P s tS d1 (r.Path.map St.enc))∧(∀s,At P s tN d2 (r.Flank.map Nd.enc))∧(∀s,At P s tI d3 (r.Overlap.map encI)):=by
 have hp:=a_ha (P:=P) (el:=tR) (d:=d) fun s=>by
   obtain ⟨rows,h1,_⟩:=h s
   exact ⟨rows,h1.rows⟩
 obtain ⟨rows,h1,h2,h3⟩:=h fun _=> .free
 have hall:∀s,At P s tR d rows∧∀(i:Nat) row r,rows[i]? =some row→l[i]? =some r→RtAt P tS tN tI s row r:=fun s=>by
   obtain ⟨rows',q1,q2,q3⟩:=h s
   have e:=q1.rows.det h1.rows hp
   subst e
   exact ⟨q1,q3⟩
 refine ⟨rows,fun s=>(hall s).1,h2,fun i row r hi hr=>?_⟩
 obtain ⟨d1,d2,d3,rfl,_⟩:=h3 i row r hi hr
 refine ⟨d1,d2,d3,rfl,fun s=>?_,fun s=>?_,fun s=>?_⟩ <;>
 · obtain ⟨e1,e2,e3,he,q1,q2,q3⟩:=(hall s).2 i _ r hi hr
   injection he with _ he;injection he with _ he;injection he with a1 he;injection he with a2 he;injection he with a3 he
   subst a1 a2 a3
   assumption
end
end Go.Fw
namespace Go.Proofs.YtfdffboelecgoaaGreatDoor
open Go.Fw Go.Proofs Go.RowKit
open Go.Proofs.Tryz (prog)
section
variable {σ:Store}
abbrev a_ok (p:Sg) :A:= .agg [iD p.Sec,iD p.End_]
theorem a_bj:Keys prog b_b a_ok:=by
 refine ⟨fun x=>?_,fun x y=>?_⟩
 · have:∀a b:Int,f_c prog b_b (.agg [iD a,iD b]) =true:=fun a b=>by kernel_rfl
   exact this _ _
 · cases x;cases y;simp[eqA,b_p,b_j,d_x]
theorem c_d (n lo hi:Int) :Pure prog b_o [iA n,iA lo,iA hi] σ (.a (bA (decide (lo≤n∧n≤hi)))):=by
 refine w_5 n lo hi σ _ (bcd (fun h=>⟨?_,rfl⟩) (fun h=>⟨?_,rfl⟩)) <;> simp[h]
section
variable {c0 c1 c2 c3 c4:D} {c:Cf} (h:∀s,CfAt s c0 c1 c2 c3 c4 c)
include h
theorem v_b:Pure prog e_4 [cfA c0 c1 c2 c3 c4 c] σ (.a (bA c.sigsOk)):=by
 have hl:=(h σ).sigs.size
 rw[List.length_map] at hl
 refine .of (o_y _ _ _ _ _ _ _ _ _ σ _ ?_) (t_q _)
 refine a_f fun id σ1 hid _ he hs=>(h σ1).sigs.lenK ⟨fun n s=>∃seen f,MapAt prog b_b a_ok s id f∧(∀z,f z=if z ∈ seen then some (iA 1) else none)∧Ext σ s∧Rng c.Sigs (fun r=>u_u c.Jts r seen=u_u c.Jts c.Sigs []) n,
   fun n _=>c.Sigs.length - n.toNat,⟨[],_, .new hs,fun z=>by simp,he, .start rfl⟩,?_⟩
 rintro n s ⟨seen,f,hm,hf,hes,hr⟩
 refine bcd (fun hlt=>?_) (fun hge=>?_)
 · obtain ⟨j,x,rfl,hx,hj,hF,nx⟩:=hr.step (by simp) hl hlt
   refine (h s).sigs.load (a_m hx) c_h rfl ⟨x.Sec,x.End_,rfl,(e_w x.Sec x.End_ (h s).jts).use (j_z _ ?_)⟩
   rw[u_u] at hF
   have key:∀k:Int,f x=(if x ∈ seen then some (iA 1) else none)→((f x).getD (iA 0) =iA (if x ∈ seen then 1 else 0)):=fun k e=>by
     rw[e];split <;> rfl
   refine hm.lookI a_bj x (key 0 (hf x)) (hm.bump a_bj x fun s' f' hm' hf' hfx hs' hne=>?_)
   have hes':Ext σ s':=fun i hi=>by
     rw[hs' i (fun e=>hi (by rw[e];exact hid))];exact hes i hi
   refine b_g (fun hb=>?_) (fun hb=>?_)
   · rw[if_neg (by rw[hb];simp)] at hF
     exact ⟨by simp[Cf.sigsOk,←hF],hes'⟩
   · refine hm'.lookI a_bj x (by rw[hfx];rfl) (bcd (fun h2=>?_) (fun h2=>?_))
     · have hin : x ∈ seen := by
         by_cases hin:x ∈ seen
         · exact hin
         · rw[if_neg hin] at h2;exact absurd h2 (by decide)
       rw[if_neg (by simp[hin])] at hF
       exact ⟨by simp[Cf.sigsOk,←hF],hes'⟩
     · have hin:x ∉ seen:=fun hin=>h2 (by rw[if_pos hin];decide)
       rw[if_pos ⟨hb,hin⟩] at hF
       have hn:=nx (fun r=>u_u c.Jts r (x::seen) =u_u c.Jts c.Sigs []) hF
       refine ⟨⟨x::seen,f',hm',fun z=>?_,hes',hn.1⟩,hn.2⟩
       by_cases hz:z=x
       · subst hz;rw[hfx,if_neg hin];simp;rfl
       · rw[hf' z hz,hf];simp[hz]
 · have hF:=hr.done (by simp) hge
   rw[u_u] at hF
   refine (h s).sigs.lenK ⟨?_,hes⟩
   rw[Cf.sigsOk,←hF,List.length_map,Bool.true_and]
   congr 4;simp;omega
theorem s_m:Pure prog e_d [cfA c0 c1 c2 c3 c4 c] σ (.a (bA c.xsOk)):=by
 have hl:=(h σ).xs.size
 rw[List.length_map] at hl
 refine .of (m_s _ _ _ _ _ _ _ _ _ σ _ ?_) (t_q _)
 refine a_f fun id σ1 hid _ he hs=>(h σ1).xs.lenK ⟨fun n s=>∃seen f,MapAt prog t_int iA s id f∧(∀z,f z=if z ∈ seen then some (iA 1) else none)∧Ext σ s∧Rng c.Xs (fun r=>xrun c.Secs r seen=xrun c.Secs c.Xs []) n,
   fun n _=>c.Xs.length - n.toNat,⟨[],_, .new hs,fun z=>by simp,he, .start rfl⟩,?_⟩
 rintro n s ⟨seen,f,hm,hf,hes,hr⟩
 refine bcd (fun hlt=>?_) (fun hge=>?_)
 · obtain ⟨j,x,rfl,hx,hj,hF,nx⟩:=hr.step (by simp) hl hlt
   refine (h s).xs.load (a_m hx) c_int rfl ⟨x,rfl,(c_t (h s) x).use (q_f _ ?_)⟩
   rw[xrun] at hF
   have key:(f x).getD (iA 0) =iA (if x ∈ seen then 1 else 0):=by
     rw[hf];split <;> rfl
   refine hm.lookI m_f x key (hm.put m_f x fun s' f' hm' hf' hfx hs' hne=>?_)
   have hes':Ext σ s':=fun i hi=>by
     rw[hs' i (fun e=>hi (by rw[e];exact hid))];exact hes i hi
   refine b_g (fun hb=>?_) (fun hb=>?_)
   · cases hg:b_c c.Secs x with
     | some y=>rw[hg] at hb;cases hb
     | none=>
       rw[hg] at hF
       exact ⟨by simp[Cf.xsOk,←hF],hes'⟩
   · obtain ⟨y,hg⟩:=Option.isSome_iff_exists.1 hb
     rw[hg] at hF
     simp only[hg,Option.getD_some] at hF ⊢
     refine bcn (fun h3=>?_) (fun h3=>?_)
     · rw[if_neg (by simp[h3])] at hF
       exact ⟨by simp[Cf.xsOk,←hF],hes'⟩
     refine hm'.lookI m_f x (by rw[hfx];rfl) (bcd (fun h2=>?_) (fun h2=>?_))
     · have hin : x ∈ seen := by
         by_cases hin:x ∈ seen
         · exact hin
         · rw[if_neg hin] at h2;exact absurd h2 (by decide)
       rw[if_neg (by simp[hin])] at hF
       exact ⟨by simp[Cf.xsOk,←hF],hes'⟩
     · have hin:x ∉ seen:=fun hin=>h2 (by rw[if_pos hin];decide)
       rw[if_pos ⟨h3,hin⟩] at hF
       have hn:=nx (fun r=>xrun c.Secs r (x::seen) =xrun c.Secs c.Xs []) hF
       refine ⟨⟨x::seen,f',hm',fun z=>?_,hes',hn.1⟩,hn.2⟩
       by_cases hz:z=x
       · subst hz;rw[hfx,if_neg hin];simp;rfl
       · rw[hf' z hz,hf];simp[hz]
 · have hF:=hr.done (by simp) hge
   rw[xrun] at hF
   refine (h s).xs.lenK ⟨?_,hes⟩
   rw[Cf.xsOk,←hF,List.length_map,Bool.true_and]
   congr 4;simp;omega
end
end
section
variable {σ:Store}
def c_n (σ:Store)(t:TypeId)(rows:List (List D))(r:RV)(σ':Store) :Prop:=σ'=σ∧∃d,r= .a (.one d)∧∀s,At prog s t d rows
theorem e_y {t:TypeId}{d:D}{rows:List (List D)}{s:Store}(h:Own prog σ s t d rows)(hf:∀row ∈ rows,∀x ∈ row,Flat x) :
   ∃r' σ',Ret prog σ s (.a (.one d)) σ' r'∧c_n σ t rows r' σ':=by
 obtain ⟨d',h1,h2⟩:=a_ap h.at_ h.ext h.new hf
 exact ⟨.a (.one d'),σ, .pure h.ext h1,rfl,d',rfl,h2⟩
theorem a_gx (l:List Nd) :∀row ∈ l.map Nd.enc,∀x ∈ row,Flat x:=by
 intro row hrow x hx
 obtain ⟨w,_,rfl⟩:=List.mem_map.1 hrow
 simp[Nd.enc] at hx
 rcases hx with rfl | rfl <;> exact .int _ _
theorem p_o (l:List Int) :∀row ∈ l.map Go.Fw.encI,∀x ∈ row,Flat x:=by
 intro row hrow x hx
 obtain ⟨w,_,rfl⟩:=List.mem_map.1 hrow
 simp[Go.Fw.encI] at hx
 subst hx;exact .int _ _
theorem z_6 {s:Store}{id:Nat}{t:TypeId}{x y:D}{K:Store→Prop}(hs:s id= .live t [[x]])(hK:∀s',s' id= .live t [[y]]→(∀i,i≠id→s' i=s i)→K s') :a_d [y] s (.osl id 0 1) 0 0 K:=
 ⟨id,0,1,t,[[x]],[x],rfl,by omega,hs,rfl,by simp,hK _ (Store.set_same _ _ _) fun i hi=>Store.set_ne _ _ hi⟩
section
variable {c0 c1 c2 c3 c4:D} {c:Cf} (h:∀s,CfAt s c0 c1 c2 c3 c4 c)
include h
theorem y_v (a:Int){d:D}{path:List St}(hp:∀s,At prog s a_i d (path.map St.enc))(hpl:path.length≤2 ^ 20) :
   DCalls prog d_j [cfA c0 c1 c2 c3 c4 c,iA a, .one d] σ (c_n σ a_r ((c.flank a path).map Nd.enc)):=by
 have hl:=(hp σ).size
 rw[List.length_map] at hl
 refine (j_q _ _ _ _ _ _ _ _ _ a d σ _ ?_).ret (Q:=fun r s=>∃r' σ',Ret prog σ s r σ' r'∧c_n σ a_r ((c.flank a path).map Nd.enc) r' σ') (fun r s h=>h)
 refine (hp σ).lenK ⟨fun d n s=>∃out:List Nd,Own prog σ s a_r d (out.map Nd.enc)∧out.length≤4 * n.toNat∧Rng path (fun r=>b_n c a path r out=c.flank a path) n,fun _ n _=>path.length - n.toNat,
   ⟨[], .nil _ (.refl _),by simp, .start rfl⟩,?_⟩
 rintro d1 n s ⟨out,ho,hol,hr⟩
 refine bcd (fun hlt=>?_) (fun hge=>?_)
 · obtain ⟨j,x,rfl,hx,hj,hF,nx⟩:=hr.step (by simp) hl hlt
   refine (hp s).load (a_m hx) c_s rfl ⟨x.Sec,x.In,x.Out,rfl,(c_t (h s) x.Sec).use (q_f _ ?_)⟩
   rw[b_n] at hF
   refine b_g (fun hb=>?_) (fun hb=>?_)
   · cases hg:b_c c.Secs x.Sec with
     | some y=>rw[hg] at hb;cases hb
     | none=>
       rw[hg] at hF
       have hn:=nx (fun r=>b_n c a path r out=c.flank a path) hF
       exact ⟨⟨out,ho,by rw[a_g (by omega)];omega,hn.1⟩,hn.2⟩
   · obtain ⟨y,hg⟩:=Option.isSome_iff_exists.1 hb
     rw[hg] at hF
     simp only[hg,Option.getD_some] at hF ⊢
     refine (h_8 _).use ⟨_,rfl,?_⟩
     have hne:=n_e y.Kind
     refine ⟨fun d m s'=>∃out':List Nd,Own prog σ s' a_r d (out'.map Nd.enc)∧0≤m∧m≤a_x y.Kind∧out'.length≤4 * j+m.toNat∧a_y c a path x (a_x y.Kind - m).toNat m out'=a_y c a path x (a_x y.Kind).toNat 0 out,
       fun _ m _=>(a_x y.Kind - m).toNat,⟨out,ho,by omega,hne.1,by simp at hol ⊢;omega,by rw[Int.sub_zero]⟩,?_⟩
     rintro d2 m s' ⟨out',ho',hm0,hm1,hol',hE⟩
     refine bcd (fun hlt'=>?_) (fun hge'=>?_)
     · have hw:w64 (m+1) =m+1:=d_9 (by omega) (by omega)
       have hk:(a_x y.Kind - m).toNat=(a_x y.Kind - (m+1)).toNat+1:=by omega
       rw[hk,a_y] at hE
       have leaf : ∀ (out2 : List Nd) (d3 : D) (s2 : Store), a_1 c a path x out' m = out2 → Own prog σ s2 a_r d3 (out2.map Nd.enc) →
           (∃out':List Nd,Own prog σ s2 a_r d3 (out'.map Nd.enc)∧0≤w64 (m+1)∧w64 (m+1)≤a_x y.Kind∧out'.length≤4 * j+ (w64 (m+1)).toNat∧a_y c a path x (a_x y.Kind - w64 (m+1)).toNat (w64 (m+1)) out'=a_y c a path x (a_x y.Kind).toNat 0 out)∧
           (a_x y.Kind - w64 (m+1)).toNat < (a_x y.Kind - m).toNat:=by
         intro out2 d3 s2 h1 h2
         have hlen:=(g_5 c a path x out' m).2
         rw[hw]
         refine ⟨⟨out2,h2,by omega,by omega,by rw[←h1];omega,by rw[←h1];exact hE⟩,by omega⟩
       intro R hR
       refine bce (fun h1=>⟨trivial,leaf out' d2 s' (by rw[a_1,if_pos (.inl h1)]) ho'⟩) (fun h1=>bce (fun h2=>⟨trivial,leaf out' d2 s' (by rw[a_1,if_pos (.inr h2)]) ho'⟩) (fun h2=>⟨trivial,hR s' ?_⟩))
       have hst:a_1 c a path x out' m=match nxt c.Jts x.Sec m with
         | none=>out'
         | some (q,f)=>match b_c c.Secs q with
           | none=>out'
           | some y=>if y.Kind=1∧(1≤f∧f≤2)∧q≠a∧e_l path q=false∧(out'.any fun n=>n.Sec == q) =false then out' ++ [⟨q,3 - f⟩] else out':=by
         rw[a_1,if_neg (by rintro (e | e);exact h1 e;exact h2 e)] <;> rfl
       refine (e_w x.Sec m (h s').jts).use (j_z _ ?_)
       generalize nxt c.Jts x.Sec m=o at hst
       refine a_f fun id s2 hid _ he hs2=>z_6 hs2 fun s3 hs3 hs3'=>?_
       have he3:Ext s' s3:=fun i hi=>by
         rw[hs3' i (fun e=>hi (by rw[e];exact hid))];exact he i hi
       have ho3:=ho'.ext' he3
       refine ⟨_,a_j hs3,_,rfl,(c_t (h s3) _).use (q_f _ ?_)⟩
       intro R1 hR1
       refine b_g (fun hb1=>?_) (fun hb1=>?_)
       · cases o with
         | some p=>cases hb1
         | none=>exact ⟨trivial,leaf out' d2 s3 hst ho3⟩
       obtain ⟨⟨q,f⟩,rfl⟩:=Option.isSome_iff_exists.1 hb1
       simp only[Option.getD_some] at hst hR1 hs3 ⊢
       refine b_g (fun hb2=>?_) (fun hb2=>?_)
       · cases hg2:b_c c.Secs q with
         | some p=>rw[hg2] at hb2;cases hb2
         | none=>rw[hg2] at hst;exact ⟨trivial,leaf out' d2 s3 hst ho3⟩
       obtain ⟨y2,hg2⟩:=Option.isSome_iff_exists.1 hb2
       rw[hg2] at hst
       simp only[hg2,Option.getD_some] at hst ⊢
       have no:¬(y2.Kind=1∧(1≤f∧f≤2)∧q≠a∧e_l path q=false∧(out'.any fun n=>n.Sec == q) =false)→a_1 c a path x out' m=out':=fun hn=>by rw[hst,if_neg hn]
       refine bcn (fun h3=>⟨trivial,leaf out' d2 s3 (no fun h=>h3 h.1) ho3⟩) (fun h3=>?_)
       refine bcd (fun h4=>⟨trivial,leaf out' d2 s3 (no fun h=>by omega) ho3⟩) (fun h4=>?_)
       refine bcd (fun h5=>⟨trivial,leaf out' d2 s3 (no fun h=>by omega) ho3⟩) (fun h5=>?_)
       refine ⟨_,a_j hs3,q,rfl,bce (fun h6=>⟨trivial,leaf out' d2 s3 (no fun h=>h.2.2.1 h6) ho3⟩) (fun h6=>?_)⟩
       refine ⟨_,a_j hs3,q,rfl,(n_m q (hp s3)).use ⟨_,rfl,bc (fun h7=>⟨trivial,leaf out' d2 s3 (no fun h=>by rw[h.2.2.2.1] at h7;cases h7) ho3⟩) (fun h7=>?_)⟩⟩
       refine (x_q ho3.at_ hs3).use ⟨_,rfl,bc (fun h8=>⟨trivial,leaf out' d2 s3 (no fun h=>by rw[h.2.2.2.2] at h8;cases h8) ho3⟩) (fun h8=>⟨trivial,hR1 s3 ?_⟩)⟩
       refine ⟨_,a_j hs3,q,rfl,a_f fun id1 s4 hid1 _ he4 hs4=>?_⟩
       have hw2:w64 (3 - f) =3 - f:=d_9 (by omega) (by omega)
       have ho4:=ho3.ext' he4
       refine ho4.append (At.fresh hs4 (by simp) rfl) (by simp;omega) (by simp;omega) fun d4 s5 ho5 _ _=>⟨trivial,leaf (out' ++ [⟨q,3 - f⟩]) d4 s5 (by rw[hst,if_pos ⟨h3,⟨by omega,by omega⟩,h6,h7,h8⟩]) ?_⟩
       rw[hw2] at ho5
       rw[List.map_append]
       exact ho5
     · have hz:(a_x y.Kind - m).toNat=0:=by omega
       rw[hz,a_y] at hE
       rw[←hE] at hF
       have hn:=nx (fun r=>b_n c a path r out'=c.flank a path) hF
       exact ⟨⟨out',ho',by rw[a_g (by omega)];omega,hn.1⟩,hn.2⟩
 · have hF:=hr.done (by simp) hge
   rw[b_n] at hF
   rw[←hF]
   exact e_y ho (a_gx _)
theorem m_h (r:Rt){d1 d2 d3:D}(hp:∀s,At prog s a_i d1 (r.Path.map St.enc)) :
   DCalls prog d_p [cfA c0 c1 c2 c3 c4 c,rtA d1 d2 d3 r] σ (c_n σ t_int ((c.overlap r).map Go.Fw.encI)):=by
 refine (o_8 _ _ _ _ _ _ _ _ _ _ _ d1 d2 d3 _ σ _ ?_).ret (Q:=fun r' s=>∃r'' σ',Ret prog σ s r' σ' r''∧c_n σ t_int ((c.overlap r).map Go.Fw.encI) r'' σ') (fun r s h=>h)
 refine (g_f (h σ) _).use (a_kn _ ?_)
 intro R hR
 have nil:c.overlap r=[]→∃r'' σ',Ret prog σ σ (.a (.one .nils)) σ' r''∧c_n σ t_int ((c.overlap r).map Go.Fw.encI) r'' σ':=fun e=>by
   rw[e];exact e_y (.nil _ (.refl _)) (p_o _)
 refine bc (fun h1=>nil (by rw[Cf.overlap,if_pos h1])) (fun h1=>b_g (fun h2=>nil ?_) (fun h2=>⟨rfl,hR σ ?_⟩))
 · rw[Cf.overlap,if_neg (by rw[h1];simp)]
   cases hg:b_c c.Sigs r.Exit with
   | none=>rfl
   | some x=>rw[hg] at h2;cases h2
 obtain ⟨x,hg⟩:=Option.isSome_iff_exists.1 h2
 simp only[hg,Option.getD_some] at hR ⊢
 have hov:c.overlap r=match nxt c.Jts x.Sec x.End_ with
   | none=> []
   | some (q,_)=>match b_c c.Secs q with
     | none=> []
     | some y=>if y.Line=0∧e_l r.Path q=false∧q≠c.approach r then [q] else []:=by
   rw[Cf.overlap,if_neg (by rw[h1];simp),hg] <;> rfl
 refine (e_w _ _ (h σ).jts).use (j_z _ ((c_t (h σ) _).use (q_f _ ?_)))
 generalize nxt c.Jts x.Sec x.End_=o at hov
 refine b_g (fun hb1=>nil ?_) (fun hb1=>?_)
 · cases o with
   | none=>exact hov
   | some p=>cases hb1
 obtain ⟨⟨q,f⟩,rfl⟩:=Option.isSome_iff_exists.1 hb1
 simp only[Option.getD_some] at hov ⊢
 refine b_g (fun hb2=>nil ?_) (fun hb2=>?_)
 · cases hg2:b_c c.Secs q with
   | none=>rw[hg2] at hov;exact hov
   | some p=>rw[hg2] at hb2;cases hb2
 obtain ⟨y,hg2⟩:=Option.isSome_iff_exists.1 hb2
 simp only[hg2,Option.getD_some] at hov ⊢
 have no:¬(y.Line=0∧e_l r.Path q=false∧q≠c.approach r)→c.overlap r=[]:=fun hn=>by rw[hov,if_neg hn]
 refine bcn (fun h3=>nil (no fun h=>h3 h.1)) (fun h3=>(n_m q (hp σ)).use ⟨_,rfl,bc (fun h4=>nil (no fun h=>by rw[h.2.1] at h4;cases h4)) (fun h4=>(g_1 (h σ) r d1 d2 d3).use ⟨_,rfl,bce (fun h5=>nil (no fun h=>h.2.2 h5)) (fun h5=>?_)⟩)⟩)
 refine a_f fun id s2 hid _ he hs2=>?_
 rw[hov,if_pos ⟨h3,h4,h5⟩]
 exact e_y ⟨At.fresh hs2 (by simp) rfl,he,v_6 hid,fun h=>h,by intro e;cases e⟩ (p_o _)
end
end
section
variable {σ:Store}
section
variable {c0 c1 c2 c3 c4:D} {c:Cf} (h:∀s,CfAt s c0 c1 c2 c3 c4 c)
include h
theorem a_bu (r:Rt){d1 d2 d3:D}(hp:∀s,At prog s a_i d1 (r.Path.map St.enc)) :
   Pure prog g_r [cfA c0 c1 c2 c3 c4 c,rtA d1 d2 d3 r] σ (.a (bA (c.path r))):=by
 have hl:=(hp σ).size
 rw[List.length_map] at hl
 refine .of (t_w _ _ _ _ _ _ _ _ _ _ _ d1 d2 d3 _ σ _ ?_) (t_q _)
 refine (g_f (h σ) _).use (a_kn _ ((g_f (h σ) _).use (a_kn _ ?_)))
 intro R hR
 refine b_g (fun h1=>?_) (fun h1=>?_)
 · cases hg:b_c c.Sigs r.Entry with
   | some x=>rw[hg] at h1;cases h1
   | none=>exact ⟨by rw[Cf.path,hg], .refl _⟩
 obtain ⟨a,hg⟩:=Option.isSome_iff_exists.1 h1
 have hpath:c.path r=((decide (r.Exit= -1) || (b_c c.Sigs r.Exit).isSome) && decide (1≤r.Path.length∧r.Path.length≤8) && u_v c r (b_c c.Sigs r.Exit) r.Path a [a.Sec]):=by rw[Cf.path,hg]
 rw[hg,Option.getD_some] at hR
 generalize hex:b_c c.Sigs r.Exit=ex at hpath hR
 have hlen:decide ((1:Int)≤((r.Path.map St.enc).length:Int)∧((r.Path.map St.enc).length:Int)≤8) =decide (1≤r.Path.length∧r.Path.length≤8):=by
   rw[List.length_map];congr 1;apply propext;omega
 have hgo:decide (1≤r.Path.length∧r.Path.length≤8) =true→(decide (r.Exit= -1) || ex.isSome) =true→R σ:=by
   intro hlen2 hexok
   rw[hlen2,hexok] at hpath
   simp only[Bool.true_and] at hpath
   refine hR σ (a_f fun id s1 hid _ he1 hs1=>(MapAt.new hs1).put m_f a.Sec fun s2 f2 hm2 hf2 hfx2 hs2 hne2=>?_)
   have he2:Ext σ s2:=fun i hi=>by
     rw[hs2 i (fun e=>hi (by rw[e];exact hid))];exact he1 i hi
   refine (hp s2).lenK ⟨fun m e n s=>∃seen f,MapAt prog t_int iA s id f∧(∀z,f z=if z ∈ seen then some (iA 1) else none)∧Ext σ s∧Rng r.Path (fun q=>u_v c r ex q ⟨m,e⟩ seen=c.path r) n,fun _ _ n _=>r.Path.length - n.toNat,
     ⟨[a.Sec],f2,hm2,fun z=>?_,he2, .start hpath.symm⟩,?_⟩
   · by_cases hz:z=a.Sec
     · subst hz;rw[hfx2];simp
     · rw[hf2 z hz];simp[hz]
   rintro m e n s ⟨seen,f,hm,hf,hes,hr⟩
   refine bcd (fun hlt=>?_) (fun hge=>?_)
   · obtain ⟨j,x,rfl,hx,hj,hF,nx⟩:=hr.step (by simp) hl hlt
     intro R1 hR1
     refine (hp s).load (a_m hx) c_s rfl ⟨x.Sec,x.In,x.Out,rfl,(e_w m e (h s).jts).use (j_z _ ((c_t (h s) _).use (q_f _ ((a_eq _ _ _).use (a_n5 _ ?_)))))⟩
     rw[u_v] at hF
     have bad:z_5 c r ex ⟨m,e⟩ x (r.Path.drop (j+1)).isEmpty seen=false→∀s',Ext σ s'→(RV.a (.one (.bool false)) = .a (bA (c.path r))∧Ext σ s'):=fun hb s' he'=>by
       rw[hb] at hF
       exact ⟨by rw[←hF];rfl,he'⟩
     have good:z_5 c r ex ⟨m,e⟩ x (r.Path.drop (j+1)).isEmpty seen=true→∀s' f',MapAt prog t_int iA s' id f'→(∀z,f' z=if z ∈ x.Sec::seen then some (iA 1) else none)→Ext σ s'→R1 x.Sec x.Out s':=fun hb s' f' hm' hf' he'=>by
       rw[hb,Bool.true_and] at hF
       have hn:=nx (fun q=>u_v c r ex q ⟨x.Sec,x.Out⟩ (x.Sec::seen) =c.path r) hF
       exact hR1 _ _ _ ⟨rfl,⟨x.Sec::seen,f',hm',hf',he',hn.1⟩,hn.2⟩
     have hst:z_5 c r ex ⟨m,e⟩ x (r.Path.drop (j+1)).isEmpty seen=match nxt c.Jts m e with
       | none=>false
       | some (q,i)=>decide (q=x.Sec) && decide (i=x.In) && (r_c (h_1 ((b_c c.Secs q).getD ⟨0,0,0⟩).Kind) x.In x.Out).isSome && decide (q ∉ seen) &&
         (!(c.Sigs.any fun y=>decide (⟨x.Sec,x.Out⟩ =y)) || ((r.Path.drop (j+1)).isEmpty && decide (ex=some ⟨x.Sec,x.Out⟩))) && !(r.Shunt && decide (((b_c c.Secs q).getD ⟨0,0,0⟩).Line≠0)):=rfl
     generalize nxt c.Jts m e=o at hst
     have key:(f (o.getD (0,0)).1).getD (iA 0) =iA (if (o.getD (0,0)).1 ∈ seen then 1 else 0):=by
       rw[hf];split <;> rfl
     refine hm.lookI m_f _ key (hm.put m_f _ fun s' f' hm' hf' hfx hs' hne=>?_)
     have hes':Ext σ s':=fun i hi=>by
       rw[hs' i (fun e=>hi (by rw[e];exact hid))];exact hes i hi
     refine (r_d ⟨x.Sec,x.Out⟩ (h s').sigs).use ⟨_,rfl,?_⟩
     intro R2 hR2
     have main:R2 ((r.Path.drop (j+1)).isEmpty && decide (ex=some ⟨x.Sec,x.Out⟩)) s':=by
       refine hR2 _ _ (b_g (fun k1=>bad ?_ s' hes') (fun k1=>?_))
       · cases o with
         | none=>exact hst
         | some p=>cases k1
       obtain ⟨⟨q,i⟩,rfl⟩:=Option.isSome_iff_exists.1 k1
       simp only[Option.getD_some] at hst key hfx hf' ⊢
       refine bcn (fun k2=>bad (by rw[hst];simp[k2]) s' hes') (fun k2=>?_)
       refine bcn (fun k3=>bad (by rw[hst];simp[k3]) s' hes') (fun k3=>?_)
       refine b_g (fun k4=>bad (by rw[hst,k4];simp) s' hes') (fun k4=>?_)
       refine hm'.lookI m_f q (by rw[hfx];rfl) (bcd (fun k5=>?_) (fun k5=>?_))
       · have hin : q ∈ seen := by
           by_cases hin:q ∈ seen
           · exact hin
           · rw[if_neg hin] at k5;exact absurd k5 (by decide)
         exact bad (by rw[hst];simp[hin]) s' hes'
       have hin:q ∉ seen:=fun hin=>k5 (by rw[if_pos hin];decide)
       have hfin:z_5 c r ex ⟨m,e⟩ x (r.Path.drop (j+1)).isEmpty seen=true→R1 x.Sec x.Out s':=fun hb=>good hb s' f' hm' (fun z=>by
         by_cases hz:z=q
         · subst hz;rw[hfx,if_neg hin,k2];simp;rfl
         · rw[hf' z hz,hf];simp[k2 ▸ hz]) hes'
       have hpre:(decide (q=x.Sec) && decide (i=x.In) && (r_c (h_1 ((b_c c.Secs q).getD ⟨0,0,0⟩).Kind) x.In x.Out).isSome && decide (q ∉ seen)) =true:=by
         rw[k4];simp[k2,k3];rw[←k2];exact hin
       rw[hpre,Bool.true_and] at hst
       refine bc (fun k6=>b_g (fun k7=>bad ?_ s' hes') (fun k7=>?_)) (fun k6=>?_)
       · rw[hst,k6,k7];rfl
       · rw[k6,k7] at hst
         refine bc (fun k8=>bcn (fun k9=>bad ?_ s' hes') (fun k9=>⟨trivial,hfin ?_⟩)) (fun k8=>⟨trivial,hfin ?_⟩)
         · rw[hst,k8];simp[k9]
         · rw[hst];simp[k9]
         · rw[hst,k8];rfl
       · rw[k6] at hst
         refine bc (fun k8=>bcn (fun k9=>bad ?_ s' hes') (fun k9=>⟨trivial,hfin ?_⟩)) (fun k8=>⟨trivial,hfin ?_⟩)
         · rw[hst,k8];simp[k9]
         · rw[hst];simp[k9]
         · rw[hst,k8];rfl
     refine (hp s').lenK ?_
     have hw:w64 (((r.Path.map St.enc).length:Int) - 1) =(r.Path.length:Int) - 1:=by rw[List.length_map,d_9 (by omega) (by omega)]
     rw[hw]
     refine bce (fun q1=>bc (fun q2=>⟨rfl,?_⟩) (fun q2=>⟨rfl,?_⟩)) (fun q1=>⟨rfl,?_⟩)
     · have hemp:(r.Path.drop (j+1)).isEmpty=true:=by rw[e_u (by omega)];rfl
       obtain ⟨y,rfl⟩:=Option.isSome_iff_exists.1 q2
       rw[hemp,Bool.true_and] at main
       have hd:decide (some y=some (⟨x.Sec,x.Out⟩ :Sg)) =(x.Sec == y.Sec && x.Out == y.End_):=by
         cases y with
         | mk y1 y2=>
           rw[Bool.eq_iff_iff];simp
           exact ⟨fun ⟨a,b⟩=>⟨a.symm,b.symm⟩,fun ⟨a,b⟩=>⟨a.symm,b.symm⟩⟩
       rw[hd] at main
       exact main
     · have hd:ex=none:=by cases ex;rfl;cases q2
       rw[hd] at main
       simpa using main
     · have hemp : (r.Path.drop (j + 1)).isEmpty = false := by
         cases hd:r.Path.drop (j+1) with
         | nil=>rw[List.drop_eq_nil_iff] at hd;omega
         | cons y l=>rfl
       rw[hemp,Bool.false_and] at main
       exact main
   · have hF:(match (generalizing:=false) ex with | some x=>decide ((⟨m,e⟩ :Sg) =x) | none=> !(nxt c.Jts m e).isSome) =c.path r:=hr.done (by simp) hge
     refine bc (fun q2=>?_) (fun q2=>?_)
     · obtain ⟨y,rfl⟩:=Option.isSome_iff_exists.1 q2
       refine ⟨?_,hes⟩
       rw[←hF]
       cases y with
       | mk y1 y2=>
         congr 4;rw[Bool.eq_iff_iff];simp
     · have hd:ex=none:=by cases ex;rfl;cases q2
       subst hd
       refine (e_w m e (h s).jts).use (j_z _ ⟨?_,hes⟩)
       rw[←hF]
 refine b_g (fun h2=>bcn (fun h3=>⟨?_, .refl _⟩) (fun h3=>(hp σ).lenK ((c_d _ _ _).use ⟨_,rfl,b_g (fun h4=>⟨?_, .refl _⟩) (fun h4=>⟨rfl,hgo ?_ ?_⟩)⟩))) (fun h2=>(hp σ).lenK ((c_d _ _ _).use ⟨_,rfl,b_g (fun h4=>⟨?_, .refl _⟩) (fun h4=>⟨rfl,hgo ?_ ?_⟩)⟩))
 · rw[hpath,h2];simp[h3]
 · rw[hlen] at h4;rw[hpath,h4];simp
 · rw[←hlen];exact h4
 · simp[h3]
 · rw[hlen] at h4;rw[hpath,h4];simp
 · rw[←hlen];exact h4
 · simp[h2]
theorem y_0 (r:Rt){d1 d2 d3:D}(hp:∀s,At prog s a_i d1 (r.Path.map St.enc))(hf:∀s,At prog s a_r d2 (r.Flank.map Nd.enc))(ho:∀s,At prog s t_int d3 (r.Overlap.map Go.Fw.encI)) :
   Pure prog f_8 [cfA c0 c1 c2 c3 c4 c,rtA d1 d2 d3 r] σ (.a (iA (c.route r))):=by
 refine s_u _ _ _ _ _ _ _ _ _ _ _ d1 d2 d3 _ σ _ ((a_bu h r hp).use ⟨_,rfl,b_g (fun h1=>⟨by rw[Cf.route,if_pos h1],rfl⟩) (fun h1=>?_)⟩)
 have hpl:r.Path.length≤8:=by
   unfold Cf.path at h1
   split at h1
   · cases h1
   · simp at h1;exact h1.1.2.2
 refine (g_1 (h σ) r d1 d2 d3).use ⟨_,rfl,(y_v h _ hp (by omega)).mono ?_⟩
 rintro r1 s1 ⟨rfl,d,rfl,hd⟩
 refine ⟨d,rfl,(z_c (hf _) (hd _)).use ⟨_,rfl,b_g (fun h2=>⟨?_,rfl⟩) (fun h2=>(m_h h r hp).mono ?_)⟩⟩
 · rw[Cf.route,if_neg (by rw[h1];simp),if_pos (of_decide_eq_false h2)]
 rintro r2 s2 ⟨rfl,d',rfl,hd'⟩
 have e2:=of_decide_eq_true h2
 refine ⟨d',rfl,(a_b0 (ho _) (hd' _)).use ⟨_,rfl,b_g (fun h3=>⟨?_,rfl⟩) (fun h3=>⟨?_,rfl⟩)⟩⟩
 · rw[Cf.route,if_neg (by rw[h1];simp),if_neg (fun hn=>hn e2),if_pos (of_decide_eq_false h3)]
 · rw[Cf.route,if_neg (by rw[h1];simp),if_neg (fun hn=>hn e2),if_neg (fun hn=>hn (of_decide_eq_true h3))]
theorem y_y:Pure prog m_b [cfA c0 c1 c2 c3 c4 c] σ (.a (iA c.check)):=by
 refine a_a0 _ _ _ _ _ _ _ _ _ σ _ ((y_4 (fun s=>(h s).secs) (fun s=>(h s).jts)).use ⟨_,rfl,?_⟩)
 have e6:(if d_z c.Secs c.Jts=true then (0:Int) else 6)≠0↔d_z c.Secs c.Jts=false:=by
   cases d_z c.Secs c.Jts <;> simp
 refine bcn (fun k1=>⟨by rw[Cf.check,if_pos (e6.1 k1)],rfl⟩) (fun k1=>(v_b h).use ⟨_,rfl,b_g (fun k2=>⟨?_,rfl⟩) (fun k2=>(s_m h).use ⟨_,rfl,b_g (fun k3=>⟨?_,rfl⟩) (fun k3=>?_)⟩)⟩)
 all_goals have k1':¬d_z c.Secs c.Jts=false:=fun e=>e6.2 e k1
 · rw[Cf.check,if_neg k1',if_pos k2]
 · rw[Cf.check,if_neg k1',if_neg (by rw[k2];simp),if_pos k3]
 have hck:c.check=if c.Rts.length > 12 then 9 else if c.routes c.Rts≠0 then c.routes c.Rts else if c.timing=true then 0 else 12:=by
   rw[Cf.check,if_neg k1',if_neg (by rw[k2];simp),if_neg (by rw[k3];simp)]
 obtain ⟨rows,hat,hlen,hrow⟩:=r_1 fun s=>(h s).rts
 have hl:=(hat σ).size
 refine (hat σ).lenK (bcd (fun k4=>⟨by rw[hck,if_pos (by omega)],rfl⟩) (fun k4=>(hat σ).lenK ?_))
 rw[if_neg (by omega)] at hck
 refine ⟨fun n s=>s=σ∧Rng c.Rts (fun l=>c.routes l=c.routes c.Rts) n,fun n _=>c.Rts.length - n.toNat,⟨rfl, .start rfl⟩,?_⟩
 rintro n τ ⟨rfl,hr⟩
 refine bcd (fun hlt=>?_) (fun hge=>?_)
 · obtain ⟨j,x,rfl,hx,hj,hF,nx⟩:=hr.step hlen (by omega) hlt
   obtain ⟨row,hrw⟩:=a_h (l:=rows) (j:=j) (by omega)
   obtain ⟨d1,d2,d3,rfl,q1,q2,q3⟩:=hrow j row x hrw hx
   refine (hat τ).load hrw b_h rfl ⟨_,_,d1,d2,d3,_,rfl,(y_0 h x q1 q2 q3).use ⟨_,rfl,?_⟩⟩
   rw[Cf.routes] at hF
   refine bcn (fun k5=>⟨?_,rfl⟩) (fun k5=>?_)
   · rw[if_pos k5] at hF
     rw[hck,←hF,if_pos k5]
   · rw[if_neg (by simp[k5])] at hF
     exact ⟨rfl,m_t rfl (nx _ hF)⟩
 · have hF:0=c.routes c.Rts:=hr.done hlen hge
   rw[←hF,if_neg (by simp)] at hck
   have hpos:c.timing=(decide (1≤c.Age∧c.Age≤8) && decide (0≤c.Brake∧c.Brake≤8) && decide (c.Age+c.Brake+1≤c.Hold∧c.Hold≤40) && decide (1≤c.Budget∧c.Budget≤1000000)):=rfl
   refine (c_d _ _ _).use ⟨_,rfl,b_g (fun k5=>⟨?_,rfl⟩) (fun k5=>(c_d _ _ _).use ⟨_,rfl,b_g (fun k6=>⟨?_,rfl⟩) (fun k6=>(c_d _ _ _).use ⟨_,rfl,?_⟩)⟩)⟩
   · rw[hck,hpos,k5];simp
   · rw[hck,hpos,k6];simp
   have a5:=of_decide_eq_true k5
   have a6:=of_decide_eq_true k6
   rw[d_9 (n:=c.Age+c.Brake) (by omega) (by omega),d_9 (n:=c.Age+c.Brake+1) (by omega) (by omega)]
   refine b_g (fun k7=>⟨?_,rfl⟩) (fun k7=>(c_d _ _ _).use ⟨_,rfl,b_g (fun k8=>⟨?_,rfl⟩) (fun k8=>⟨?_,rfl⟩)⟩)
   · rw[hck,hpos,k7];simp
   · rw[hck,hpos,k8];simp
   · rw[hck,hpos,k5,k6,k7,k8];rfl
end
end
end Go.Proofs.YtfdffboelecgoaaGreatDoor
section
namespace Go.Fw
theorem o_l {j n:Nat}(h:j < n) :n - ((j+1:Nat) :Int).toNat < n - ((j:Nat) :Int).toNat:=by omega
def inL (l:List Int)(n:Int) :Bool:=decide (n ∈ l)
def x_h (c:Cf)(s:Int) :Int:=((b_c c.Secs s).map Sec.Kind).getD (-1)
theorem a_n9 {js:List Jt}{s e:Int}{p:Int × Int}(h:nxt js s e=some p) :∃j ∈ js,(j.B=p.1∧j.BEnd=p.2)∨(j.A=p.1∧j.AEnd=p.2):=by
 induction js with
 | nil=>cases h
 | cons j r ih=>
   rw[nxt] at h
   split at h
   · cases h;exact ⟨j,by simp, .inl ⟨rfl,rfl⟩⟩
   split at h
   · cases h;exact ⟨j,by simp, .inr ⟨rfl,rfl⟩⟩
   · obtain ⟨k,h1,h2⟩:=ih h
     exact ⟨k,by simp[h1],h2⟩
theorem a_m3 {c:Cf}(ht:d_z c.Secs c.Jts=true){s e q f:Int}(h:nxt c.Jts s e=some (q,f)) :∃y,b_c c.Secs q=some y:=by
 obtain ⟨j,hj,h1⟩:=a_n9 h
 obtain ⟨_,_,h3⟩:=(a_hf _ _).1 ht
 obtain ⟨a,b,_⟩:=h3 j hj
 have:0≤q∧q < c.Secs.length:=by rcases h1 with ⟨e1,_⟩ | ⟨e1,_⟩ <;> simp only at e1 <;> omega
 obtain ⟨y,hy⟩:=a_h (l:=c.Secs) (j:=q.toNat) (by omega)
 exact ⟨y,by unfold b_c;rw[if_neg (by omega),hy]⟩
theorem l_1 {c:Cf}{s:Int}{y:Sec}(h:b_c c.Secs s=some y) :x_h c s=y.Kind:=by unfold x_h;rw[h];rfl
theorem l_6 {c:Cf}{s:Int}(h:b_c c.Secs s=none) :x_h c s= -1:=by unfold x_h;rw[h];rfl
theorem z_p (path:List St)(q:Int) :inL (path.map St.Sec) q=e_l path q:=by
 unfold inL e_l
 induction path with
 | nil=>rfl
 | cons x r ih=>
   rw[List.any_cons,←ih,List.map_cons]
   by_cases h:x.Sec=q
   · simp[h]
   · simp[h,Ne.symm h]
theorem o_o {α:Type}{l:List α}{i:Int}(h0:¬i < 0)(h1:¬i≥(l.length:Int)) :∃x,b_c l i=some x:=by
 obtain ⟨x,hx⟩:=a_h (l:=l) (j:=i.toNat) (by omega)
 exact ⟨x,by unfold b_c;rw[if_neg h0];exact hx⟩
end Go.Fw
namespace Go.Fw
theorem a_o5 (out:List Nd)(q:Int) :inL (out.map Nd.Sec) q=out.any fun n=>n.Sec == q:=by
 unfold inL
 induction out with
 | nil=>rfl
 | cons x r ih=>
   rw[List.any_cons,←ih,List.map_cons]
   by_cases h:x.Sec=q
   · simp[h]
   · simp[h,Ne.symm h]
end Go.Fw
end
namespace Go.Proofs.YtfdffboelecgoaaGreatDoor
open Go.Fw Go.Proofs Go.RowKit
open Go.Proofs.Tryz (prog)
section
variable {σ:Store}
theorem g_8 {d:D}{l:List Int}(n:Int)(h:At prog σ t_int d (l.map Go.Fw.encI)) :Pure prog c_3 [.one d,iA n] σ (.a (bA (inL l n))):=by
 have hs:=h.size
 rw[List.length_map] at hs
 refine a_g1 d n σ _ (h.lenK ⟨fun m s=>s=σ∧Rng l (fun r=>inL r n=inL l n) m,fun m _=>l.length - m.toNat,⟨rfl, .start rfl⟩,?_⟩)
 rintro m s ⟨rfl,hr⟩
 refine bcd (fun hlt=>?_) (fun hge=>⟨?_,rfl⟩)
 · obtain ⟨j,x,rfl,hx,hj,hF,nx⟩:=hr.step (by simp) hs hlt
   refine h.load (a_m hx) c_int rfl ⟨x,rfl,bce (fun e=>⟨?_,rfl⟩) (fun e=>m_t rfl (nx (fun r=>inL r n=inL l n) ?_))⟩
   · rw[←hF,inL,e,decide_eq_true (by simp)]
   · rw[←hF,inL,inL];exact decide_eq_decide.2 (by simp[Ne.symm e])
 · rw[←hr.done (by simp) hge];rfl
theorem j_k {d:D}{path:List St}(h:∀s,At prog s a_i d (path.map St.enc))(hb:24 * path.length≤140737488355328) :
   DCalls prog b_3 [.one d] σ (c_n σ t_int ((path.map St.Sec).map Go.Fw.encI)):=by
 have hs:=(h σ).size
 rw[List.length_map] at hs
 refine (k_q d σ _ ?_).ret (Q:=fun r s=>∃r' σ',Ret prog σ s r σ' r'∧c_n σ t_int ((path.map St.Sec).map Go.Fw.encI) r' σ') (fun r s h=>h)
 refine (h σ).lenK ⟨fun d n s=>∃j:Nat,n=j∧j≤path.length∧Own prog σ s t_int d (((path.take j).map St.Sec).map Go.Fw.encI),fun _ n _=>path.length - n.toNat,⟨0,rfl,by omega, .nil _ (.refl _)⟩,?_⟩
 rintro d1 _ s ⟨j,rfl,hj,ho⟩
 rw[List.length_map]
 refine bcd (fun hlt=>?_) (fun hge=>?_)
 · obtain ⟨x,hx⟩:=a_h (l:=path) (j:=j) (by omega)
   refine (h s).load (a_m hx) c_s rfl ⟨x.Sec,x.In,x.Out,rfl,a_f fun id s2 hid _ he hs2=>?_⟩
   have hl:(((path.take j).map St.Sec).map Go.Fw.encI).length=j:=by simp;omega
   refine (ho.ext' he).append (At.fresh hs2 (by simp) rfl) (by simp;omega) (by simp;omega) fun d4 s5 ho5 _ _=>?_
   rw[a_g (by omega)]
   refine ⟨⟨j+1,rfl,by omega,?_⟩,by show path.length - ((j+1:Nat) :Int).toNat < path.length - ((j:Nat) :Int).toNat;omega⟩
   have e:path.take (j+1) =path.take j ++ [x]:=by rw[List.take_add_one,hx];rfl
   rw[e,List.map_append,List.map_append];exact ho5
 · have e:j=path.length:=by omega
   rw[e,List.take_length] at ho
   exact e_y ho (p_o _)
section
variable {c0 c1 c2 c3 c4:D} {c:Cf}
theorem p_k (h:CfAt σ c0 c1 c2 c3 c4 c)(s:Int) :Pure prog i_d [cfA c0 c1 c2 c3 c4 c,iA s] σ (.a (iA (x_h c s))):=by
 refine a_b8 _ _ _ _ _ _ _ _ _ s σ _ (bcd (fun h1=>⟨by rw[l_6 (d_7 h1)],rfl⟩) (fun h1=>h.secs.lenK (bcd (fun h2=>⟨by rw[List.length_map] at h2;rw[l_6 (f_h h2)],rfl⟩) (fun h2=>?_))))
 rw[List.length_map] at h2
 obtain ⟨x,hx⟩:=a_h (l:=c.Secs) (j:=s.toNat) (by omega)
 refine h.secs.load (a_m hx) b_2 (by omega) ⟨x.Kind,rfl,?_,rfl⟩
 rw[l_1 (y:=x) (by unfold b_c;rw[if_neg h1,hx])]
theorem r_0 (h:CfAt σ c0 c1 c2 c3 c4 c)(i:Int) :Pure prog g_t [cfA c0 c1 c2 c3 c4 c,iA i] σ (.a (iA (c.Approach i))):=by
 obtain ⟨rows,hr,hl⟩:=a_iq h
 refine t_n _ _ _ _ _ _ _ _ _ i σ _ (bcd (fun h1=>⟨by rw[Cf.Approach,d_7 h1];rfl,rfl⟩) (fun h1=>hr.lenK (bcd (fun h2=>⟨by rw[hl] at h2;rw[Cf.Approach,f_h h2];rfl,rfl⟩) (fun h2=>?_))))
 rw[hl] at h2
 obtain ⟨x,hx⟩:=a_h (l:=c.Rts) (j:=i.toNat) (by omega)
 have hg:b_c c.Rts i=some x:=by unfold b_c;rw[if_neg h1,hx]
 have hA:c.Approach i=c.approach x:=by rw[Cf.Approach,hg];rfl
 rw[hA]
 obtain ⟨rows',hr',_,d1,d2,d3,hrow,_⟩:=a_h3 h hx
 refine hr'.load hrow b_h (by omega) ⟨_,rfl,bcd (fun h3=>⟨by rw[Cf.approach,d_7 h3];rfl,rfl⟩) (fun h3=>hr'.load hrow b_h (by omega) ⟨_,rfl,h.sigs.lenK (bcd (fun h4=>⟨?_,rfl⟩) (fun h4=>hr'.load hrow b_h (by omega) ⟨_,rfl,?_⟩))⟩)⟩
 · rw[List.length_map] at h4;rw[Cf.approach,f_h h4];rfl
 · rw[List.length_map] at h4
   obtain ⟨y,hy⟩:=a_h (l:=c.Sigs) (j:=x.Entry.toNat) (by omega)
   refine h.sigs.load (a_m hy) c_h (by omega) ⟨y.Sec,rfl,?_,rfl⟩
   rw[Cf.approach,show b_c c.Sigs x.Entry=some y by unfold b_c;rw[if_neg h3,hy]];rfl
end
end
end Go.Proofs.YtfdffboelecgoaaGreatDoor
namespace Go.Fw
section
variable {P:Program} {σ:Store}
theorem set_set (i:Nat)(a b:SO) :(σ.set i a).set i b=σ.set i b:=by
 funext j
 by_cases h:j=i
 · subst h;rw[Store.set_same,Store.set_same]
 · rw[Store.set_ne _ _ h,Store.set_ne _ _ h,Store.set_ne _ _ h]
end
section
structure Rs where
 State:Int
 Since:Int
 Next:Int
 Mark:Int
 deriving DecidableEq
structure Mv where
 Cmd:Int
 Other:Int
 deriving DecidableEq
structure Ls where
 Ask:Int
 Done:Int
 Grant:Int
 Told:Int
 PAsk:Int
 PDone:Int
 PGrant:Int
 Since:Int
 deriving DecidableEq
structure Co where
 Own:List Int
 Routes:List Rs
 Points:List Mv
 Xs:List Mv
 Lines:List Ls
 Resets:List Int
 Dirty:Bool
 deriving DecidableEq
def Rs.enc (r:Rs) :List D:= [iD r.State,iD r.Since,iD r.Next,iD r.Mark]
def Mv.enc (r:Mv) :List D:= [iD r.Cmd,iD r.Other]
def Ls.enc (r:Ls) :List D:= [iD r.Ask,iD r.Done,iD r.Grant,iD r.Told,iD r.PAsk,iD r.PDone,iD r.PGrant,iD r.Since]
def tm (b n:Int) :Bool:=decide (0≤n∧n≤4294967295+b)
def Rs.fits (p:Rs × Rt) :Bool:=decide (0≤p.1.State∧p.1.State≤5) && decide (0≤p.1.Next∧p.1.Next≤p.2.Path.length) && (tm 0 p.1.Since && tm 0 p.1.Mark)
def Mv.fits (m:Mv) :Bool:=decide (0≤m.Cmd∧m.Cmd≤2) && decide (-1≤m.Other∧m.Other≤4294967295)
def Ls.fits (l:Ls) :Bool:=(tm 0 l.Ask && (tm 0 l.Done && (tm 0 l.Grant && (tm 0 l.Told && (tm 0 l.PAsk && (tm 0 l.PDone && tm 0 l.PGrant)))))) && tm 1 l.Since
def Co.lens (c:Cf)(k:Co) :Bool:=decide (k.Own.length=c.Secs.length∧k.Points.length=c.Secs.length∧k.Resets.length=c.Secs.length∧k.Routes.length=c.Rts.length∧k.Xs.length=c.Xs.length∧k.Lines.length=4)
def Co.parts (c:Cf)(k:Co) :Bool:=
 (k.Own.all fun o=>decide (-2≤o∧o≤c.Rts.length)) && ((k.Routes.zip c.Rts).all Rs.fits && ((k.Points ++ k.Xs).all Mv.fits && (k.Lines.all Ls.fits && k.Resets.all (tm 1))))
def Co.fits (c:Cf)(k:Co) :Bool:=decide (c.check=0) && (k.lens c && k.parts c)
end
section
variable {P:Program} {σ:Store}
def b_e:D→Option Nat
 | .osl id _ _=>some id
 | _=>none
def Apart (a b:D) :Prop:=∀id,b_e a=some id→b_e b≠some id
theorem Apart.symm {a b:D}(h:Apart a b) :Apart b a:=fun id h1 h2=>h id h2 h1
theorem Own.at_new {σ0:Store}{el:TypeId}{id n:Nat}{rs:List (List D)}(hid:σ0 id= .free)(he:Ext σ0 σ)(h:σ id= .live el rs)(hsz:rs.length < 2 ^ 60)(hn:n=rs.length) :Own P σ0 σ el (.osl id 0 n) rs:=
 ⟨At.fresh h hsz hn,he,v_6 hid,fun h=>h,by intro e;cases e⟩
theorem Own.apart {σ0:Store}{el el':TypeId}{d d':D}{rs rs':List (List D)}(h:Own P σ0 σ el d rs)(h':At P σ0 el' d' rs') :Apart d' d:=by
 intro id h1 h2
 cases d' with
 | osl i a n=>
   have e1:i=id:=by simpa[b_e] using h1
   subst e1
   cases d with
   | osl i' a' n'=>
     have e2:i'=i:=by simpa[b_e] using h2
     subst e2
     have:=h.new _ _ _ rfl
     obtain ⟨t,rows,g1,_⟩:=h'.rows
     rw[this] at g1;cases g1
   | _=>simp[b_e] at h2
 | _=>simp[b_e] at h1
theorem Own.from {σ0 σ1:Store}{el:TypeId}{d:D}{rs:List (List D)}(he:Ext σ0 σ1)(h:Own P σ1 σ el d rs) :Own P σ0 σ el d rs:=
 ⟨h.at_,he.trans h.ext,fun id i len e=>by
   have h1:=h.new id i len e
   by_cases hf:σ0 id= .free
   · exact hf
   · have:=he id hf;rw[h1] at this;exact this.symm,h.nsl,h.nz⟩
end
section
variable {P:Program} {σ:Store}
theorem At.store {el:TypeId}{d:D}{rs:List (List D)}{j off:Nat}{n:Nat}{row xs:List D}{K:Store→Prop}(h:At P σ el d rs)(hd:¬isSl d)(hr:rs[j]? =some row)(hn:n=j)(ho:off+xs.length≤row.length)
   (hK:∀s' id,b_e d=some id→At P s' el d (rs.set j (patch row off xs))→(∀i,i≠id→s' i=σ i)→s' id≠ .free→K s') :a_d xs σ d n off K:=by
 subst hn
 have hrows:=h.rows
 have hj:=(List.getElem?_eq_some_iff.1 hr).1
 cases d <;> simp only[Go.Fw.Rows] at hrows <;> try exact hrows.elim
 · subst hrows;simp at hr
 · subst hrows;simp at hr
 · exact absurd trivial hd
 · obtain ⟨t,rows,h1,h2,h3,rfl⟩:=hrows
   rename_i id i0 len
   have hjl:n < len:=by simp at hj;omega
   have hrow:rows[i0+n]? =some row:=by
     rw[List.getElem?_take,if_pos hjl,List.getElem?_drop] at hr;exact hr
   refine ⟨id,i0,len,t,rows,row,rfl,hjl,h1,hrow,ho,hK _ id rfl ⟨⟨t,_,Store.set_same _ _ _,h2,by simp;omega,?_⟩,?_,fun es rows e=>by cases e⟩ (fun i hi=>Store.set_ne _ _ hi) (by rw[Store.set_same];intro e;cases e)⟩
   · rw[List.drop_set,if_neg (by omega),List.take_set]
     congr 1;omega
   · have:=h.size;simpa using this
structure Lk where
 Value:Int
 Stamp:Int
 Valid:Bool
def Lk.enc (l:Lk) :List D:= [iD l.Value,iD l.Stamp, .bool l.Valid]
end
end Go.Fw
section
namespace Go.Fw
variable {P:Program} {σ σ':Store}
theorem Own.stay {σ0:Store}{el:TypeId}{e d:D}{qs:List (List D)}(g:Own P σ0 σ el e qs)(hs:∀i,σ i≠ .free→b_e d≠some i→σ' i=σ i)(ha:Apart e d)(he:Ext σ0 σ') :Own P σ0 σ' el e qs:=
 ⟨g.at_.same fun i a n h=>hs i (by
   have:=g.at_.rows;subst h
   obtain ⟨t,rows,h1,_⟩:=this
   rw[h1];intro e;cases e) (ha i (by subst h;rfl)),he,g.new,g.nsl,g.nz⟩
theorem Own.append2 {σ0:Store}{el el':TypeId}{d e x:D}{rs qs ns:List (List D)}{bytes:Nat}{K:D→Store→Prop}(h:Own P σ0 σ el d rs)(g:Own P σ0 σ el' e qs)(ha:Apart e d)(hx:At P σ el x ns)
   (hb:bytes * (rs.length+ns.length)≤140737488355328) (hsz:rs.length+ns.length < 2 ^ 60) (hk:∀d' σ',Own P σ0 σ' el d' (rs ++ ns)→Own P σ0 σ' el' e qs→Apart e d'→K d' σ') :a_e P σ el bytes d x K:=
 h.append hx hb hsz fun d' s' ho h1 h2=>hk d' s' ho (g.stay (d:=d) (fun i hi hd=>h1 i hi fun a b hab=>hd (by rw[hab];rfl)) ha ho.ext) fun i hi hd=>by
   have hn:=g.at_.rows
   cases e with
   | osl i' a n=>
     have e1:i'=i:=by simpa[b_e] using hi
     subst e1
     obtain ⟨t,rows,h3,_⟩:=hn
     cases d' with
     | osl j a' n'=>
       have e2:j=i':=by simpa[b_e] using hd
       subst e2
       rcases h2 j a' n' rfl with q | ⟨a2,b2,q⟩
       · rw[h3] at q;cases q
       · exact ha j rfl (by rw[q];rfl)
     | _=>simp[b_e] at hd
   | _=>simp[b_e] at hi
theorem Apart.nil (d:D) :Apart .nils d:=fun i h=>by cases h
end Go.Fw
namespace Go.Fw
variable {P:Program} {σ σ':Store}
theorem q_r {s:Store}{el:TypeId}{es:Nat}{rows:List (List D)}(hes:P.cellsOf el=es)(hsz:rows.length < 2 ^ 60) :At P s el (.sl es rows) rows:=
 ⟨⟨rfl, .inr hes.symm⟩,hsz,fun es rows e=>by injection e with e1 e2;rw[←e1,hes]⟩
theorem a_im {σ0 s:Store}{el:TypeId}{d:D}{rs:List (List D)}{i:Nat}(h:Own P σ0 s el d rs)(hi:b_e d=some i) :σ0 i= .free:=by
 cases d with
 | osl id a n=>
   have:id=i:=by simpa[b_e] using hi
   subst this
   exact h.new _ _ _ rfl
 | _=>simp[b_e] at hi
end Go.Fw
namespace Go.Fw
variable {P:Program} {σ σ':Store}
theorem Own.put {σ0:Store}{el:TypeId}{d:D}{rs:List (List D)}{j off n:Nat}{row xs:List D}{K:Store→Prop}(h:Own P σ0 σ el d rs)(hr:rs[j]? =some row)(hn:n=j)(ho:off+xs.length≤row.length)
   (hK:∀s',Own P σ0 s' el d (rs.set j (patch row off xs))→(∀i,b_e d≠some i→s' i=σ i)→K s') :a_d xs σ d n off K:=
 h.at_.store h.nsl hr hn ho fun s' id hid hat hs hne=>hK s' ⟨hat,fun i hi=>by
   have hne':i≠id:=fun e=>hi (by rw[e];exact a_im h hid)
   rw[hs i hne'];exact h.ext i hi,h.new,h.nsl,h.nz⟩ fun i hi=>hs i fun e=>hi (by rw[e];exact hid)
end Go.Fw
namespace Go.Fw
variable {P:Program} {σ σ':Store}
theorem Own.copy {σ0:Store}{el:TypeId}{d x:D}{rd rs:List (List D)}{K:Int→Store→Prop}(h:Own P σ0 σ el d rd)(hx:At P σ el x rs)
   (hK:∀s',Own P σ0 s' el d (rs.take (min rs.length rd.length) ++ rd.drop (min rs.length rd.length))→(∀i,b_e d≠some i→s' i=σ i)→K (min (rs.length:Int) (rd.length:Int)) s') :a_mh P σ el d x K:=by
 refine ⟨rd,rs,h.at_.rows,hx.rows,?_⟩
 by_cases hm:min rs.length rd.length=0
 · refine .inl ⟨hm,?_⟩
   have:=hK σ (by rw[hm];simpa using h) (fun _ _=>rfl)
   rw[show min (rs.length:Int) (rd.length:Int) =0 by omega] at this;exact this
 · refine .inr ?_
   have hrow:=h.at_.rows
   have hnew:=h.new
   have hsz:=h.at_.size
   cases d with
   | osl id i0 len=>
     obtain ⟨t,rows,h1,h2,h3,rfl⟩:=hrow
     have hml:min rs.length ((rows.drop i0).take len).length≤len:=by simp;omega
     have hmr:min rs.length ((rows.drop i0).take len).length≤rs.length:=Nat.min_le_left _ _
     have hmx:min rs.length ((rows.drop i0).take len).length≤((rows.drop i0).take len).length:=Nat.min_le_right _ _
     generalize min rs.length ((rows.drop i0).take len).length=m at *
     have hl:(rows.take i0 ++ rs.take m ++ rows.drop (i0+m)).length=rows.length:=by simp;omega
     refine ⟨id,i0,len,t,rows,rfl,h1,?_⟩
     refine hK (σ.set id (.live t (rows.take i0 ++ rs.take m ++ rows.drop (i0+m)))) ⟨⟨⟨t,_,Store.set_same _ _ _,h2,by rw[hl];exact h3,?_⟩,by rw[List.length_append,List.length_take,List.length_drop];omega,fun es rows e=>by cases e⟩,fun i hi=>?_,h.new,h.nsl,h.nz⟩ fun i hi=>Store.set_ne _ _ fun e=>hi (by rw[e];rfl)
     · have hA:(rs.take m).length=m:=by rw[List.length_take];omega
       generalize rs.take m=A at *
       rw[List.append_assoc,List.drop_left' (by rw[List.length_take];omega),List.take_append,List.take_of_length_le (show A.length≤len by omega),hA,List.drop_take,List.drop_drop]
     · rw[Store.set_ne _ _ (fun e=>hi (by rw[e];exact h.new _ _ _ rfl))];exact h.ext i hi
   | nils=>have:rd=[]:=hrow;subst this;simp at hm
   | zsl=>exact absurd rfl h.nz
   | sl es rows=>exact absurd trivial h.nsl
   | _=>exact hrow.elim
end Go.Fw
namespace Go.Fw
variable {P:Program} {σ σ':Store}
theorem Own.sub {σ0:Store}{el:TypeId}{d:D}{rs:List (List D)}{lo hi:Nat}(h:Own P σ0 σ el d rs)(h1:lo≤hi)(h2:hi≤rs.length) :Own P σ0 σ el (e_g d lo hi) ((rs.drop lo).take (hi - lo)):=by
 have hr:=h.at_.rows
 have hn:=h.new
 have hl:=h.nsl
 have hz:=h.nz
 refine ⟨h.at_.sub h1 h2,h.ext,?_,?_,?_⟩ <;> cases d <;> simp only[e_g,Rows] at * <;> first | (intro id i n e;cases e;exact hn _ _ _ rfl) | (intro id i n e;cases e;done) | exact hl | (intro e;cases e;done) | exact hr.elim | exact hz
def dlen:D→Nat
 | .osl _ _ n=>n
 | .sl _ rows=>rows.length
 | _=>0
theorem At.dlen {el:TypeId}{d:D}{rs:List (List D)}(h:At P σ el d rs) :dlen d=rs.length:=by
 have hl:=h.lenI
 cases d <;> simp only[Len] at hl <;> first | exact hl.elim | (rw[hl];rfl)
end Go.Fw
end
section
namespace Go.Fw
variable {P:Program}
inductive Cs
 | int (k:IntKind)
 | bool
 | str
 | sl (e:TypeId)
def m_6 (g:TypeId→Option (List Cs)) :List Field→Option (List Cs)
 | []=>some []
 | f::fs=>match g f.type,m_6 g fs with
   | some a,some b=>some (a ++ b)
   | _,_=>none
def g_4 (P:Program) :Nat→TypeId→Option (List Cs)
 | 0,_=>none
 | m+1,t=>match P.underlying t with
   | some .bool=>some [.bool]
   | some (.int k)=>some [.int k]
   | some .string=>some [.str]
   | some (.slice e)=>some [.sl e]
   | some (.struct fs)=>m_6 (g_4 P m) fs.toList
   | some (.array k e)=>(g_4 P m e).map fun l=>(List.replicate k l).flatten
   | _=>none
def CsOk (P:Program) :Cs→D→Prop
 | .int k,d=>∃m,d= .int k m∧(Lit.int k m).wf=true
 | .bool,d=>∃b,d= .bool b
 | .str,d=>∃s,d= .str s∧s.size≤140737488351232
 | .sl e,d=>d= .nils∨∃rows,d= .sl (P.cellsOf e) rows∧rows.length * P.bytesOf e≤140737488351232∧∀row ∈ rows,∃n,tyD P n e row
def CsL (P:Program) :List Cs→List D→Prop
 | [],ds=>ds=[]
 | s::ss,ds=>∃d r,ds=d::r∧CsOk P s d∧CsL P ss r
theorem CsL.append {a b:List Cs}{x y:List D}(h1:CsL P a x)(h2:CsL P b y) :CsL P (a ++ b) (x ++ y):=by
 induction a generalizing x with
 | nil=>simp only[CsL] at h1;subst h1;exact h2
 | cons s a ih=>
   obtain ⟨d,r,rfl,q1,q2⟩:=h1
   exact ⟨d,r ++ y,rfl,q1,ih q2⟩
theorem z_t {g:TypeId→Option (List Cs)}{ty:TypeId→List D→Prop}(ih:∀t ds shs,ty t ds→g t=some shs→CsL P shs ds) :∀(fs:List Field) (ds:List D) (shs:List Cs),tyF P ty fs ds→m_6 g fs=some shs→CsL P shs ds
 | [],ds,shs,h1,h2=>by
   simp only[tyF] at h1;simp only[m_6] at h2
   cases h2;subst h1;rfl
 | f::fs,ds,shs,h1,h2=>by
   obtain ⟨a,b,rfl,_,q1,q2⟩:=h1
   rw[m_6] at h2
   split at h2
   · rename_i x y e1 e2
     cases h2
     exact (ih _ _ _ q1 e1).append (z_t ih fs b y q2 e2)
   · cases h2
theorem a_l7 {ty:TypeId→List D→Prop}{e:TypeId}{l:List Cs}(ih:∀ds,ty e ds→CsL P l ds) :∀(k:Nat) (ds:List D),tyR P ty e k ds→CsL P (List.replicate k l).flatten ds
 | 0,ds,h=>by simp only[tyR] at h;subst h;rfl
 | k+1,ds,h=>by
   obtain ⟨a,b,rfl,_,q1,q2⟩:=h
   rw[List.replicate_succ,List.flatten_cons]
   exact (ih a q1).append (a_l7 ih k b q2)
theorem r_u:∀(n m:Nat) (t:TypeId) (ds:List D) (shs:List Cs),tyD P n t ds→g_4 P m t=some shs→CsL P shs ds
 | 0,_,_,_,_,h,_=>h.elim
 | _+1,0,_,_,_,_,h=>by cases h
 | n+1,m+1,t,ds,shs,h1,h2=>by
   unfold tyD at h1
   unfold g_4 at h2
   split at h1
   · rename_i hu
     rw[hu] at h2;cases h2
     obtain ⟨b,rfl⟩:=h1
     exact ⟨_,_,rfl,⟨b,rfl⟩,rfl⟩
   · rename_i k hu
     rw[hu] at h2;cases h2
     obtain ⟨b,rfl,hw⟩:=h1
     exact ⟨_,_,rfl,⟨b,rfl,hw⟩,rfl⟩
   · rename_i hu
     rw[hu] at h2;cases h2
     obtain ⟨b,rfl,hw⟩:=h1
     exact ⟨_,_,rfl,⟨b,rfl,hw⟩,rfl⟩
   · rename_i e hu
     rw[hu] at h2;cases h2
     rcases h1 with rfl | ⟨rows,rfl,q1,q2⟩
     · exact ⟨_,_,rfl, .inl rfl,rfl⟩
     · exact ⟨_,_,rfl, .inr ⟨rows,rfl,q1,fun row hr=>⟨n,q2 row hr⟩⟩,rfl⟩
   · rename_i fs hu
     rw[hu] at h2
     exact z_t (fun t ds shs a b=>r_u n m t ds shs a b) fs.toList ds shs h1 h2
   · rename_i k e hu
     rw[hu] at h2
     simp only[Option.map_eq_some_iff] at h2
     obtain ⟨l,e1,rfl⟩:=h2
     exact a_l7 (fun ds a=>r_u n m e ds l a e1) k ds h1
   · exact h1.elim
def I64 (n:Int) :Prop:= -9223372036854775808≤n∧n≤9223372036854775807
theorem e_h {n:Int}(h:(Lit.int .i64 n).wf=true) :I64 n:=by
 simp only[Lit.wf,IntKind.min,IntKind.max,IntKind.signed,IntKind.bits,Bool.and_eq_true,decide_eq_true_eq,if_true] at h
 unfold I64
 omega
theorem I64.w {n:Int}(h:I64 n) :w64 n=n:=d_9 h.1 h.2
theorem a_ou {α:Type}{e:TypeId}{d:D}{bytes:Nat}(R:List D→α→Prop)(hf:∀row n,tyD P n e row→∃a,R row a)(hb:P.bytesOf e=bytes)(hb0:0 < bytes)(h:CsOk P (.sl e) d) :
   ∃(rows:List (List D)) (l:List α),(∀s,At P s e d rows)∧rows.length=l.length∧(∀(i:Nat) row a,rows[i]? =some row→l[i]? =some a→R row a)∧d≠ .zsl∧bytes * l.length≤140737488351232:=by
 rcases h with rfl | ⟨rows,rfl,q1,q2⟩
 · exact ⟨[],[],fun s=> .nil,rfl,fun i row a h=>by simp at h,(by intro e;cases e),by simp⟩
 · have key : ∀ rows : List (List D), (∀ row ∈ rows, ∃ n, tyD P n e row) → ∃ l : List α, rows.length = l.length ∧ ∀ (i : Nat) row a, rows[i]? = some row → l[i]? = some a → R row a := by
     intro rows
     induction rows with
     | nil=>intro _;exact ⟨[],rfl,fun i row a h=>by simp at h⟩
     | cons r rs ih=>
       intro hr
       obtain ⟨l,e1,e2⟩:=ih fun row h=>hr row (by simp[h])
       obtain ⟨n,hn⟩:=hr r (by simp)
       obtain ⟨a,ha⟩:=hf r n hn
       refine ⟨a::l,by simp[e1],fun i row b h1 h2=>?_⟩
       cases i with
       | zero=>simp at h1 h2;subst h1 h2;exact ha
       | succ i=>exact e2 i row b (by simpa using h1) (by simpa using h2)
   obtain ⟨l,hl,hR⟩:=key rows q2
   rw[hb,hl] at q1
   have q3:bytes * l.length≤140737488351232:=by rw[Nat.mul_comm];exact q1
   have h1:1 * l.length≤bytes * l.length:=Nat.mul_le_mul_right _ hb0
   refine ⟨rows,l,fun s=>⟨⟨rfl, .inr rfl⟩,by omega,fun es rows e=>?_⟩,hl,hR,(by intro e;cases e),q3⟩
   injection e with e1 e2
   exact e1.symm
theorem l_t {α:Type}{e:TypeId}{d:D}{bytes:Nat}(f:α→List D)(Q:α→Prop)(hf:∀row n,tyD P n e row→∃a,row=f a∧Q a)(hb:P.bytesOf e=bytes)(hb0:0 < bytes)(h:CsOk P (.sl e) d) :
   ∃l:List α,(∀s,At P s e d (l.map f))∧(∀a ∈ l,Q a)∧d≠ .zsl∧bytes * l.length≤140737488351232:=by
 rcases h with rfl | ⟨rows,rfl,q1,q2⟩
 · exact ⟨[],fun s=> .nil,fun a ha=>by simp at ha,(by intro e;cases e),by simp⟩
 · have key : ∀ rows : List (List D), (∀ row ∈ rows, ∃ n, tyD P n e row) → ∃ l : List α, l.map f = rows ∧ ∀ a ∈ l, Q a := by
     intro rows
     induction rows with
     | nil=>intro _;exact ⟨[],rfl,fun a ha=>by simp at ha⟩
     | cons r rs ih=>
       intro hr
       obtain ⟨l,e1,e2⟩:=ih fun row h=>hr row (by simp[h])
       obtain ⟨n,hn⟩:=hr r (by simp)
       obtain ⟨a,rfl,ha⟩:=hf r n hn
       refine ⟨a::l,by simp[e1],fun b hb=>?_⟩
       simp only[List.mem_cons] at hb
       rcases hb with rfl | hb
       · exact ha
       · exact e2 b hb
   obtain ⟨l,rfl,hl⟩:=key rows q2
   rw[hb,List.length_map] at q1
   have q3:bytes * l.length≤140737488351232:=by rw[Nat.mul_comm];exact q1
   have h1:1 * l.length≤bytes * l.length:=Nat.mul_le_mul_right _ hb0
   refine ⟨l,fun s=>⟨⟨rfl, .inr rfl⟩,by rw[List.length_map];omega,fun es rows e=>?_⟩,hl,(by intro e;cases e),q3⟩
   injection e with e1 e2
   exact e1.symm
theorem a_ny {t:TypeId}{x:A}(h:TyA P t x)(hg:b_k P t=some false) :∃d n,x= .one d∧tyD P n t [d]:=by
 cases x with
 | one d=>exact ⟨d,30,rfl,h.2⟩
 | agg cs=>have:=h.1;rw[hg] at this;cases this
theorem a_nw {t:TypeId}{x:A}(h:TyA P t x)(hg:b_k P t=some true) :∃cs n,x= .agg cs∧tyD P n t cs:=by
 cases x with
 | one d=>have:=h.1;rw[hg] at this;cases this
 | agg cs=>exact ⟨cs,30,rfl,h.2⟩
theorem x_r {t:TypeId}{ts:List TypeId}{as0:List A}(h:TyAs P (t::ts) as0) :∃a r,as0=a::r∧TyA P t a∧TyAs P ts r:=h
theorem a_oa {as0:List A}(h:TyAs P [] as0) :as0=[]:=h
def a_kj:Cs→Value
 | .int k=> .int k 0
 | .bool=> .bool false
 | .str=> .string .empty
 | .sl _=> .slice none 0 0
def zeroArg (P:Program)(t:TypeId) :Value:=match b_k P t,g_4 P 9 t with
 | some true,some l=> .agg (l.map a_kj).toArray
 | _,some [c]=>a_kj c
 | _,_=> .int .i64 0
end Go.Fw
namespace Go.Fw
theorem law_fn3 {H:Type}{s:List (DataW H)→Left H}{ds:List (DataW H)}(h:ds.length=3)(hs:∀a b c,s [a,b,c]= { results:= [.lit (.bool true)],args:= [a,b,c] } :=by intros;rfl) :s ds= { results:= [.lit (.bool true)],args:=ds } :=by
 match ds,h with
 | [a,b,c],_=>exact hs a b c
end Go.Fw
namespace Go.Fw
def EqR {α:Type}(la lb:List α)(n:Int) :Prop:=∃j:Nat,n=j∧j≤la.length∧la.take j=lb.take j
theorem EqR.start {α:Type}(la lb:List α) :EqR la lb 0:=⟨0,rfl,by omega,by simp⟩
theorem EqR.step {α:Type}{la lb:List α}{n:Int}{m:Nat}(h:EqR la lb n)(hl:la.length=lb.length)(hm:m=la.length)(hs:la.length < 2 ^ 60)(hlt:n < (m:Int)) :
   ∃(j:Nat) (x y:α),n=j∧la[j]? =some x∧lb[j]? =some y∧(x≠y→la≠lb)∧(x=y→EqR la lb (w64 (n+1))∧la.length - (w64 (n+1)).toNat < la.length - n.toNat):=by
 obtain ⟨j,rfl,hj,hF⟩:=h
 have hj':j < la.length:=by omega
 obtain ⟨x,hx⟩:=a_h hj'
 obtain ⟨y,hy⟩:=a_h (l:=lb) (j:=j) (by omega)
 refine ⟨j,x,y,rfl,hx,hy,fun hne e=>?_,fun e=>?_⟩
 · subst e;rw[hx] at hy;cases hy;exact hne rfl
 · rw[a_g (by omega)]
   refine ⟨⟨j+1,rfl,by omega,?_⟩,by omega⟩
   rw[List.take_add_one,List.take_add_one,hF,hx,hy,e]
theorem EqR.done {α:Type}{la lb:List α}{n:Int}{m:Nat}(h:EqR la lb n)(hl:la.length=lb.length)(hm:m=la.length)(hge:¬n < (m:Int)) :la=lb:=by
 obtain ⟨j,rfl,hj,hF⟩:=h
 have:j=la.length:=by omega
 rw[List.take_of_length_le (by omega),List.take_of_length_le (by omega)] at hF
 exact hF
end Go.Fw
namespace Go.Fw
theorem a_j9 {P:Program}{t:TypeId}{x:A}{c:Cs}(h:TyA P t x)(hg:b_k P t=some false)(hs:g_4 P 5 t=some [c]) :∃d,x= .one d∧CsOk P c d:=by
 obtain ⟨d,n,rfl,h1⟩:=a_ny h hg
 obtain ⟨d',r,e,h2,h3⟩:=r_u n 5 t _ _ h1 hs
 have:d=d':=by injection e
 exact ⟨d,rfl,this ▸ h2⟩
theorem a_id {P:Program}{t:TypeId}{x:A}(h:TyA P t x)(hg:b_k P t=some false)(hs:g_4 P 5 t=some [.int .i64]) :∃m,x=iA m∧I64 m:=by
 obtain ⟨d,rfl,m,rfl,hm⟩:=a_j9 h hg hs
 exact ⟨m,rfl,e_h hm⟩
end Go.Fw
end
namespace Go.Proofs.YtfdffboelecgoaaGreatDoor
open Go.Fw Go.Proofs Go.RowKit
open Go.Proofs.Tryz (prog)
section
variable {σ:Store}
theorem r_f {a b:D}{la lb:List Nd}(ha:At prog σ a_r a (la.map Nd.enc))(hb:At prog σ a_r b (lb.map Nd.enc)) :Pure prog g_c [.one a, .one b] σ (.a (bA (decide (la=lb)))):=by
 have hs:=ha.size
 rw[List.length_map] at hs
 refine s_g a b σ _ (ha.lenK (hb.lenK ?_))
 rw[List.length_map,List.length_map]
 refine bcn (fun hne=>⟨?_,rfl⟩) (fun he=>ha.lenK ?_)
 · rw[decide_eq_false (fun e=>hne (by rw[e]))]
 have hl:la.length=lb.length:=by omega
 rw[List.length_map]
 refine ⟨fun n s=>s=σ∧EqR la lb n,fun n _=>la.length - n.toNat,⟨rfl, .start _ _⟩,?_⟩
 rintro n s ⟨rfl,hr⟩
 refine bcd (fun hlt=>?_) (fun hge=>⟨?_,rfl⟩)
 · obtain ⟨j,x,y,rfl,hx,hy,hn,hy2⟩:=hr.step hl rfl hs hlt
   refine ha.load (a_m hx) e_i rfl ⟨x.Sec,x.Pos,rfl,hb.load (a_m hy) e_i rfl ⟨y.Sec,y.Pos,rfl,b_g (fun e=>⟨?_,rfl⟩) (fun e=>m_t rfl (hy2 ?_))⟩⟩
   · rw[decide_eq_false (hn fun g=>by rw[g] at e;simp at e)]
   · simp at e;cases x;cases y;simp at e;simp[e]
 · rw[decide_eq_true (hr.done hl rfl hge)]
section
variable {c0 c1 c2 c3 c4:D} {c:Cf} (h:∀s,CfAt s c0 c1 c2 c3 c4 c)
include h
theorem y_e (a:Int){pd:D}{path:List St}(hp:∀s,At prog s a_i pd (path.map St.enc))(hpl:path.length≤2 ^ 20) :
   DCalls prog j_7 [cfA c0 c1 c2 c3 c4 c,iA a, .one pd] σ (c_n σ a_r ((c.flank a path).map Nd.enc)):=by
 refine (y_9 _ _ _ _ _ _ _ _ _ a pd σ _ ?_).ret (Q:=fun r s=>∃r' σ',Ret prog σ s r σ' r'∧c_n σ a_r ((c.flank a path).map Nd.enc) r' σ') (fun r s h=>h)
 refine (hp σ).lenK ⟨fun d d1 n s=>∃out:List Nd,Own prog σ s a_r d (out.map Nd.enc)∧Own prog σ s t_int d1 ((out.map Nd.Sec).map Go.Fw.encI)∧Apart d d1∧(out.length:Int)≤4 * n∧Rng path (fun r=>b_n c a path r out=c.flank a path) n,
   fun _ _ n _=>path.length - n.toNat,⟨[], .nil _ (.refl _), .nil _ (.refl _), .nil _,by simp, .start rfl⟩,?_⟩
 rintro d d1 n s ⟨out,ho,ho1,hap,hol,hr⟩
 rw[List.length_map]
 refine bcd (fun hlt=>?_) (fun hge=>?_)
 · obtain ⟨j,x,rfl,hx,hj,hF,nx⟩:=hr.step rfl (by omega) hlt
   refine (hp s).load (a_m hx) c_s rfl ⟨x.Sec,x.In,x.Out,rfl,(p_k (h s) _).use ⟨_,rfl,?_⟩⟩
   have hF':b_n c a path (path.drop (j+1)) (a_y c a path x (a_x (x_h c x.Sec)).toNat 0 out) =c.flank a path:=by
     rw[←hF,b_n]
     cases hg:b_c c.Secs x.Sec with
     | none=>rw[l_6 hg];rfl
     | some y=>rw[l_1 hg]
   generalize x_h c x.Sec=k at hF'
   have hne:=n_e k
   refine ⟨fun d d1 m s'=>∃out':List Nd,Own prog σ s' a_r d (out'.map Nd.enc)∧Own prog σ s' t_int d1 ((out'.map Nd.Sec).map Go.Fw.encI)∧Apart d d1∧0≤m∧m≤a_x k∧(out'.length:Int)≤4 * j+m∧a_y c a path x (a_x k - m).toNat m out'=a_y c a path x (a_x k).toNat 0 out,
     fun _ _ m _=>(a_x k - m).toNat,⟨out,ho,ho1,hap,by omega,hne.1,by omega,by rw[Int.sub_zero]⟩,?_⟩
   rintro d2 d3 m s' ⟨out',ho',ho1',hap',hm0,hm1,hol',hE⟩
   refine (y_1 _).use ⟨_,rfl,bcd (fun hlt'=>?_) (fun hge'=>?_)⟩
   · have hw:w64 (m+1) =m+1:=d_9 (by omega) (by omega)
     have hk:(a_x k - m).toNat=(a_x k - (m+1)).toNat+1:=by omega
     rw[hk,a_y] at hE
     intro R hR
     have leaf:∀(out2:List Nd) (d4 d5:D) (s2:Store),a_1 c a path x out' m=out2→Own prog σ s2 a_r d4 (out2.map Nd.enc)→Own prog σ s2 t_int d5 ((out2.map Nd.Sec).map Go.Fw.encI)→Apart d4 d5→R d4 d5 s2:=by
       intro out2 d4 d5 s2 h1 h2 h3 h4
       have hlen:=(g_5 c a path x out' m).2
       refine hR _ _ _ ⟨rfl,?_⟩
       rw[hw]
       refine ⟨⟨out2,h2,h3,h4,by omega,by omega,by rw[←h1];omega,by rw[←h1];exact hE⟩,by show (a_x k - (m+1)).toNat < (a_x k - m).toNat;omega⟩
     intro R1 hR1
     refine bce (fun h1=>⟨by trivial,leaf out' _ _ s' (by rw[a_1,if_pos (.inl h1)]) ho' ho1' hap'⟩) (fun h1=>bce (fun h2=>⟨by trivial,leaf out' _ _ s' (by rw[a_1,if_pos (.inr h2)]) ho' ho1' hap'⟩) (fun h2=>⟨by trivial,hR1 s' ?_⟩))
     have hst:a_1 c a path x out' m=match nxt c.Jts x.Sec m with
       | none=>out'
       | some (q,f)=>match b_c c.Secs q with
         | none=>out'
         | some y=>if y.Kind=1∧(1≤f∧f≤2)∧q≠a∧e_l path q=false∧(out'.any fun n=>n.Sec == q) =false then out' ++ [⟨q,3 - f⟩] else out':=by
       rw[a_1,if_neg (by rintro (e | e);exact h1 e;exact h2 e)] <;> rfl
     refine (p_r x.Sec m (h s').jts).use (j_z _ ?_)
     intro R2 hR2
     cases hn:nxt c.Jts x.Sec m with
     | none=>
       rw[hn] at hst
       exact b_g (fun _=>⟨by trivial,leaf out' _ _ s' hst ho' ho1' hap'⟩) (fun e=>by cases e)
     | some p=>
       obtain ⟨q,f⟩:=p
       rw[hn] at hst hR2
       simp only[Option.getD_some] at hst hR2 ⊢
       refine b_g (fun e=>by cases e) (fun _=>(p_k (h s') q).use ⟨_,rfl,?_⟩)
       refine bcn (fun k1=>⟨by trivial,leaf out' _ _ s' ?_ ho' ho1' hap'⟩) (fun k1=>?_)
       · cases hg:b_c c.Secs q with
         | none=>rw[hg] at hst;exact hst
         | some y=>rw[hg] at hst;rw[l_1 hg] at k1;rw[hst];exact if_neg fun g=>k1 g.1
       obtain ⟨y,hg⟩ :∃y,b_c c.Secs q=some y:=by
         cases hg:b_c c.Secs q with
         | none=>rw[l_6 hg] at k1;cases k1
         | some y=>exact ⟨y,rfl⟩
       rw[l_1 hg] at k1
       rw[hg] at hst
       simp only at hst
       have no:¬((1≤f∧f≤2)∧q≠a∧e_l path q=false∧(out'.any fun n=>n.Sec == q) =false)→a_1 c a path x out' m=out':=fun hn=>by rw[hst,if_neg fun g=>hn g.2]
       have main:(1≤f∧f≤2)→DCalls prog b_3 [.one pd] s' fun r4 s4=>∃d4,r4= .a (.one d4)∧DCalls prog c_3 [.one d4,iA q] s4 fun r5 s5=>∃b1,r5= .a (bA b1)∧a_c b1 (True∧R d2 d3 s5) (a_c (q == a) (True∧R d2 d3 s5) (DCalls prog c_3 [.one d3,iA q] s5 fun r6 s6=>∃b2,r6= .a (bA b2)∧a_c b2 (True∧R d2 d3 s6) (True∧R2 s6))):=by
         intro hf
         refine (j_k hp (by omega)).mono ?_
         rintro r4 s4 ⟨rfl,d4,rfl,hd4⟩
         refine ⟨d4,rfl,(g_8 q (hd4 _)).use ⟨_,rfl,?_⟩⟩
         rw[z_p]
         refine bc (fun k2=>⟨by trivial,leaf out' _ _ _ (no fun g=>by rw[g.2.2.1] at k2;cases k2) ho' ho1' hap'⟩) (fun k2=>bce (fun k3=>⟨by trivial,leaf out' _ _ _ (no fun g=>g.2.1 k3) ho' ho1' hap'⟩) (fun k3=>(g_8 q ho1'.at_).use ⟨_,rfl,?_⟩))
         rw[a_o5]
         refine bc (fun k4=>⟨by trivial,leaf out' _ _ _ (no fun g=>by rw[g.2.2.2] at k4;cases k4) ho' ho1' hap'⟩) (fun k4=>⟨by trivial,hR2 _ ?_⟩)
         refine a_f fun id s5 hid _ he5 hs5=>?_
         refine (ho1'.ext' he5).append2 (ho'.ext' he5) hap' (At.fresh hs5 (by simp) rfl) (by simp;omega) (by simp;omega) fun d5 s6 ho6 ho6' hap6=>?_
         refine a_f fun id7 s7 hid7 _ he7 hs7=>?_
         have hw2:w64 (3 - f) =3 - f:=d_9 (by omega) (by omega)
         refine (ho6'.ext' he7).append2 (ho6.ext' he7) hap6.symm (At.fresh hs7 (by simp) rfl) (by simp;omega) (by simp;omega) fun d8 s8 ho8 ho8' hap8=>⟨by trivial,leaf (out' ++ [⟨q,3 - f⟩]) _ _ _ (by rw[hst,if_pos ⟨k1,hf,k3,k2,k4⟩]) ?_ ?_ hap8.symm⟩
         · rw[hw2] at ho8;rw[List.map_append];exact ho8
         · rw[List.map_append,List.map_append];exact ho8'
       refine bcn (fun k2=>bcn (fun k3=>⟨by trivial,leaf out' _ _ s' (no fun g=>by omega) ho' ho1' hap'⟩) (fun k3=>main (by omega))) (fun k2=>main (by omega))
   · have hz:(a_x k - m).toNat=0:=by omega
     rw[hz,a_y] at hE
     rw[←hE] at hF'
     have hn:=nx (fun r=>b_n c a path r out'=c.flank a path) hF'
     exact ⟨⟨out',ho',ho1',hap',by rw[a_g (by omega)];omega,hn.1⟩,hn.2⟩
 · have hF:=hr.done rfl hge
   rw[b_n] at hF
   rw[←hF]
   exact e_y ho (a_gx _)
theorem t_t (r:Rt){d1 d2 d3:D}(hp:∀s,At prog s a_i d1 (r.Path.map St.enc))(hpl:r.Path.length≤2 ^ 20) :
   DCalls prog h_r [cfA c0 c1 c2 c3 c4 c,rtA d1 d2 d3 r] σ (c_n σ t_int ((c.overlap r).map Go.Fw.encI)):=by
 refine (v_c _ _ _ _ _ _ _ _ _ _ _ d1 d2 d3 _ σ _ ?_).ret (Q:=fun r' s=>∃r'' σ',Ret prog σ s r' σ' r''∧c_n σ t_int ((c.overlap r).map Go.Fw.encI) r'' σ') (fun r s h=>h)
 intro R hR
 have nil:c.overlap r=[]→∃r'' σ',Ret prog σ σ (.a (.one .nils)) σ' r''∧c_n σ t_int ((c.overlap r).map Go.Fw.encI) r'' σ':=fun e=>by
   rw[e];exact e_y (.nil _ (.refl _)) (p_o _)
 refine bc (fun h1=>nil (by rw[Cf.overlap,if_pos h1])) (fun h1=>?_)
 have hov:c.overlap r=match b_c c.Sigs r.Exit with
   | none=> []
   | some x=>match nxt c.Jts x.Sec x.End_ with
     | none=> []
     | some (q,_)=>match b_c c.Secs q with
       | none=> []
       | some y=>if y.Line=0∧e_l r.Path q=false∧q≠c.approach r then [q] else []:=by
   rw[Cf.overlap,if_neg (by rw[h1];simp)] <;> rfl
 refine bcd (fun e=>nil (by rw[hov,d_7 e])) (fun e0=>(h σ).sigs.lenK ?_)
 rw[List.length_map]
 refine bcd (fun e=>nil (by rw[hov,f_h e])) (fun e1=>hR σ ?_)
 obtain ⟨x,hg⟩:=o_o e0 e1
 rw[hg] at hov
 simp only at hov
 refine (h σ).sigs.load (a_m (g_x hg).2.2) c_h (by omega) ⟨x.Sec,x.End_,rfl,(p_r _ _ (h σ).jts).use (j_z _ ?_)⟩
 intro R1 hR1
 have main:R1 (c.approach r) σ:=by
   refine hR1 _ σ ?_
   cases hn:nxt c.Jts x.Sec x.End_ with
   | none=>rw[hn] at hov;exact b_g (fun _=>nil hov) (fun e=>by cases e)
   | some p=>
     obtain ⟨q,f⟩:=p
     rw[hn] at hov
     simp only[Option.getD_some] at hov ⊢
     refine b_g (fun e=>by cases e) (fun _=>bcd (fun e=>nil (by rw[hov,d_7 e])) (fun e2=>(h σ).secs.lenK ?_))
     rw[List.length_map]
     refine bcd (fun e=>nil (by rw[hov,f_h e])) (fun e3=>(j_k hp (by omega)).mono ?_)
     obtain ⟨y,hy⟩:=o_o e2 e3
     rw[hy] at hov
     simp only at hov
     have no:¬(y.Line=0∧e_l r.Path q=false∧q≠c.approach r)→c.overlap r=[]:=fun hn=>by rw[hov,if_neg hn]
     rintro r4 s4 ⟨rfl,d4,rfl,hd4⟩
     refine ⟨d4,rfl,(g_8 q (hd4 _)).use ⟨_,rfl,?_⟩⟩
     rw[z_p]
     refine bc (fun k2=>nil (no fun g=>by rw[g.2.1] at k2;cases k2)) (fun k2=>bce (fun k3=>nil (no fun g=>g.2.2 k3)) (fun k3=>?_))
     refine (h s4).secs.load (a_m (g_x hy).2.2) b_2 (by omega) ⟨y.Line,rfl,bcn (fun k4=>nil (no fun g=>k4 g.1)) (fun k4=>?_)⟩
     refine a_f fun id s5 hid _ he5 hs5=>?_
     rw[hov,if_pos ⟨k4,k2,k3⟩]
     exact e_y (.at_new hid he5 hs5 (by simp) rfl) (p_o _)
 refine bcd (fun k0=>(h σ).sigs.lenK ?_) (fun k0=>?_)
 · rw[List.length_map]
   refine bcd (fun k1=>?_) (fun k1=>?_)
   · obtain ⟨z,hz⟩:=o_o (l:=c.Sigs) (i:=r.Entry) (by omega) (by omega)
     refine (h σ).sigs.load (a_m (g_x hz).2.2) c_h (by omega) ⟨z.Sec,rfl,?_⟩
     rw[Cf.approach,hz] at main;exact main
   · rw[Cf.approach,f_h (by omega)] at main;exact main
 · rw[Cf.approach,d_7 (by omega)] at main;exact main
end
end
end Go.Proofs.YtfdffboelecgoaaGreatDoor
namespace Go.Fw
section
theorem map_set {α β:Type}(f:α→β)(l:List α)(i:Nat)(x:α) :(l.map f).set i (f x) =(l.set i x).map f:=by simp
end
section
structure Vw where
 Occ:List Lk
 Pos:List Lk
 Shut:List Lk
 Lamp:List Lk
def Vw.fits (c:Cf)(v:Vw) :Bool:=decide (v.Occ.length=c.Secs.length∧v.Pos.length=c.Secs.length∧v.Shut.length=c.Xs.length∧v.Lamp.length=c.Sigs.length)
theorem a_iv {secs:List Sec}{js:List Jt}(h:d_z secs js=true){i:Nat}{s:Sec}(hs:secs[i]? =some s) :0≤s.Line∧s.Line≤3:=by
 unfold d_z at h
 rw[Bool.and_eq_true] at h
 have h2:=h.2
 split at h2
 · cases h2
 · exact ((s_y _ _ _ _).1 h2 i s hs).2.2.1
end
section
section
variable {occ:List Lk} {now:Int} {was may:Bool} {x:Ls} {o:Int} {s:Nat} {lk:Lk}
end
structure SameBut (k k':Co) (l s:Nat) :Prop where
 routes:k'.Routes=k.Routes
 lines:∀m,m≠l→k'.Lines[m]? =k.Lines[m]?
 own:∀t,t≠s→k'.Own[t]? =k.Own[t]?
end
section
def a_ol (c:Cf)(l:List Int) :List Rs→Nat→Bool
 | [],_=>false
 | r::rs,j=>(decide (r.State≠0) && inL l (c.Approach j)) || a_ol c l rs (j+1)
end
end Go.Fw
section
namespace Go.Fw
structure StOk (c:Cf) (r:Rt) (s:St) :Prop where
 sec:∃y,b_c c.Secs s.Sec=some y∧(r_c (h_1 y.Kind) s.In s.Out).isSome=true∧(r.Shunt=true→y.Line=0)
theorem u_0 {c:Cf}(ht:d_z c.Secs c.Jts=true)(r:Rt)(ex:Option Sg) :∀(l:List St) (a:Sg) (seen:List Int),u_v c r ex l a seen=true→
   (∀s ∈ l,StOk c r s∧s.Sec ∉ seen)∧(l.map St.Sec).Nodup
 | [],a,seen,_=>⟨fun s hs=>by simp at hs,by simp⟩
 | s::rest,a,seen,h=>by
   rw[u_v,Bool.and_eq_true] at h
   obtain ⟨h1,h2⟩:=h
   obtain ⟨q1,q2⟩:=u_0 ht r ex rest _ _ h2
   unfold z_5 at h1
   cases hn:nxt c.Jts a.Sec a.End_ with
   | none=>rw[hn] at h1;cases h1
   | some p=>
     obtain ⟨q,i⟩:=p
     rw[hn] at h1
     obtain ⟨y,hy⟩:=a_m3 ht hn
     simp only[hy,Option.getD_some,Bool.and_eq_true,decide_eq_true_eq,Bool.not_eq_true'] at h1
     obtain ⟨⟨⟨⟨⟨rfl,e2⟩,e3⟩,e4⟩,e5⟩,e6⟩:=h1
     refine ⟨fun x hx=>?_,?_⟩
     · rcases List.mem_cons.1 hx with rfl | hx
       · refine ⟨⟨y,hy,e3,fun hs=>?_⟩,e4⟩
         rw[hs,Bool.true_and,decide_eq_false_iff_not] at e6
         exact Decidable.not_not.1 e6
       · obtain ⟨w1,w2⟩:=q1 x hx
         exact ⟨w1,fun hm=>w2 (List.mem_cons_of_mem _ hm)⟩
     · rw[List.map_cons,List.nodup_cons]
       refine ⟨fun hm=>?_,q2⟩
       obtain ⟨x,hx,e⟩:=List.mem_map.1 hm
       exact (q1 x hx).2 (by rw[e];simp)
structure RtOk (c:Cf) (r:Rt) :Prop where
 entry:∃a,b_c c.Sigs r.Entry=some a
 exit_:r.Exit= -1∨∃x,b_c c.Sigs r.Exit=some x
 len:1≤r.Path.length∧r.Path.length≤8
 step:∀s ∈ r.Path,StOk c r s∧s.Sec≠c.approach r
 dup:(r.Path.map St.Sec).Nodup
 flank:r.Flank=c.flank (c.approach r) r.Path
 over:r.Overlap=c.overlap r
theorem u_p {c:Cf} :∀{l:List Rt},c.routes l=0→∀r ∈ l,c.route r=0
 | [],_,r,hr=>by simp at hr
 | x::l,h,r,hr=>by
   rw[Cf.routes] at h
   split at h
   · rename_i hne;exact absurd h hne
   · rename_i he
     rcases List.mem_cons.1 hr with rfl | hr
     · simpa using he
     · exact u_p h r hr
theorem u_n {c:Cf}(h:c.check=0) :d_z c.Secs c.Jts=true∧c.sigsOk=true∧c.xsOk=true∧c.Rts.length≤12∧c.routes c.Rts=0∧c.timing=true:=by
 unfold Cf.check at h
 split at h
 · cases h
 split at h
 · cases h
 split at h
 · cases h
 split at h
 · cases h
 split at h
 · rename_i hne;exact absurd h hne
 split at h
 · rename_i h1 h2 h3 h4 h5 h6
   exact ⟨by simpa using h1,by simpa using h2,by simpa using h3,by omega,by simpa using h5,h6⟩
 · cases h
theorem a_mu {c:Cf}(ht:d_z c.Secs c.Jts=true){r:Rt}(h:c.route r=0) :RtOk c r:=by
 unfold Cf.route at h
 split at h
 · cases h
 split at h
 · cases h
 split at h
 · cases h
 rename_i h1 h2 h3
 have h1:c.path r=true:=by simpa using h1
 unfold Cf.path at h1
 cases hg:b_c c.Sigs r.Entry with
 | none=>rw[hg] at h1;cases h1
 | some a=>
   rw[hg] at h1
   simp only[Bool.and_eq_true,Bool.or_eq_true,decide_eq_true_eq] at h1
   obtain ⟨⟨e1,e2⟩,e3⟩:=h1
   obtain ⟨q1,q2⟩:=u_0 ht r _ _ _ _ e3
   have ha:c.approach r=a.Sec:=by rw[Cf.approach,hg];rfl
   refine ⟨⟨a,hg⟩,e1.imp id Option.isSome_iff_exists.1,e2,fun s hs=>⟨(q1 s hs).1,fun e=>(q1 s hs).2 (by rw[e,ha];simp)⟩,q2,Decidable.not_not.1 h2,Decidable.not_not.1 h3⟩
theorem a_k8 {c:Cf}(h:c.check=0){r:Rt}(hr:r ∈ c.Rts) :RtOk c r:=by
 obtain ⟨h1,_,_,_,h5,_⟩:=u_n h
 exact a_mu h1 (u_p h5 r hr)
structure NdOk (c:Cf) (a:Int) (path:List St) (n:Nd) :Prop where
 sec:∃y,b_c c.Secs n.Sec=some y∧y.Kind=1
 pos:1≤n.Pos∧n.Pos≤2
 app:n.Sec≠a
 path:e_l path n.Sec=false
def FlOk (c:Cf)(a:Int)(path:List St)(out:List Nd) :Prop:=(∀n ∈ out,NdOk c a path n)∧(out.map Nd.Sec).Nodup
theorem a_bs {c:Cf}{a:Int}{p:List St}{s:St}{out:List Nd}{e:Int}(h:FlOk c a p out) :FlOk c a p (a_1 c a p s out e):=by
 unfold a_1
 split
 · exact h
 · split
   · exact h
   · split
     · exact h
     · rename_i y hy
       split
       · rename_i hc
         obtain ⟨c1,c2,c3,c4,c5⟩:=hc
         refine ⟨fun n hn=>?_,?_⟩
         · rcases List.mem_append.1 hn with hn | hn
           · exact h.1 n hn
           · rw[List.mem_singleton] at hn;subst hn
             exact ⟨⟨y,hy,c1⟩,by simp only;omega,c3,c4⟩
         · rw[List.map_append,List.nodup_append]
           refine ⟨h.2,by simp,fun x hx z hz=>?_⟩
           simp only[List.map_cons,List.map_nil,List.mem_singleton] at hz
           subst hz
           intro e
           obtain ⟨n,hn,e2⟩:=List.mem_map.1 hx
           rw[List.any_eq_false] at c5
           exact c5 n hn (by rw[e2,e];simp)
       · exact h
theorem r_j {c:Cf}{a:Int}{p:List St}{s:St} :∀(n:Nat) (e:Int) (out:List Nd),FlOk c a p out→FlOk c a p (a_y c a p s n e out)
 | 0,_,_,h=>h
 | n+1,e,out,h=>by rw[a_y];exact r_j n _ _ (a_bs h)
theorem u_2 {c:Cf}{a:Int}{p:List St} :∀(l:List St) (out:List Nd),FlOk c a p out→FlOk c a p (b_n c a p l out)
 | [],_,h=>h
 | s::r,out,h=>by
   rw[b_n]
   refine u_2 r _ ?_
   split
   · exact h
   · exact r_j _ _ _ h
theorem a_k4 (c:Cf)(a:Int)(p:List St) :FlOk c a p (c.flank a p):=u_2 p [] ⟨fun n h=>by simp at h,by simp⟩
theorem a_j3 (c:Cf)(a:Int)(p:List St) :(c.flank a p).length≤4 * p.length:=by
 have:=(l_y c a p p []).2
 simpa[Cf.flank] using this
theorem a_hp {c:Cf}{r:Rt}{q:Int}(h:q ∈ c.overlap r) :(∃y,b_c c.Secs q=some y∧y.Line=0)∧e_l r.Path q=false∧q≠c.approach r:=by
 unfold Cf.overlap at h
 split at h
 · simp at h
 split at h
 · simp at h
 split at h
 · simp at h
 split at h
 · simp at h
 rename_i y hy
 split at h
 · rename_i hc
   rw[List.mem_singleton] at h;subst h
   exact ⟨⟨y,hy,hc.1⟩,hc.2.1,hc.2.2⟩
 · simp at h
theorem a_mb (c:Cf)(r:Rt) :(c.overlap r).length≤1:=by
 unfold Cf.overlap
 split
 · simp
 split
 · simp
 split
 · simp
 split
 · simp
 split <;> simp
theorem RtOk.fl {c:Cf}{r:Rt}(h:RtOk c r) :FlOk c (c.approach r) r.Path r.Flank:=by rw[h.flank];exact a_k4 _ _ _
theorem RtOk.flen {c:Cf}{r:Rt}(h:RtOk c r) :r.Flank.length≤32:=by
 rw[h.flank];have:=a_j3 c (c.approach r) r.Path;have:=h.len;omega
theorem RtOk.olen {c:Cf}{r:Rt}(h:RtOk c r) :r.Overlap.length≤1:=by rw[h.over];exact a_mb _ _
end Go.Fw
namespace Go.Fw
end Go.Fw
end
namespace Go.Fw
section
def zRt:Rt:=⟨0,0,[],[],[],false⟩
def Cf.rt (c:Cf)(i:Int) :Rt:=(b_c c.Rts i).getD zRt
end
section
def cpt:List Int→List Int
 | []=> []
 | x::r=>match cpt r with
   | []=> [x]
   | y::q=>if x=y then y::q else x::y::q
theorem v_x:∀(l:List Int) (z:Int),z ∈ cpt l↔z ∈ l
 | [],z=>by simp[cpt]
 | x::r,z=>by
   have ih:=v_x r z
   rw[cpt]
   split
   · rename_i h;rw[h] at ih;simp at ih;simp[ih]
   · rename_i y q h
     rw[h] at ih
     split
     · rename_i e;rw[ih,List.mem_cons];exact ⟨.inr,fun hz=>hz.elim (fun e'=>by rw[←ih,e',e];simp) id⟩
     · rw[List.mem_cons,ih,List.mem_cons]
theorem w_z:∀{l:List Int},l.Pairwise (·≤·)→(cpt l).Pairwise (· < ·)
 | [],_=>by simp[cpt]
 | x::r,h=>by
   rw[List.pairwise_cons] at h
   have ih:=w_z h.2
   rw[cpt]
   split
   · simp
   · rename_i y q hq
     rw[hq] at ih
     split
     · exact ih
     · rename_i hne
       rw[List.pairwise_cons]
       refine ⟨fun z hz=>?_,ih⟩
       have h1:y ∈ r:=(v_x r y).1 (by rw[hq];simp)
       have h2:=h.1 y h1
       rcases List.mem_cons.1 hz with rfl | hz
       · omega
       · have:=(List.pairwise_cons.1 ih).1 z hz;omega
theorem q_v:∀{a b:List Int},a.Pairwise (· < ·)→b.Pairwise (· < ·)→(∀z,z ∈ a↔z ∈ b)→a=b
 | [],[],_,_,_=>rfl
 | [],y::b,_,_,h=>absurd ((h y).2 (by simp)) (by simp)
 | x::a,[],_,_,h=>absurd ((h x).1 (by simp)) (by simp)
 | x::a,y::b,ha,hb,h=>by
   rw[List.pairwise_cons] at ha hb
   have e:x=y:=by
     have h1:=(h x).1 (by simp)
     have h2:=(h y).2 (by simp)
     rcases List.mem_cons.1 h1 with h1 | h1
     · exact h1
     · rcases List.mem_cons.1 h2 with h2 | h2
       · exact h2.symm
       · have:=hb.1 x h1;have:=ha.1 y h2;omega
   subst e
   congr 1
   refine q_v ha.2 hb.2 fun z=>⟨fun hz=>?_,fun hz=>?_⟩
   · rcases List.mem_cons.1 ((h z).1 (by simp[hz])) with e | hz'
     · subst e;have:=ha.1 z hz;omega
     · exact hz'
   · rcases List.mem_cons.1 ((h z).2 (by simp[hz])) with e | hz'
     · subst e;have:=hb.1 z hz;omega
     · exact hz'
theorem a_et {l:List Int}(h:l.Pairwise (·≤·)) :Lib.compact l=cpt l:=q_v (w_0 h) (w_z h) fun z=>by rw[a_ft,v_x]
def Cf.lockR (r:Rt) :List Int:=cpt (e_3 (r.Overlap ++ r.Path.map St.Sec ++ r.Flank.map Nd.Sec))
def Cf.lockL (c:Cf)(i:Int) :List Int:=match b_c c.Rts i with
 | some r=>Cf.lockR r
 | none=> []
theorem a_jx {r:Rt}{z:Int} :z ∈ Cf.lockR r↔z ∈ r.Overlap∨z ∈ r.Path.map St.Sec∨z ∈ r.Flank.map Nd.Sec:=by
 rw[Cf.lockR,v_x,(a_fw _).mem_iff];simp[or_assoc]
theorem a_gy (r:Rt) :(Cf.lockR r).Pairwise (· < ·):=w_z (n_l _)
def g_g (out:List Int)(s:Int) :Nat→Nat
 | 0=>0
 | n+1=>match out[n]? with
   | some x=>if s < x then g_g out s n else n+1
   | none=>n+1
def k_w (out:List Int)(s:Int) :List Int:=
 if s ∈ out then out else out.take (g_g out s out.length) ++ [s] ++ out.drop (g_g out s out.length)
theorem a_fr (out:List Int)(s:Int) :∀n,n≤out.length→∀i x,g_g out s n≤i→i < n→out[i]? =some x→s < x
 | 0,_,i,x,_,h,_=>by omega
 | n+1,hn,i,x,h1,h2,h3=>by
   rw[g_g] at h1
   split at h1
   · rename_i y hy
     split at h1
     · rename_i hlt
       by_cases e:i=n
       · subst e;rw[hy] at h3;cases h3;exact hlt
       · exact a_fr out s n (by omega) i x h1 (by omega) h3
     · omega
   · omega
theorem u_e {out:List Int}{s:Int}(hp:out.Pairwise (· < ·)) :∀n,n≤out.length→∀i x,i < g_g out s n→out[i]? =some x→x≤s
 | 0,_,i,x,h,_=>by rw[g_g] at h;omega
 | n+1,hn,i,x,h1,h3=>by
   rw[g_g] at h1
   split at h1
   · rename_i y hy
     split at h1
     · exact u_e hp n (by omega) i x h1 h3
     · rename_i hge
       by_cases e:i=n
       · subst e;rw[hy] at h3;cases h3;omega
       · have hlt:i < n:=by omega
         obtain ⟨h4,h5⟩:=List.getElem?_eq_some_iff.1 h3
         obtain ⟨h6,h7⟩:=List.getElem?_eq_some_iff.1 hy
         have:=List.pairwise_iff_getElem.1 hp i n h4 h6 hlt
         rw[h5,h7] at this;omega
   · rename_i hnone;rw[List.getElem?_eq_none_iff] at hnone;omega
theorem a_i3 {out:List Int}{s:Int}(hp:out.Pairwise (· < ·)) :(k_w out s).Pairwise (· < ·):=by
 unfold k_w
 split
 · exact hp
 · rename_i hs
   have hsplit:=List.take_append_drop (g_g out s out.length) out
   have h1:∀x ∈ out.take (g_g out s out.length),x < s:=by
     intro x hx
     obtain ⟨i,hi,e⟩:=List.getElem_of_mem hx
     have h2:out[i]? =some x:=by rw[List.getElem_take] at e;rw[←e];exact List.getElem?_eq_getElem _
     have h3:=u_e (s:=s) hp out.length (Nat.le_refl _) i x (by rw[List.length_take] at hi;omega) h2
     have:x≠s:=fun e=>hs (e ▸ List.mem_of_getElem? h2)
     omega
   have h2:∀x ∈ out.drop (g_g out s out.length),s < x:=by
     intro x hx
     obtain ⟨i,hi,e⟩:=List.getElem_of_mem hx
     have h2:out[g_g out s out.length+i]? =some x:=by rw[List.getElem_drop] at e;rw[←e];exact List.getElem?_eq_getElem _
     exact a_fr out s out.length (Nat.le_refl _) _ x (by omega) (by rw[List.length_drop] at hi;omega) h2
   rw[←hsplit,List.pairwise_append] at hp
   rw[List.append_assoc,List.pairwise_append]
   refine ⟨hp.1,?_,fun a ha b hb=>?_⟩
   · rw[List.singleton_append,List.pairwise_cons];exact ⟨h2,hp.2.1⟩
   · rcases List.mem_cons.1 hb with rfl | hb
     · exact h1 a ha
     · exact hp.2.2 a ha b hb
theorem a_kb {out:List Int}{s z:Int} :z ∈ k_w out s↔z ∈ out∨z=s:=by
 unfold k_w
 split
 · rename_i hs;exact ⟨.inl,fun h=>h.elim id fun e=>e ▸ hs⟩
 · have : z ∈ out ↔ z ∈ out.take (g_g out s out.length) ∨ z ∈ out.drop (g_g out s out.length) := by
     rw[←List.mem_append,List.take_append_drop]
   rw[this,List.append_assoc,List.mem_append,List.mem_append,List.mem_singleton]
   constructor
   · rintro (h | h | h) <;> simp[h]
   · rintro ((h | h) | h) <;> simp[h]
theorem w_u:∀(l out:List Int),out.Pairwise (· < ·)→(l.foldl k_w out).Pairwise (· < ·)∧∀z,z ∈ l.foldl k_w out↔z ∈ out∨z ∈ l
 | [],out,h=>⟨h,fun z=>by simp⟩
 | s::r,out,h=>by
   obtain ⟨q1,q2⟩:=w_u r (k_w out s) (a_i3 h)
   refine ⟨q1,fun z=>?_⟩
   rw[List.foldl_cons,q2,a_kb,List.mem_cons,or_assoc]
theorem x_1 (r:Rt) :(r.Path.map St.Sec ++ r.Flank.map Nd.Sec ++ r.Overlap).foldl k_w []=Cf.lockR r:=by
 obtain ⟨q1,q2⟩:=w_u (r.Path.map St.Sec ++ r.Flank.map Nd.Sec ++ r.Overlap) [] (by simp)
 refine q_v q1 (a_gy r) fun z=>?_
 rw[q2,a_jx]
 simp only[List.mem_append,List.not_mem_nil,false_or]
 constructor
 · rintro ((h | h) | h) <;> simp[h]
 · rintro (h | h | h) <;> simp[h]
theorem a_bd:∀l:List Int,(cpt l).length≤l.length
 | []=>Nat.le_refl _
 | x::r=>by
   have ih:=a_bd r
   rw[cpt]
   split
   · simp
   · rename_i y q h
     rw[h] at ih
     split
     · simp at ih ⊢;omega
     · simp at ih ⊢;omega
def Co.inh (c:Cf)(k:Co)(r s:Int) :Bool:=
 let o:=(b_c k.Own s).getD 0 - 1
 decide (0≤o∧o≠r) && (decide ((c.rt o).Exit=(c.rt r).Entry) && inL (c.rt o).Overlap s)
def Co.blocked (c:Cf)(k:Co)(r:Int)(l:List Int) :Bool:=l.any fun s=>decide ((b_c k.Own s).getD 0≠0) && !k.inh c r s
def Co.may (c:Cf)(k:Co)(r:Int)(l:List Int) :Int:=
 if a_ol c l k.Routes 0=true then 23 else if k.blocked c r l=true then 22 else 0
def a_fe (c:Cf) :List St→Int
 | []=>0
 | s::r=>let n:=((b_c c.Secs s.Sec).getD ⟨0,0,0⟩).Line;if n > 0 then n else a_fe c r
def Co.done (k:Co)(e:Int)(y:Co) :Co × Int:=(if e=0 then y else k,e)
end
section
structure FitIs (c:Cf) (k:Co) :Prop where
 chk:c.check=0
 lOwn:k.Own.length=c.Secs.length
 lPts:k.Points.length=c.Secs.length
 lRes:k.Resets.length=c.Secs.length
 lRts:k.Routes.length=c.Rts.length
 lXs:k.Xs.length=c.Xs.length
 lLn:k.Lines.length=4
 own:∀o ∈ k.Own,-2≤o∧o≤c.Rts.length
 rts:∀(i:Nat) x r,k.Routes[i]? =some x→c.Rts[i]? =some r→Rs.fits (x,r) =true
 pts:∀m ∈ k.Points,Mv.fits m=true
 xs:∀m ∈ k.Xs,Mv.fits m=true
 lns:∀l ∈ k.Lines,Ls.fits l=true
 res:∀z ∈ k.Resets,tm 1 z=true
theorem o_j {α:Type}{l:List α}{i:Int}{x:α}(h:b_c l i=some x) :x ∈ l:=List.mem_of_getElem? (g_x h).2.2
theorem a_o6 {α:Type}{l:List α}{i:Int}{p:α→Prop}{z:α}(hz:p z)(h:∀x ∈ l,p x) :p ((b_c l i).getD z):=by
 cases hg:b_c l i with
 | none=>exact hz
 | some x=>exact h x (o_j hg)
theorem a_a2 {c:Cf}(h:c.check=0)(l:List St) :0≤a_fe c l∧a_fe c l≤3:=by
 induction l with
 | nil=>exact ⟨Int.le_refl _,by unfold a_fe;omega⟩
 | cons s r ih=>
   rw[a_fe]
   have hs:0≤((b_c c.Secs s.Sec).getD ⟨0,0,0⟩).Line∧((b_c c.Secs s.Sec).getD ⟨0,0,0⟩).Line≤3:=by
     refine a_o6 (p:=fun y:Sec=>0≤y.Line∧y.Line≤3) (by decide) fun y hy=>?_
     obtain ⟨i,hi,e⟩:=List.getElem_of_mem hy
     exact a_iv (u_n h).1 (i:=i) (by rw[List.getElem?_eq_getElem hi,e])
   split
   · exact hs
   · exact ih
end
end Go.Fw
namespace Go.Proofs.YtfdffboelecgoaaGreatDoor
open Go.Fw Go.Proofs Go.RowKit
open Go.Proofs.Tryz (prog)
section
variable {σ:Store}
theorem a_l2 {t:TypeId}{bytes:Nat}{d:D}{rows:List (List D)}{Q:RV→Store→Prop}(h:At prog σ t d rows)(hz:d≠ .zsl)(hb:bytes * rows.length≤140737488355328)
   (hQ:∀d' s,Own prog σ s t d' rows→Q (.a (.one d')) s) :
   ∃b:Bool,(j_2 .sl d b)∧a_c (b != false) (Q (.a (.one .nils)) σ) (Fw.newObj σ (.live t []) (fun (id:Nat)=>fun (σ':Store)=>a_e prog σ' t bytes (.osl id 0 0) d (fun (d:D)=>fun (σ'1:Store)=>Q (.a (.one d)) σ'1))):=by
 have new:∀b:Bool,b=false→a_c (b != false) (Q (.a (.one .nils)) σ) (Fw.newObj σ (.live t []) (fun (id:Nat)=>fun (σ':Store)=>a_e prog σ' t bytes (.osl id 0 0) d (fun (d:D)=>fun (σ'1:Store)=>Q (.a (.one d)) σ'1))):=by
   rintro b rfl
   rw[show (false != false) =false from by decide]
   refine (a_f (K:=fun id σ'=>a_e prog σ' t bytes (.osl id 0 0) d fun d σ'1=>Q (.a (.one d)) σ'1) ?_:Fw.newObj σ (.live t []) _)
   refine fun id s hid _ he hs=>?_
   have ho:Own prog σ s t (.osl id 0 0) []:=⟨At.fresh hs (by simp) rfl,he,v_6 hid,fun h=>h,by intro e;cases e⟩
   exact ho.append (h.ext he) (by simpa using hb) (by have:=h.size;simpa using this) fun d' s' ho' _ _=>hQ _ _ (by simpa using ho')
 have hr:=h.rows
 cases d <;> simp only[Go.Fw.Rows] at hr <;> try exact hr.elim
 · subst hr;exact ⟨true,rfl,hQ _ _ (.nil _ (.refl _))⟩
 · exact absurd rfl hz
 · exact ⟨false,rfl,new _ rfl⟩
 · exact ⟨false,rfl,new _ rfl⟩
theorem s_o {d:D}{rows:List (List D)}(h:At prog σ t_int d rows)(hz:d≠ .zsl)(hb:8 * rows.length≤140737488355328) :DCalls prog f_q [.one d] σ fun r s=>∃d',r= .a (.one d')∧Own prog σ s t_int d' rows:=
 q_p d σ _ (a_l2 (Q:=fun r s=>∃d',r= .a (.one d')∧Own prog σ s _ d' rows) h hz hb fun d' s ho=>⟨d',rfl,ho⟩)
end
end Go.Proofs.YtfdffboelecgoaaGreatDoor
namespace Go.Proofs.YtfdffboelecgoaaGreatDoor
open Go.Shelf Go.Proofs
open Go.Proofs.Tryz (prog)
section
def a_bm:Go.Shelf.Ren:=⟨fun | 189=>58 | 125=>96 | 257=>95 | 128=>129 | 129=>130 | 294=>120 | 295=>121 | 296=>122 | 297=>123 | 298=>124 | 299=>125 | 216=>126 | 300=>127 | 301=>128 | 328=>146 | 329=>147 | 330=>148 | 331=>149 | 332=>150 | 215=>151 | 343=>164 | n=>n,fun | 28=>25 | 3=>3 | 46=>40 | 0=>0 | 51=>175 | 53=>177 | 4=>4 | 183=>168 | 182=>167 | 131=>68 | 5=>5 | 9=>9 | 218=>193 | 222=>197 | 228=>214 | 229=>215 | n=>n,fun | n=>n⟩
theorem a_lq:Go.Proofs.Lays.n189 prog a_bm:= {
 mixed:=by kernel_rfl
 f125:=Tryz.func96.trans (congrArg some (by kernel_rfl))
 f128:=Tryz.func129.trans (congrArg some (by kernel_rfl))
 f129:=Tryz.func130.trans (congrArg some (by kernel_rfl))
 f189:=Tryz.func58.trans (congrArg some (by kernel_rfl))
 f215:=Tryz.func151.trans (congrArg some (by kernel_rfl))
 f216:=Tryz.func126.trans (congrArg some (by kernel_rfl))
 f257:=Tryz.func95.trans (congrArg some (by kernel_rfl))
 f294:=Tryz.func120.trans (congrArg some (by kernel_rfl))
 f295:=Tryz.func121.trans (congrArg some (by kernel_rfl))
 f296:=Tryz.func122.trans (congrArg some (by kernel_rfl))
 f297:=Tryz.func123.trans (congrArg some (by kernel_rfl))
 f298:=Tryz.func124.trans (congrArg some (by kernel_rfl))
 f299:=Tryz.func125.trans (congrArg some (by kernel_rfl))
 f300:=Tryz.func127.trans (congrArg some (by kernel_rfl))
 f301:=Tryz.func128.trans (congrArg some (by kernel_rfl))
 f328:=Tryz.func146.trans (congrArg some (by kernel_rfl))
 f329:=Tryz.func147.trans (congrArg some (by kernel_rfl))
 f330:=Tryz.func148.trans (congrArg some (by kernel_rfl))
 f331:=Tryz.func149.trans (congrArg some (by kernel_rfl))
 f332:=Tryz.func150.trans (congrArg some (by kernel_rfl))
 f343:=Tryz.func164.trans (congrArg some (by kernel_rfl))
 t0:=Tryz.underlying0
 a0:=Tryz.isAgg0
 z0:=Tryz.sizeOf0
 v0:=Tryz.zeroValue0
 t3:=Tryz.underlying3
 a3:=Tryz.isAgg3
 z3:=Tryz.sizeOf3
 v3:=Tryz.zeroValue3
 t4:=Tryz.underlying4
 a4:=Tryz.isAgg4
 z4:=Tryz.sizeOf4
 v4:=Tryz.zeroValue4
 t5:=Tryz.underlying5
 a5:=Tryz.isAgg5
 z5:=Tryz.sizeOf5
 v5:=Tryz.zeroValue5
 t9:=Tryz.underlying9
 a9:=Tryz.isAgg9
 z9:=Tryz.sizeOf9
 v9:=Tryz.zeroValue9
 t28:=Tryz.underlying25
 a28:=Tryz.isAgg25
 z28:=Tryz.sizeOf25
 v28:=Tryz.zeroValue25
 t46:=Tryz.underlying40
 a46:=Tryz.isAgg40
 z46:=Tryz.sizeOf40
 v46:=Tryz.zeroValue40
 t51:=Tryz.underlying175
 a51:=Tryz.isAgg175
 z51:=Tryz.sizeOf175
 v51:=Tryz.zeroValue175
 t53:=Tryz.underlying177
 a53:=Tryz.isAgg177
 z53:=Tryz.sizeOf177
 v53:=Tryz.zeroValue177
 t131:=Tryz.underlying68
 a131:=Tryz.isAgg68
 z131:=Tryz.sizeOf68
 v131:=Tryz.zeroValue68
 t182:=Tryz.underlying167
 a182:=Tryz.isAgg167
 z182:=Tryz.sizeOf167
 v182:=Tryz.zeroValue167
 t183:=Tryz.underlying168
 a183:=Tryz.isAgg168
 z183:=Tryz.sizeOf168
 v183:=Tryz.zeroValue168
 t218:=Tryz.underlying193
 a218:=Tryz.isAgg193
 z218:=Tryz.sizeOf193
 v218:=Tryz.zeroValue193
 t222:=Tryz.underlying197
 a222:=Tryz.isAgg197
 z222:=Tryz.sizeOf197
 v222:=Tryz.zeroValue197
 t228:=Tryz.underlying214
 a228:=Tryz.isAgg214
 z228:=Tryz.sizeOf214
 v228:=Tryz.zeroValue214
 t229:=Tryz.underlying215
 a229:=Tryz.isAgg215
 z229:=Tryz.sizeOf215
 v229:=Tryz.zeroValue215 }
end
section
def v_n:Go.Shelf.Ren:=⟨fun | 20=>59 | n=>n,fun | 22=>25 | 3=>3 | 4=>4 | 0=>0 | n=>n,fun | n=>n⟩
theorem a_fk:Go.Proofs.Lays2.n20 prog v_n:= {
 mixed:=by kernel_rfl
 f20:=Tryz.func59.trans (congrArg some (by kernel_rfl))
 t0:=Tryz.underlying0
 a0:=Tryz.isAgg0
 z0:=Tryz.sizeOf0
 v0:=Tryz.zeroValue0
 t3:=Tryz.underlying3
 a3:=Tryz.isAgg3
 z3:=Tryz.sizeOf3
 v3:=Tryz.zeroValue3
 t4:=Tryz.underlying4
 a4:=Tryz.isAgg4
 z4:=Tryz.sizeOf4
 v4:=Tryz.zeroValue4
 t22:=Tryz.underlying25
 a22:=Tryz.isAgg25
 z22:=Tryz.sizeOf25
 v22:=Tryz.zeroValue25
 i3:=by kernel_rfl }
end
end Go.Proofs.YtfdffboelecgoaaGreatDoor
namespace Go.Proofs.YtfdffboelecgoaaGreatDoor
open Go.Fw Go.Proofs Go.RowKit
open Go.Proofs.Tryz (prog)
section
variable {σ σ0:Store}
theorem a_e3 {s:Store}{d:D}{l ys:List Int}(h:Own prog σ0 s t_int d (l.map Go.Fw.encI))(h0:l≠[])(hl:ys.length=l.length) :
   ∃id i0 t rows,d= .osl id i0 l.length∧s id= .live t rows∧prog.cellsOf t=1∧i0+l.length≤rows.length∧(rows.drop i0).take l.length=l.map g_v∧σ0 id= .free∧
     Own prog σ0 (s.set id (.live t (rows.take i0 ++ ys.map g_v ++ rows.drop (i0+l.length)))) t_int d (ys.map Go.Fw.encI):=by
 have hr:=h.at_.rows
 have hsz:=h.at_.size
 rw[List.length_map] at hsz
 have hnz:=h.nz
 have hns:=h.nsl
 have hnew:=h.new
 have hlen:=h.at_.lenI
 rw[List.length_map] at hlen
 cases d <;> simp only[Go.Fw.Rows] at hr <;> try exact hr.elim
 · exact absurd (List.map_eq_nil_iff.1 hr) h0
 · exact absurd rfl hnz
 · exact absurd trivial hns
 · rename_i id i0 len
   obtain ⟨t,rows,a1,a2,a3,a4⟩:=hr
   have e:l.length=len:=hlen
   subst e
   have ht:prog.cellsOf t=1:=by rw[a2];exact c_int
   have hn:=hnew _ _ _ rfl
   refine ⟨id,i0,t,rows,rfl,a1,ht,a3,a4.symm,hn,⟨⟨⟨t,_,Store.set_same _ _ _,a2,?_,?_⟩,?_,fun es rows e=>by cases e⟩,?_,hnew,fun h=>h,by intro e;cases e⟩⟩
   · simp;omega
   · have hi0:(rows.take i0).length=i0:=by simp;omega
     rw[List.append_assoc,List.drop_append_of_le_length (by omega),List.drop_of_length_le (by omega),List.nil_append,List.take_append_of_le_length (by simp;omega),List.take_of_length_le (by simp;omega)]
     rfl
   · rw[List.length_map];omega
   · intro i hi
     rw[Store.set_ne _ _ (by intro e;subst e;exact hi hn)]
     exact h.ext i hi
theorem u_t {s:Store}{d:D}{l:List Int}(h:Own prog σ0 s t_int d (l.map Go.Fw.encI))(h0:l≠[]) :
   DCalls prog e_e [.one d] s fun r s'=>r= .tup []∧Own prog σ0 s' t_int d ((e_3 l).map Go.Fw.encI):=by
 have hsz:=h.at_.size
 rw[List.length_map] at hsz
 obtain ⟨id,i0,t,rows,rfl,a1,ht,a3,a4,hn,ho⟩:=a_e3 (ys:=e_3 l) h h0 (by simp[e_3])
 refine (a_e0 a_lq ht a1 a3 a4 (List.length_pos_iff.2 h0) (by omega)).mono ?_
 rintro r s' ⟨rfl,rfl⟩
 exact ⟨rfl,ho⟩
theorem n_n {s:Store}{d:D}{l:List Int}(h:Own prog σ0 s t_int d (l.map Go.Fw.encI))(h0:l≠[])(hp:l.Pairwise (·≤·)) :
   DCalls prog d_h [.one d] s fun r s'=>∃d',r= .a (.one d')∧Own prog σ0 s' t_int d' ((cpt l).map Go.Fw.encI):=by
 have hsz:=h.at_.size
 rw[List.length_map] at hsz
 have hc:=a_et hp
 have hle:=a_bd l
 obtain ⟨id,i0,t,rows,rfl,a1,ht,a3,a4,hn,ho⟩:=a_e3 (ys:=Lib.compact l ++ List.replicate (l.length - (Lib.compact l).length) 0) h h0 (by rw[hc];simp;omega)
 refine (w_o a_fk ht a1 a3 a4 (List.length_pos_iff.2 h0) (by omega)).mono ?_
 rintro r s' ⟨rfl,rfl⟩
 have:=ho.sub (lo:=0) (hi:=(cpt l).length) (by omega) (by rw[hc];simp)
 rw[hc] at this ⊢
 refine ⟨_,rfl,?_⟩
 have e:((((cpt l ++ List.replicate (l.length - (cpt l).length) 0).map Go.Fw.encI).drop 0).take ((cpt l).length - 0)) =(cpt l).map Go.Fw.encI:=by
   rw[List.drop_zero,Nat.sub_zero,List.map_append,List.take_append_of_le_length (by simp),List.take_of_length_le (by simp)]
 rw[e] at this
 exact this
def x_t:D→Prop
 | .sl _ rows=>∀row ∈ rows,row[4]?≠some .zsl
 | _=>True
theorem a_ih {c4:D}{rows:List (List D)}(hz:x_t c4)(hat:∀s,At prog s a_w c4 rows){i:Nat}{row:List D}(hr:rows[i]? =some row) :row[4]?≠some .zsl:=by
 have hx:=(hat (fun _=> .free)).rows
 cases c4 <;> simp only[Go.Fw.Rows] at hx <;> try exact hx.elim
 · subst hx;simp at hr
 · subst hx;simp at hr
 · obtain ⟨rfl,_⟩:=hx;exact hz _ (List.mem_of_getElem? hr)
 · obtain ⟨t,rows',h1,_⟩:=hx;cases h1
def RtSz (x:Rt) :Prop:=1≤x.Overlap.length+x.Path.length+x.Flank.length∧x.Path.length≤2 ^ 20∧x.Flank.length≤2 ^ 20∧x.Overlap.length≤2 ^ 20
section
variable {c0 c1 c2 c3 c4:D} {c:Cf} (h:∀s,z_q prog a_w a_i a_r t_int s c4 c.Rts)
include h
theorem a_hm {i:Nat}{x:Rt}(hx:c.Rts[i]? =some x) :∃rows d1 d2 d3,(∀s,At prog s a_w c4 rows)∧rows.length=c.Rts.length∧rows[i]? =some [iD x.Entry,iD x.Exit,d1,d2,d3, .bool x.Shunt]∧
   (∀s,At prog s a_i d1 (x.Path.map St.enc))∧(∀s,At prog s a_r d2 (x.Flank.map Nd.enc))∧(∀s,At prog s t_int d3 (x.Overlap.map Go.Fw.encI)):=by
 obtain ⟨rows,hat,hlen,hrow⟩:=r_1 h
 obtain ⟨row,hrw⟩:=a_h (l:=rows) (j:=i) (by have:=(List.getElem?_eq_some_iff.1 hx).1;omega)
 obtain ⟨d1,d2,d3,rfl,q1,q2,q3⟩:=hrow i row x hrw hx
 exact ⟨rows,d1,d2,d3,hat,hlen,hrw,q1,q2,q3⟩
theorem a_i4 (hs:∀x ∈ c.Rts,RtSz x)(hz:x_t c4)(i:Int) :DCalls prog b_9 [cfA c0 c1 c2 c3 c4 c,iA i] σ (c_n σ t_int ((c.lockL i).map Go.Fw.encI)):=by
 refine (s_w _ _ _ _ _ _ _ _ _ i σ _ ?_).ret (Q:=fun r s=>∃r' σ',Ret prog σ s r σ' r'∧c_n σ t_int ((c.lockL i).map Go.Fw.encI) r' σ') (fun r s h=>h)
 intro R hR
 have nil:b_c c.Rts i=none→∃r' σ',Ret prog σ σ (.a (.one .nils)) σ' r'∧c_n σ t_int ((c.lockL i).map Go.Fw.encI) r' σ':=fun e=>by
   have:c.lockL i=[]:=by unfold Cf.lockL;rw[e]
   rw[this];exact e_y (.nil _ (.refl _)) (p_o _)
 obtain ⟨rows,hat,hlen,_⟩:=h σ
 refine bcd (fun e=>nil (d_7 e)) (fun e0=>hat.lenK (bcd (fun e=>nil (f_h (by omega))) (fun e1=>hR σ ?_)))
 obtain ⟨x,hx⟩:=o_o (l:=c.Rts) (i:=i) e0 (by omega)
 clear hR nil hat
 have hll:c.lockL i=Cf.lockR x:=by unfold Cf.lockL;rw[hx]
 rw[hll]
 obtain ⟨rows,d1,d2,d3,hat,hlen,hrow,q1,q2,q3⟩:=a_hm h (g_x hx).2.2
 obtain ⟨w0,w1,w2,w3⟩:=hs x (o_j hx)
 refine (hat σ).load hrow b_h (by omega) ⟨_,_,_,_,_,_,rfl,(s_o (q3 σ) ?_ (by rw[List.length_map];omega)).mono ?_⟩
 · exact fun e=>a_ih hz hat hrow (by rw[e];rfl)
 rintro r s ⟨d,rfl,ho⟩
 refine ⟨d,rfl,(q1 σ).lenK ⟨fun d n s'=>∃j:Nat,n=j∧j≤x.Path.length∧Own prog σ s' t_int d ((x.Overlap ++ (x.Path.take j).map St.Sec).map Go.Fw.encI),fun _ n _=>x.Path.length - n.toNat,⟨0,rfl,by omega,by simpa using ho⟩,?_⟩⟩
 rintro d n s' ⟨j,rfl,hj,ho⟩
 rw[List.length_map]
 refine bcd (fun hlt=>?_) (fun hge=>?_)
 · obtain ⟨y,hy⟩:=a_h (l:=x.Path) (j:=j) (by omega)
   refine (q1 s').load (a_m hy) c_s rfl ⟨y.Sec,y.In,y.Out,rfl,a_f fun id s2 hid _ he hs2=>?_⟩
   refine (ho.ext' he).append (At.fresh hs2 (by simp) rfl) (by simp;omega) (by simp;omega) fun d4 s5 ho5 _ _=>?_
   rw[a_g (by omega)]
   refine ⟨rfl,⟨j+1,rfl,by omega,?_⟩,o_l (by omega)⟩
   have e:x.Overlap ++ (x.Path.take (j+1)).map St.Sec=(x.Overlap ++ (x.Path.take j).map St.Sec) ++ [y.Sec]:=by rw[List.take_add_one,hy];simp
   rw[e,List.map_append];exact ho5
 have e:j=x.Path.length:=by omega
 rw[e,List.take_length] at ho
 refine (q2 s').lenK ⟨fun d n s'=>∃j:Nat,n=j∧j≤x.Flank.length∧Own prog σ s' t_int d ((x.Overlap ++ x.Path.map St.Sec ++ (x.Flank.take j).map Nd.Sec).map Go.Fw.encI),fun _ n _=>x.Flank.length - n.toNat,⟨0,rfl,by omega,by simpa using ho⟩,?_⟩
 rintro d n s' ⟨j,rfl,hj,ho⟩
 rw[List.length_map]
 refine bcd (fun hlt=>?_) (fun hge=>?_)
 · obtain ⟨y,hy⟩:=a_h (l:=x.Flank) (j:=j) (by omega)
   refine (q2 s').load (a_m hy) e_i rfl ⟨y.Sec,y.Pos,rfl,a_f fun id s2 hid _ he hs2=>?_⟩
   refine (ho.ext' he).append (At.fresh hs2 (by simp) rfl) (by simp;omega) (by simp;omega) fun d4 s5 ho5 _ _=>?_
   rw[a_g (by omega)]
   refine ⟨⟨j+1,rfl,by omega,?_⟩,o_l (by omega)⟩
   have e:x.Overlap ++ x.Path.map St.Sec ++ (x.Flank.take (j+1)).map Nd.Sec=(x.Overlap ++ x.Path.map St.Sec ++ (x.Flank.take j).map Nd.Sec) ++ [y.Sec]:=by rw[List.take_add_one,hy];simp
   rw[e,List.map_append];exact ho5
 have e:j=x.Flank.length:=by omega
 rw[e,List.take_length] at ho
 have hne:x.Overlap ++ x.Path.map St.Sec ++ x.Flank.map Nd.Sec≠[]:=by
   intro e
   have:=congrArg List.length e
   simp only[List.length_append,List.length_map,List.length_nil] at this;omega
 refine (u_t ho hne).mono ?_
 rintro r s2 ⟨rfl,ho⟩
 refine ⟨rfl,(n_n ho (fun e=>hne (by
   have:=congrArg List.length e
   simp only[e_3,List.length_mergeSort] at this
   exact List.length_eq_zero_iff.1 this)) (n_l _)).mono ?_⟩
 rintro r s3 ⟨d',rfl,ho⟩
 exact ⟨d',rfl,e_y ho (p_o _)⟩
end
theorem a_ke {c:Cf}(hok:c.check=0) :∀x ∈ c.Rts,RtSz x:=fun x hx=>by
 have hr:=a_k8 hok hx
 have w1:=hr.len
 have w2:=hr.flen
 have w3:=hr.olen
 exact ⟨by omega,by omega,by omega,by omega⟩
theorem p_l {c0 c1 c2 c3 c4:D}{c:Cf}(h:∀s,CfAt s c0 c1 c2 c3 c4 c)(hok:c.check=0)(hz:x_t c4)(i:Int) :DCalls prog b_9 [cfA c0 c1 c2 c3 c4 c,iA i] σ (c_n σ t_int ((c.lockL i).map Go.Fw.encI)):=
 a_i4 (fun s=>(h s).rts) (a_ke hok) hz i
end
end Go.Proofs.YtfdffboelecgoaaGreatDoor
section
set_option maxRecDepth 100000
namespace Go.Proofs.YtfdffboelecgoaaGreatDoor
open Go.Fw Go.Proofs
open Go.Proofs.Tryz (prog)
def q_m:Ann:= { }
def r_z (x:D)(σ:Store)(Qp:RV→Store→Prop) :Prop:=
 ∃len:Nat,(Len x len)∧DCalls prog h_x [.one (.int .u64 (IntKind.wrap .u64 (len:Int)))] σ (fun r Z=>∃n:Int,(r=(.a (iA n) :RV))∧DCalls prog b_l [.one x,iA 0,iA (len:Int),iA n] Z (fun r1 Z1=>(r1=(.tup []:RV))∧Qp (.tup []) Z1))
theorem s_x (x:D)(σ:Store)(Qp:RV→Store→Prop)(h:r_z x σ Qp) :DCalls prog e_e [.one x] σ Qp:=
 a_b mixed (by kernel_rfl) Tryz.func58 q_m (Eq.mp (by kernel_rfl) h)
def h_m:Ann:= { draws:= [(17,{ ord:= [0,1,2,3,4,5,6,7,8,9,10,11,12,13,14] })],loops:= [(2,{ mods:= [(1,s6),(2,s6),(3,s6),(8,SlotSh.one (Sh.bool)),(9,SlotSh.one (Sh.bool))],keep:= [0] })],joins:= [(10,{ mods:= [(3,s6)],keep:= [0,1,2,8,9,10] }),(15,{ mods:= [(11,s6),(12,s6)],keep:= [0,1,2,3,8,9,10] }),(17,{ keep:= [0,1,2,3,8,9,10,11] }),(20,{ mods:= [(1,s6)],keep:= [0,2,3,10,11] })] }
def h_0 (data:D)(a b limit:Int)(σ:Store)(Qp:RV→Store→Prop) :Prop:=
 ∃I:Int→Int→Int→Bool→Bool→Store→Prop,∃μ:Int→Int→Int→Bool→Bool→Store→Nat,(I a b limit true true σ)∧∀n n1 n2:Int,∀b1 b2:Bool,∀Z,(I n n1 n2 b1 b2 Z)→a_c (decide ((w64 (n1 - n))≤12)) (DCalls prog b_6 [.one data,iA n,iA n1] Z (fun r Z1=>(r=(.tup []:RV))∧Qp (.tup []) Z1)) (a_c (n2 == 0) (DCalls prog h_q [.one data,iA n,iA n1] Z (fun r Z1=>(r=(.tup []:RV))∧Qp (.tup []) Z1)) (∀R:Int→Store→Prop,(∀n3:Int,∀Z1,(DCalls prog g_o [.one data,iA n,iA n1] Z1 (fun r Z2=>∃n4 n5:Int,(r=(.tup [iA n4,iA n5]:RV))∧∀R1:Int→Int→Store→Prop,(∀n6 n7:Int,∀Z3,(∀R2:Store→Prop,(∀Z4,(∀R3:Int→Store→Prop,(∀n8:Int,∀Z5,(DCalls prog h_c [.one data,iA n8,iA n1,iA n6] Z5 (fun r1 Z6=>∃n9:Int,∃b3:Bool,(r1=(.tup [iA n9,bA b3]:RV))∧a_c (decide ((w64 (n9 - n8)) < (w64 (n1 - n9)))) (DCalls prog b_l [.one data,iA n8,iA n9,iA n3] Z6 (fun r2 Z7=>(r2=(.tup []:RV))∧(I (w64 (n9+1)) n1 n3 (decide ((w64 (n9 - n8))≥(w64 (Int.tdiv (w64 (n1 - n)) 8)))) b3 Z7)∧((μ (w64 (n9+1)) n1 n3 (decide ((w64 (n9 - n8))≥(w64 (Int.tdiv (w64 (n1 - n)) 8)))) b3 Z7) < (μ n n1 n2 b1 b2 Z)))) (DCalls prog b_l [.one data, .one (iD (w64 (n9+1))),iA n1,iA n3] Z6 (fun r2 Z7=>(r2=(.tup []:RV))∧(I n8 n9 n3 (decide ((w64 (n1 - n9))≥(w64 (Int.tdiv (w64 (n1 - n)) 8)))) b3 Z7)∧((μ n8 n9 n3 (decide ((w64 (n1 - n9))≥(w64 (Int.tdiv (w64 (n1 - n)) 8)))) b3 Z7) < (μ n n1 n2 b1 b2 Z))))))→R3 n8 Z5)→a_c (decide (n > 0)) (∃len:Nat,(Idx prog Z4 data 1 len)∧((0:Int)≤(w64 (n - 1)))∧((w64 (n - 1)) < (len:Int))∧∃row:List D,(Row Z4 data (Int.toNat (w64 (n - 1))) row)∧∃n8:Int,((List.take 1 row) =([iD n8]:List D))∧∃len1:Nat,(Idx prog Z4 data 1 len1)∧((0:Int)≤n6)∧(n6 < (len1:Int))∧∃row1:List D,(Row Z4 data (Int.toNat n6) row1)∧∃n9:Int,((List.take 1 row1) =([iD n9]:List D))∧DCalls prog n_s [iA n8,iA n9] Z4 (fun r1 Z5=>∃b3:Bool,(r1=(.a (bA b3) :RV))∧a_c (!b3) (DCalls prog f_r [.one data,iA n,iA n1,iA n6] Z5 (fun r2 Z6=>∃n10:Int,(r2=(.a (iA n10) :RV))∧(I n10 n1 n3 b1 b2 Z6)∧((μ n10 n1 n3 b1 b2 Z6) < (μ n n1 n2 b1 b2 Z)))) (R3 n Z5))) (R3 n Z4))→R2 Z4)→a_c b1 (a_c b2 (a_c (n7 == 1) (DCalls prog e_a [.one data,iA n,iA n1] Z3 (fun r1 Z4=>∃b3:Bool,(r1=(.a (bA b3) :RV))∧a_c b3 (Qp (.tup []) Z4) (R2 Z4))) (R2 Z3)) (R2 Z3)) (R2 Z3))→R1 n6 n7 Z3)→a_c (n5 == 2) (DCalls prog g_a [.one data,iA n,iA n1] Z2 (fun r1 Z3=>(r1=(.tup []:RV))∧R1 (w64 ((w64 (n1 - 1)) - (w64 (n4 - n)))) 1 Z3)) (R1 n4 n5 Z2)))→R n3 Z1)→a_c (!b1) (DCalls prog f_0 [.one data,iA n,iA n1] Z (fun r Z1=>(r=(.tup []:RV))∧R (w64 (n2 - 1)) Z1)) (R n2 Z)))
theorem i_c (data:D)(a b limit:Int)(σ:Store)(Qp:RV→Store→Prop)(h:h_0 data a b limit σ Qp) :DCalls prog b_l [.one data,iA a,iA b,iA limit] σ Qp:=
 a_b mixed (by kernel_rfl) Tryz.func95 h_m (Eq.mp (by kernel_rfl) h)
def f_s:Ann:= { draws:= [(4,{ ord:= [0,1,2,3,4,5,6,7,8,9,10,11,12,13,14] }),(6,{ ord:= [0,1,2,3,4,5,6,7,8,9,10,11,12,13,14,15,16,17] })],loops:= [(1,{ mods:= [(6,s6)],keep:= [0,1,2] }),(4,{ mods:= [(7,s6)],keep:= [0,1,2,6] })] }
def f_x (data:D)(a b:Int)(σ:Store)(Qp:RV→Store→Prop) :Prop:=
 ∃I:Int→Store→Prop,∃μ:Int→Store→Nat,(I (w64 (a+1)) σ)∧∀n:Int,∀Z,(I n Z)→a_c (decide (n < b)) (∃I1:Int→Store→Prop,∃μ1:Int→Store→Nat,(I1 n Z)∧∀n1:Int,∀Z1,(I1 n1 Z1)→a_c (decide (n1 > a)) (∃len:Nat,(Idx prog Z1 data 1 len)∧((0:Int)≤n1)∧(n1 < (len:Int))∧∃row:List D,(Row Z1 data (Int.toNat n1) row)∧∃n2:Int,((List.take 1 row) =([iD n2]:List D))∧∃len1:Nat,(Idx prog Z1 data 1 len1)∧((0:Int)≤(w64 (n1 - 1)))∧((w64 (n1 - 1)) < (len1:Int))∧∃row1:List D,(Row Z1 data (Int.toNat (w64 (n1 - 1))) row1)∧∃n3:Int,((List.take 1 row1) =([iD n3]:List D))∧DCalls prog n_s [iA n2,iA n3] Z1 (fun r Z2=>∃b1:Bool,(r=(.a (bA b1) :RV))∧a_c b1 (∃len2:Nat,(Idx prog Z2 data 1 len2)∧((0:Int)≤(w64 (n1 - 1)))∧((w64 (n1 - 1)) < (len2:Int))∧∃row2:List D,(Row Z2 data (Int.toNat (w64 (n1 - 1))) row2)∧∃n4:Int,((List.take 1 row2) =([iD n4]:List D))∧∃len3:Nat,(Idx prog Z2 data 1 len3)∧((0:Int)≤n1)∧(n1 < (len3:Int))∧∃row3:List D,(Row Z2 data (Int.toNat n1) row3)∧∃n5:Int,((List.take 1 row3) =([iD n5]:List D))∧∃len4:Nat,(Idx prog Z2 data 1 len4)∧((0:Int)≤n1)∧(n1 < (len4:Int))∧a_d [iD n4] Z2 data (Int.toNat n1) 0 (fun Z3=>∃len5:Nat,(Idx prog Z3 data 1 len5)∧((0:Int)≤(w64 (n1 - 1)))∧((w64 (n1 - 1)) < (len5:Int))∧a_d [iD n5] Z3 data (Int.toNat (w64 (n1 - 1))) 0 (fun Z4=>(I1 (w64 (n1 - 1)) Z4)∧((μ1 (w64 (n1 - 1)) Z4) < (μ1 n1 Z1))))) ((I (w64 (n+1)) Z2)∧((μ (w64 (n+1)) Z2) < (μ n Z))))) ((I (w64 (n+1)) Z1)∧((μ (w64 (n+1)) Z1) < (μ n Z)))) (Qp (.tup []) Z)
theorem f_z (data:D)(a b:Int)(σ:Store)(Qp:RV→Store→Prop)(h:f_x data a b σ Qp) :DCalls prog b_6 [.one data,iA a,iA b] σ Qp:=
 a_b mixed (by kernel_rfl) Tryz.func120 f_s (Eq.mp (by kernel_rfl) h)
def t_r:Ann:= { }
def v_s (x:Int)(σ:Store)(Qp:RV→Store→Prop) :Prop:=
 DCalls prog j_s [.one (.int .u64 x)] σ (fun r Z=>∃n:Int,(r=(.a (iA n) :RV))∧Qp (.a (iA n)) Z)
theorem v_h (x:Int)(σ:Store)(Qp:RV→Store→Prop)(h:v_s x σ Qp) :DCalls prog h_x [.one (.int .u64 x)] σ Qp:=
 a_b mixed (by kernel_rfl) Tryz.func96 t_r (Eq.mp (by kernel_rfl) h)
def p_4:Ann:= { }
def r_i (x:Int)(σ:Store)(Qp:RV→Store→Prop) :Prop:=
 a_c (decide (x≥4294967296)) (a_c (decide ((Int.fdiv x (2 ^ 32))≥65536)) (a_c (decide ((Int.fdiv (Int.fdiv x (2 ^ 32)) (2 ^ 16))≥256)) (∃n:Int,(n_h (ByteArray.mk (List.toArray (List.append (List.append [0,1,2,2,3,3,3,3,4,4,4,4,4,4,4,4,5,5,5,5,5,5,5,5,5,5,5,5,5,5,5,5,6,6,6,6,6,6,6,6,6,6,6,6,6,6,6,6,6,6,6,6,6,6,6,6,6,6,6,6,6,6,6,6] [7,7,7,7,7,7,7,7,7,7,7,7,7,7,7,7,7,7,7,7,7,7,7,7,7,7,7,7,7,7,7,7,7,7,7,7,7,7,7,7,7,7,7,7,7,7,7,7,7,7,7,7,7,7,7,7,7,7,7,7,7,7,7,7]) (List.append [8,8,8,8,8,8,8,8,8,8,8,8,8,8,8,8,8,8,8,8,8,8,8,8,8,8,8,8,8,8,8,8,8,8,8,8,8,8,8,8,8,8,8,8,8,8,8,8,8,8,8,8,8,8,8,8,8,8,8,8,8,8,8,8] [8,8,8,8,8,8,8,8,8,8,8,8,8,8,8,8,8,8,8,8,8,8,8,8,8,8,8,8,8,8,8,8,8,8,8,8,8,8,8,8,8,8,8,8,8,8,8,8,8,8,8,8,8,8,8,8,8,8,8,8,8,8,8,8])))) (IntKind.wrap .u8 (Int.fdiv (Int.fdiv (Int.fdiv x (2 ^ 32)) (2 ^ 16)) (2 ^ 8))) n)∧Qp (.a (.one (iD (w64 (56+ (w64 n)))))) σ) (∃n:Int,(n_h (ByteArray.mk (List.toArray (List.append (List.append [0,1,2,2,3,3,3,3,4,4,4,4,4,4,4,4,5,5,5,5,5,5,5,5,5,5,5,5,5,5,5,5,6,6,6,6,6,6,6,6,6,6,6,6,6,6,6,6,6,6,6,6,6,6,6,6,6,6,6,6,6,6,6,6] [7,7,7,7,7,7,7,7,7,7,7,7,7,7,7,7,7,7,7,7,7,7,7,7,7,7,7,7,7,7,7,7,7,7,7,7,7,7,7,7,7,7,7,7,7,7,7,7,7,7,7,7,7,7,7,7,7,7,7,7,7,7,7,7]) (List.append [8,8,8,8,8,8,8,8,8,8,8,8,8,8,8,8,8,8,8,8,8,8,8,8,8,8,8,8,8,8,8,8,8,8,8,8,8,8,8,8,8,8,8,8,8,8,8,8,8,8,8,8,8,8,8,8,8,8,8,8,8,8,8,8] [8,8,8,8,8,8,8,8,8,8,8,8,8,8,8,8,8,8,8,8,8,8,8,8,8,8,8,8,8,8,8,8,8,8,8,8,8,8,8,8,8,8,8,8,8,8,8,8,8,8,8,8,8,8,8,8,8,8,8,8,8,8,8,8])))) (IntKind.wrap .u8 (Int.fdiv (Int.fdiv x (2 ^ 32)) (2 ^ 16))) n)∧Qp (.a (.one (iD (w64 (48+ (w64 n)))))) σ)) (a_c (decide ((Int.fdiv x (2 ^ 32))≥256)) (∃n:Int,(n_h (ByteArray.mk (List.toArray (List.append (List.append [0,1,2,2,3,3,3,3,4,4,4,4,4,4,4,4,5,5,5,5,5,5,5,5,5,5,5,5,5,5,5,5,6,6,6,6,6,6,6,6,6,6,6,6,6,6,6,6,6,6,6,6,6,6,6,6,6,6,6,6,6,6,6,6] [7,7,7,7,7,7,7,7,7,7,7,7,7,7,7,7,7,7,7,7,7,7,7,7,7,7,7,7,7,7,7,7,7,7,7,7,7,7,7,7,7,7,7,7,7,7,7,7,7,7,7,7,7,7,7,7,7,7,7,7,7,7,7,7]) (List.append [8,8,8,8,8,8,8,8,8,8,8,8,8,8,8,8,8,8,8,8,8,8,8,8,8,8,8,8,8,8,8,8,8,8,8,8,8,8,8,8,8,8,8,8,8,8,8,8,8,8,8,8,8,8,8,8,8,8,8,8,8,8,8,8] [8,8,8,8,8,8,8,8,8,8,8,8,8,8,8,8,8,8,8,8,8,8,8,8,8,8,8,8,8,8,8,8,8,8,8,8,8,8,8,8,8,8,8,8,8,8,8,8,8,8,8,8,8,8,8,8,8,8,8,8,8,8,8,8])))) (IntKind.wrap .u8 (Int.fdiv (Int.fdiv x (2 ^ 32)) (2 ^ 8))) n)∧Qp (.a (.one (iD (w64 (40+ (w64 n)))))) σ) (∃n:Int,(n_h (ByteArray.mk (List.toArray (List.append (List.append [0,1,2,2,3,3,3,3,4,4,4,4,4,4,4,4,5,5,5,5,5,5,5,5,5,5,5,5,5,5,5,5,6,6,6,6,6,6,6,6,6,6,6,6,6,6,6,6,6,6,6,6,6,6,6,6,6,6,6,6,6,6,6,6] [7,7,7,7,7,7,7,7,7,7,7,7,7,7,7,7,7,7,7,7,7,7,7,7,7,7,7,7,7,7,7,7,7,7,7,7,7,7,7,7,7,7,7,7,7,7,7,7,7,7,7,7,7,7,7,7,7,7,7,7,7,7,7,7]) (List.append [8,8,8,8,8,8,8,8,8,8,8,8,8,8,8,8,8,8,8,8,8,8,8,8,8,8,8,8,8,8,8,8,8,8,8,8,8,8,8,8,8,8,8,8,8,8,8,8,8,8,8,8,8,8,8,8,8,8,8,8,8,8,8,8] [8,8,8,8,8,8,8,8,8,8,8,8,8,8,8,8,8,8,8,8,8,8,8,8,8,8,8,8,8,8,8,8,8,8,8,8,8,8,8,8,8,8,8,8,8,8,8,8,8,8,8,8,8,8,8,8,8,8,8,8,8,8,8,8])))) (IntKind.wrap .u8 (Int.fdiv x (2 ^ 32))) n)∧Qp (.a (.one (iD (w64 (32+ (w64 n)))))) σ))) (a_c (decide (x≥65536)) (a_c (decide ((Int.fdiv x (2 ^ 16))≥256)) (∃n:Int,(n_h (ByteArray.mk (List.toArray (List.append (List.append [0,1,2,2,3,3,3,3,4,4,4,4,4,4,4,4,5,5,5,5,5,5,5,5,5,5,5,5,5,5,5,5,6,6,6,6,6,6,6,6,6,6,6,6,6,6,6,6,6,6,6,6,6,6,6,6,6,6,6,6,6,6,6,6] [7,7,7,7,7,7,7,7,7,7,7,7,7,7,7,7,7,7,7,7,7,7,7,7,7,7,7,7,7,7,7,7,7,7,7,7,7,7,7,7,7,7,7,7,7,7,7,7,7,7,7,7,7,7,7,7,7,7,7,7,7,7,7,7]) (List.append [8,8,8,8,8,8,8,8,8,8,8,8,8,8,8,8,8,8,8,8,8,8,8,8,8,8,8,8,8,8,8,8,8,8,8,8,8,8,8,8,8,8,8,8,8,8,8,8,8,8,8,8,8,8,8,8,8,8,8,8,8,8,8,8] [8,8,8,8,8,8,8,8,8,8,8,8,8,8,8,8,8,8,8,8,8,8,8,8,8,8,8,8,8,8,8,8,8,8,8,8,8,8,8,8,8,8,8,8,8,8,8,8,8,8,8,8,8,8,8,8,8,8,8,8,8,8,8,8])))) (IntKind.wrap .u8 (Int.fdiv (Int.fdiv x (2 ^ 16)) (2 ^ 8))) n)∧Qp (.a (.one (iD (w64 (24+ (w64 n)))))) σ) (∃n:Int,(n_h (ByteArray.mk (List.toArray (List.append (List.append [0,1,2,2,3,3,3,3,4,4,4,4,4,4,4,4,5,5,5,5,5,5,5,5,5,5,5,5,5,5,5,5,6,6,6,6,6,6,6,6,6,6,6,6,6,6,6,6,6,6,6,6,6,6,6,6,6,6,6,6,6,6,6,6] [7,7,7,7,7,7,7,7,7,7,7,7,7,7,7,7,7,7,7,7,7,7,7,7,7,7,7,7,7,7,7,7,7,7,7,7,7,7,7,7,7,7,7,7,7,7,7,7,7,7,7,7,7,7,7,7,7,7,7,7,7,7,7,7]) (List.append [8,8,8,8,8,8,8,8,8,8,8,8,8,8,8,8,8,8,8,8,8,8,8,8,8,8,8,8,8,8,8,8,8,8,8,8,8,8,8,8,8,8,8,8,8,8,8,8,8,8,8,8,8,8,8,8,8,8,8,8,8,8,8,8] [8,8,8,8,8,8,8,8,8,8,8,8,8,8,8,8,8,8,8,8,8,8,8,8,8,8,8,8,8,8,8,8,8,8,8,8,8,8,8,8,8,8,8,8,8,8,8,8,8,8,8,8,8,8,8,8,8,8,8,8,8,8,8,8])))) (IntKind.wrap .u8 (Int.fdiv x (2 ^ 16))) n)∧Qp (.a (.one (iD (w64 (16+ (w64 n)))))) σ)) (a_c (decide (x≥256)) (∃n:Int,(n_h (ByteArray.mk (List.toArray (List.append (List.append [0,1,2,2,3,3,3,3,4,4,4,4,4,4,4,4,5,5,5,5,5,5,5,5,5,5,5,5,5,5,5,5,6,6,6,6,6,6,6,6,6,6,6,6,6,6,6,6,6,6,6,6,6,6,6,6,6,6,6,6,6,6,6,6] [7,7,7,7,7,7,7,7,7,7,7,7,7,7,7,7,7,7,7,7,7,7,7,7,7,7,7,7,7,7,7,7,7,7,7,7,7,7,7,7,7,7,7,7,7,7,7,7,7,7,7,7,7,7,7,7,7,7,7,7,7,7,7,7]) (List.append [8,8,8,8,8,8,8,8,8,8,8,8,8,8,8,8,8,8,8,8,8,8,8,8,8,8,8,8,8,8,8,8,8,8,8,8,8,8,8,8,8,8,8,8,8,8,8,8,8,8,8,8,8,8,8,8,8,8,8,8,8,8,8,8] [8,8,8,8,8,8,8,8,8,8,8,8,8,8,8,8,8,8,8,8,8,8,8,8,8,8,8,8,8,8,8,8,8,8,8,8,8,8,8,8,8,8,8,8,8,8,8,8,8,8,8,8,8,8,8,8,8,8,8,8,8,8,8,8])))) (IntKind.wrap .u8 (Int.fdiv x (2 ^ 8))) n)∧Qp (.a (.one (iD (w64 (8+ (w64 n)))))) σ) (∃n:Int,(n_h (ByteArray.mk (List.toArray (List.append (List.append [0,1,2,2,3,3,3,3,4,4,4,4,4,4,4,4,5,5,5,5,5,5,5,5,5,5,5,5,5,5,5,5,6,6,6,6,6,6,6,6,6,6,6,6,6,6,6,6,6,6,6,6,6,6,6,6,6,6,6,6,6,6,6,6] [7,7,7,7,7,7,7,7,7,7,7,7,7,7,7,7,7,7,7,7,7,7,7,7,7,7,7,7,7,7,7,7,7,7,7,7,7,7,7,7,7,7,7,7,7,7,7,7,7,7,7,7,7,7,7,7,7,7,7,7,7,7,7,7]) (List.append [8,8,8,8,8,8,8,8,8,8,8,8,8,8,8,8,8,8,8,8,8,8,8,8,8,8,8,8,8,8,8,8,8,8,8,8,8,8,8,8,8,8,8,8,8,8,8,8,8,8,8,8,8,8,8,8,8,8,8,8,8,8,8,8] [8,8,8,8,8,8,8,8,8,8,8,8,8,8,8,8,8,8,8,8,8,8,8,8,8,8,8,8,8,8,8,8,8,8,8,8,8,8,8,8,8,8,8,8,8,8,8,8,8,8,8,8,8,8,8,8,8,8,8,8,8,8,8,8])))) (IntKind.wrap .u8 x) n)∧Qp (.a (.one (iD (w64 (0+ (w64 n)))))) σ)))
theorem s_d (x:Int)(σ:Store)(Qp:RV→Store→Prop)(h:r_i x σ Qp) :DCalls prog j_s [.one (.int .u64 x)] σ Qp:=
 a_b mixed (by kernel_rfl) Tryz.func130 p_4 (Eq.mp (by kernel_rfl) h)
end Go.Proofs.YtfdffboelecgoaaGreatDoor
end
section
set_option maxRecDepth 20000
namespace Go.Proofs.YtfdffboelecgoaaGreatDoor
open Go.Fw Go.Proofs Go.RowKit
open Go.Proofs.Tryz (prog)
variable {σ σ0:Store}
theorem insertion_nil {d:D} :DCalls prog b_6 [.one d,iA 0,iA 0] σ fun r s=>r= .tup []∧s=σ:=by
 have e:w64 (0+1) =1:=by decide
 refine f_z d 0 0 σ _ ⟨fun n s=>n=1∧s=σ,fun _ _=>0,⟨e,rfl⟩,?_⟩
 rintro n s ⟨rfl,rfl⟩
 exact bcd (fun h=>absurd h (by decide)) (fun _=>⟨rfl,rfl⟩)
theorem a_ne {d:D}{k:Int} :DCalls prog b_l [.one d,iA 0,iA 0,iA k] σ fun r s=>r= .tup []∧s=σ:=by
 refine i_c d 0 0 k σ _ ⟨fun n n1 n2 b1 b2 s=>n=0∧n1=0∧s=σ,fun _ _ _ _ _ _=>0,⟨rfl,rfl,rfl⟩,?_⟩
 rintro n n1 n2 b1 b2 s ⟨rfl,rfl,rfl⟩
 refine bcd (fun _=>insertion_nil.mono ?_) (fun h=>absurd (show w64 (0 - 0)≤12 by decide) h)
 rintro _ s ⟨rfl,rfl⟩
 exact ⟨rfl,rfl,rfl⟩
theorem bits_nil:DCalls prog h_x [.one (.int .u64 0)] σ fun r s=>r= .a (iA 0)∧s=σ:=by
 refine v_h 0 σ _ ((s_d 0 σ (fun r s=>r= .a (iA 0)∧s=σ) ?_).mono ?_)
 · refine bcd (fun h=>absurd h (by decide)) (fun _=>bcd (fun h=>absurd h (by decide)) (fun _=>bcd (fun h=>absurd h (by decide)) (fun _=>⟨0,⟨by decide,0,by decide,rfl⟩,?_⟩)))
   exact ⟨by rw[show w64 (0+w64 0) =0 from by decide],rfl⟩
 · rintro _ s ⟨rfl,rfl⟩
   exact ⟨0,rfl,rfl,rfl⟩
theorem a_fh {d:D}(h:At prog σ t_int d (([]:List Int).map Go.Fw.encI)) :DCalls prog e_e [.one d] σ fun r s=>r= .tup []∧s=σ:=by
 refine s_x d σ _ (h.lenK ?_)
 have e:IntKind.wrap .u64 (((([]:List Int).map Go.Fw.encI).length:Nat) :Int) =0:=by decide
 rw[e]
 refine bits_nil.mono ?_
 rintro _ s ⟨rfl,rfl⟩
 refine ⟨0,rfl,(a_ne (d:=d)).mono ?_⟩
 rintro _ s ⟨rfl,rfl⟩
 exact ⟨rfl,rfl,rfl⟩
theorem x_3 {d:D}(h:At prog σ t_int d (([]:List Int).map Go.Fw.encI)) :DCalls prog d_h [.one d] σ fun r s=>r= .a (.one d)∧s=σ:=
 n_4 d σ _ (h.lenK (bcd (fun _=>⟨rfl,rfl⟩) (fun h=>absurd (show ((0:Nat) :Int) < 2 by decide) h)))
def RtUp (x:Rt) :Prop:=x.Path.length+x.Flank.length+x.Overlap.length≤2 ^ 20
section
variable {c0 c1 c2 c3 c4:D} {c:Cf} (h:∀s,z_q prog a_w a_i a_r t_int s c4 c.Rts) (hs:∀x ∈ c.Rts,RtUp x)
include h hs
omit h in
theorem a_jw (i:Int) :(c.lockL i).length≤2 ^ 20:=by
 unfold Cf.lockL
 split
 · rename_i x hx
   have h1:=hs x (o_j hx)
   have h2:=a_bd (e_3 (x.Overlap ++ x.Path.map St.Sec ++ x.Flank.map Nd.Sec))
   unfold RtUp at h1
   unfold Cf.lockR
   simp only[e_3,List.length_mergeSort,List.length_append,List.length_map] at h2 ⊢
   omega
 · simp
omit h in
theorem a_p0 {i:Int}{x:Rt}(hx:b_c c.Rts i=some x) :x.Path.length≤2 ^ 20∧x.Flank.length≤2 ^ 20∧x.Overlap.length≤2 ^ 20:=by
 have h1:=hs x (o_j hx)
 unfold RtUp at h1
 exact ⟨by omega,by omega,by omega⟩
theorem z_s (hz:x_t c4)(i:Int) :DCalls prog b_9 [cfA c0 c1 c2 c3 c4 c,iA i] σ fun r s=>∃d,r= .a (.one d)∧Own prog σ s t_int d ((c.lockL i).map Go.Fw.encI):=by
 refine s_w _ _ _ _ _ _ _ _ _ i σ _ ?_
 intro R hR
 have nil:b_c c.Rts i=none→∃d,RV.a (.one .nils) = .a (.one d)∧Own prog σ σ t_int d ((c.lockL i).map Go.Fw.encI):=fun e=>by
   have:c.lockL i=[]:=by unfold Cf.lockL;rw[e]
   rw[this];exact ⟨_,rfl, .nil _ (.refl _)⟩
 obtain ⟨rows,hat,hlen,_⟩:=h σ
 refine bcd (fun e=>nil (d_7 e)) (fun e0=>hat.lenK (bcd (fun e=>nil (f_h (by omega))) (fun e1=>hR σ ?_)))
 obtain ⟨x,hx⟩:=o_o (l:=c.Rts) (i:=i) e0 (by omega)
 clear hR nil hat
 have hll:c.lockL i=Cf.lockR x:=by unfold Cf.lockL;rw[hx]
 rw[hll]
 obtain ⟨rows,d1,d2,d3,hat,hlen,hrow,q1,q2,q3⟩:=a_hm h (g_x hx).2.2
 obtain ⟨w1,w2,w3⟩:=a_p0 hs hx
 refine (hat σ).load hrow b_h (by omega) ⟨_,_,_,_,_,_,rfl,(s_o (q3 σ) ?_ (by rw[List.length_map];omega)).mono ?_⟩
 · exact fun e=>a_ih hz hat hrow (by rw[e];rfl)
 rintro r s ⟨d,rfl,ho⟩
 refine ⟨d,rfl,(q1 σ).lenK ⟨fun d n s'=>∃j:Nat,n=j∧j≤x.Path.length∧Own prog σ s' t_int d ((x.Overlap ++ (x.Path.take j).map St.Sec).map Go.Fw.encI),fun _ n _=>x.Path.length - n.toNat,⟨0,rfl,by omega,by simpa using ho⟩,?_⟩⟩
 rintro d n s' ⟨j,rfl,hj,ho⟩
 rw[List.length_map]
 refine bcd (fun hlt=>?_) (fun hge=>?_)
 · obtain ⟨y,hy⟩:=a_h (l:=x.Path) (j:=j) (by omega)
   refine (q1 s').load (a_m hy) c_s rfl ⟨y.Sec,y.In,y.Out,rfl,a_f fun id s2 hid _ he hs2=>?_⟩
   refine (ho.ext' he).append (At.fresh hs2 (by simp) rfl) (by simp;omega) (by simp;omega) fun d4 s5 ho5 _ _=>?_
   rw[a_g (by omega)]
   refine ⟨rfl,⟨j+1,rfl,by omega,?_⟩,o_l (by omega)⟩
   have e:x.Overlap ++ (x.Path.take (j+1)).map St.Sec=(x.Overlap ++ (x.Path.take j).map St.Sec) ++ [y.Sec]:=by rw[List.take_add_one,hy];simp
   rw[e,List.map_append];exact ho5
 have e:j=x.Path.length:=by omega
 rw[e,List.take_length] at ho
 refine (q2 s').lenK ⟨fun d n s'=>∃j:Nat,n=j∧j≤x.Flank.length∧Own prog σ s' t_int d ((x.Overlap ++ x.Path.map St.Sec ++ (x.Flank.take j).map Nd.Sec).map Go.Fw.encI),fun _ n _=>x.Flank.length - n.toNat,⟨0,rfl,by omega,by simpa using ho⟩,?_⟩
 rintro d n s' ⟨j,rfl,hj,ho⟩
 rw[List.length_map]
 refine bcd (fun hlt=>?_) (fun hge=>?_)
 · obtain ⟨y,hy⟩:=a_h (l:=x.Flank) (j:=j) (by omega)
   refine (q2 s').load (a_m hy) e_i rfl ⟨y.Sec,y.Pos,rfl,a_f fun id s2 hid _ he hs2=>?_⟩
   refine (ho.ext' he).append (At.fresh hs2 (by simp) rfl) (by simp;omega) (by simp;omega) fun d4 s5 ho5 _ _=>?_
   rw[a_g (by omega)]
   refine ⟨⟨j+1,rfl,by omega,?_⟩,o_l (by omega)⟩
   have e:x.Overlap ++ x.Path.map St.Sec ++ (x.Flank.take (j+1)).map Nd.Sec=(x.Overlap ++ x.Path.map St.Sec ++ (x.Flank.take j).map Nd.Sec) ++ [y.Sec]:=by rw[List.take_add_one,hy];simp
   rw[e,List.map_append];exact ho5
 have e:j=x.Flank.length:=by omega
 rw[e,List.take_length] at ho
 unfold Cf.lockR
 by_cases hne:x.Overlap ++ x.Path.map St.Sec ++ x.Flank.map Nd.Sec=[]
 · rw[hne] at ho ⊢
   refine (a_fh ho.at_).mono ?_
   rintro _ s2 ⟨rfl,rfl⟩
   refine ⟨rfl,(x_3 ho.at_).mono ?_⟩
   rintro _ s3 ⟨rfl,rfl⟩
   refine ⟨d,rfl,d,rfl,?_⟩
   have:cpt (e_3 []) =[]:=by simp[e_3,cpt]
   rw[this];exact ho
 · refine (u_t ho hne).mono ?_
   rintro r s2 ⟨rfl,ho⟩
   refine ⟨rfl,(n_n ho (fun e=>hne (by
     have:=congrArg List.length e
     simp only[e_3,List.length_mergeSort] at this
     exact List.length_eq_zero_iff.1 this)) (n_l _)).mono ?_⟩
   rintro r s3 ⟨d',rfl,ho⟩
   exact ⟨d',rfl,d',rfl,ho⟩
theorem a_an (hz:x_t c4)(i:Int) :DCalls prog b_9 [cfA c0 c1 c2 c3 c4 c,iA i] σ (c_n σ t_int ((c.lockL i).map Go.Fw.encI)):=
 (z_s h hs hz i).ret (by rintro r s ⟨d,rfl,ho⟩;exact e_y ho (p_o _))
end
end Go.Proofs.YtfdffboelecgoaaGreatDoor
end
namespace Go.Proofs.YtfdffboelecgoaaGreatDoor
open Go.Shelf Go.Proofs
open Go.Proofs.Tryz (prog)
section
def y_t:Go.Shelf.Ren:=⟨fun | 143=>111 | 219=>138 | 217=>157 | 225=>158 | 224=>159 | 267=>160 | 266=>169 | 314=>170 | n=>n,fun | 9=>9 | 3=>3 | 4=>4 | 5=>5 | 46=>40 | 146=>220 | 51=>175 | n=>n,fun | 1=>2 | n=>n⟩
theorem z_2:Go.Proofs.Lays.n143 prog y_t:= {
 mixed:=by kernel_rfl
 f143:=Tryz.func111.trans (congrArg some (by kernel_rfl))
 f217:=Tryz.func157.trans (congrArg some (by kernel_rfl))
 f219:=Tryz.func138.trans (congrArg some (by kernel_rfl))
 f224:=Tryz.func159.trans (congrArg some (by kernel_rfl))
 f225:=Tryz.func158.trans (congrArg some (by kernel_rfl))
 f266:=Tryz.func169.trans (congrArg some (by kernel_rfl))
 f267:=Tryz.func160.trans (congrArg some (by kernel_rfl))
 f314:=Tryz.func170.trans (congrArg some (by kernel_rfl))
 t3:=Tryz.underlying3
 a3:=Tryz.isAgg3
 z3:=Tryz.sizeOf3
 v3:=Tryz.zeroValue3
 t4:=Tryz.underlying4
 a4:=Tryz.isAgg4
 z4:=Tryz.sizeOf4
 v4:=Tryz.zeroValue4
 t5:=Tryz.underlying5
 a5:=Tryz.isAgg5
 z5:=Tryz.sizeOf5
 v5:=Tryz.zeroValue5
 t9:=Tryz.underlying9
 a9:=Tryz.isAgg9
 z9:=Tryz.sizeOf9
 v9:=Tryz.zeroValue9
 t46:=Tryz.underlying40
 a46:=Tryz.isAgg40
 z46:=Tryz.sizeOf40
 v46:=Tryz.zeroValue40
 t51:=Tryz.underlying175
 a51:=Tryz.isAgg175
 z51:=Tryz.sizeOf175
 v51:=Tryz.zeroValue175
 t146:=Tryz.underlying220
 a146:=Tryz.isAgg220
 z146:=Tryz.sizeOf220
 v146:=Tryz.zeroValue220
 g1:=by kernel_rfl }
end
section
def splitLays_ren:Go.Shelf.Ren:=⟨fun | 221=>88 | 268=>112 | 138=>113 | 143=>111 | 195=>139 | 197=>110 | 218=>140 | 219=>138 | 260=>137 | 217=>157 | 225=>158 | 224=>159 | 267=>160 | 266=>169 | 314=>170 | n=>n,fun | 9=>9 | 3=>3 | 31=>95 | 4=>4 | 0=>0 | 105=>160 | 21=>21 | 5=>5 | 46=>40 | 119=>204 | 139=>207 | 138=>206 | 146=>220 | 51=>175 | n=>n,fun | 1=>2 | 3=>0 | 4=>1 | n=>n⟩
theorem a_jk:Go.Proofs.Lays.n221 prog splitLays_ren:= {
 mixed:=by kernel_rfl
 f138:=Tryz.func113.trans (congrArg some (by kernel_rfl))
 f143:=Tryz.func111.trans (congrArg some (by kernel_rfl))
 f195:=Tryz.func139.trans (congrArg some (by kernel_rfl))
 f197:=Tryz.func110.trans (congrArg some (by kernel_rfl))
 f217:=Tryz.func157.trans (congrArg some (by kernel_rfl))
 f218:=Tryz.func140.trans (congrArg some (by kernel_rfl))
 f219:=Tryz.func138.trans (congrArg some (by kernel_rfl))
 f221:=Tryz.func88.trans (congrArg some (by kernel_rfl))
 f224:=Tryz.func159.trans (congrArg some (by kernel_rfl))
 f225:=Tryz.func158.trans (congrArg some (by kernel_rfl))
 f260:=Tryz.func137.trans (congrArg some (by kernel_rfl))
 f266:=Tryz.func169.trans (congrArg some (by kernel_rfl))
 f267:=Tryz.func160.trans (congrArg some (by kernel_rfl))
 f268:=Tryz.func112.trans (congrArg some (by kernel_rfl))
 f314:=Tryz.func170.trans (congrArg some (by kernel_rfl))
 t0:=Tryz.underlying0
 a0:=Tryz.isAgg0
 z0:=Tryz.sizeOf0
 v0:=Tryz.zeroValue0
 t3:=Tryz.underlying3
 a3:=Tryz.isAgg3
 z3:=Tryz.sizeOf3
 v3:=Tryz.zeroValue3
 t4:=Tryz.underlying4
 a4:=Tryz.isAgg4
 z4:=Tryz.sizeOf4
 v4:=Tryz.zeroValue4
 t5:=Tryz.underlying5
 a5:=Tryz.isAgg5
 z5:=Tryz.sizeOf5
 v5:=Tryz.zeroValue5
 t9:=Tryz.underlying9
 a9:=Tryz.isAgg9
 z9:=Tryz.sizeOf9
 v9:=Tryz.zeroValue9
 t21:=Tryz.underlying21
 a21:=Tryz.isAgg21
 z21:=Tryz.sizeOf21
 v21:=Tryz.zeroValue21
 t31:=Tryz.underlying95
 a31:=Tryz.isAgg95
 z31:=Tryz.sizeOf95
 v31:=Tryz.zeroValue95
 t46:=Tryz.underlying40
 a46:=Tryz.isAgg40
 z46:=Tryz.sizeOf40
 v46:=Tryz.zeroValue40
 t51:=Tryz.underlying175
 a51:=Tryz.isAgg175
 z51:=Tryz.sizeOf175
 v51:=Tryz.zeroValue175
 t105:=Tryz.underlying160
 a105:=Tryz.isAgg160
 z105:=Tryz.sizeOf160
 v105:=Tryz.zeroValue160
 t119:=Tryz.underlying204
 a119:=Tryz.isAgg204
 z119:=Tryz.sizeOf204
 t138:=Tryz.underlying206
 a138:=Tryz.isAgg206
 z138:=Tryz.sizeOf206
 v138:=Tryz.zeroValue206
 t139:=Tryz.underlying207
 a139:=Tryz.isAgg207
 z139:=Tryz.sizeOf207
 v139:=Tryz.zeroValue207
 t146:=Tryz.underlying220
 a146:=Tryz.isAgg220
 z146:=Tryz.sizeOf220
 v146:=Tryz.zeroValue220
 g1:=by kernel_rfl
 g3:=by kernel_rfl
 g4:=by kernel_rfl }
end
section
def a_cb:Go.Shelf.Ren:=⟨fun | 172=>92 | 244=>118 | 245=>119 | 247=>141 | 279=>142 | 280=>143 | 281=>144 | 282=>145 | 287=>161 | 316=>162 | 171=>76 | 205=>163 | 321=>171 | 322=>172 | 243=>104 | 246=>134 | 283=>153 | 284=>154 | 285=>155 | 286=>156 | 129=>130 | 317=>165 | 318=>166 | 319=>167 | 320=>168 | 337=>173 | 338=>174 | n=>n,fun | 9=>9 | 3=>3 | 75=>136 | 76=>142 | 4=>4 | 5=>5 | 167=>187 | 37=>72 | 0=>0 | 85=>188 | 2=>2 | 168=>190 | 53=>177 | 175=>208 | 46=>40 | 210=>212 | 127=>138 | 145=>225 | 143=>223 | 21=>21 | 171=>200 | 173=>202 | 212=>218 | 51=>175 | 20=>20 | 213=>219 | 232=>226 | 233=>227 | 80=>88 | n=>n,fun | 15=>3 | 16=>4 | 17=>5 | 18=>6 | 19=>7 | n=>n⟩
theorem a_ld:Go.Proofs.LaysC.n172 prog a_cb:= {
 mixed:=by kernel_rfl
 f129:=Tryz.func130.trans (congrArg some (by kernel_rfl))
 f171:=Tryz.func76.trans (congrArg some (by kernel_rfl))
 f172:=Tryz.func92.trans (congrArg some (by kernel_rfl))
 f205:=Tryz.func163.trans (congrArg some (by kernel_rfl))
 f243:=Tryz.func104.trans (congrArg some (by kernel_rfl))
 f244:=Tryz.func118.trans (congrArg some (by kernel_rfl))
 f245:=Tryz.func119.trans (congrArg some (by kernel_rfl))
 f246:=Tryz.func134.trans (congrArg some (by kernel_rfl))
 f247:=Tryz.func141.trans (congrArg some (by kernel_rfl))
 f279:=Tryz.func142.trans (congrArg some (by kernel_rfl))
 f280:=Tryz.func143.trans (congrArg some (by kernel_rfl))
 f281:=Tryz.func144.trans (congrArg some (by kernel_rfl))
 f282:=Tryz.func145.trans (congrArg some (by kernel_rfl))
 f283:=Tryz.func153.trans (congrArg some (by kernel_rfl))
 f284:=Tryz.func154.trans (congrArg some (by kernel_rfl))
 f285:=Tryz.func155.trans (congrArg some (by kernel_rfl))
 f286:=Tryz.func156.trans (congrArg some (by kernel_rfl))
 f287:=Tryz.func161.trans (congrArg some (by kernel_rfl))
 f316:=Tryz.func162.trans (congrArg some (by kernel_rfl))
 f317:=Tryz.func165.trans (congrArg some (by kernel_rfl))
 f318:=Tryz.func166.trans (congrArg some (by kernel_rfl))
 f319:=Tryz.func167.trans (congrArg some (by kernel_rfl))
 f320:=Tryz.func168.trans (congrArg some (by kernel_rfl))
 f321:=Tryz.func171.trans (congrArg some (by kernel_rfl))
 f322:=Tryz.func172.trans (congrArg some (by kernel_rfl))
 f337:=Tryz.func173.trans (congrArg some (by kernel_rfl))
 f338:=Tryz.func174.trans (congrArg some (by kernel_rfl))
 t0:=Tryz.underlying0
 a0:=Tryz.isAgg0
 z0:=Tryz.sizeOf0
 v0:=Tryz.zeroValue0
 t2:=Tryz.underlying2
 a2:=Tryz.isAgg2
 z2:=Tryz.sizeOf2
 v2:=Tryz.zeroValue2
 t3:=Tryz.underlying3
 a3:=Tryz.isAgg3
 z3:=Tryz.sizeOf3
 v3:=Tryz.zeroValue3
 t4:=Tryz.underlying4
 a4:=Tryz.isAgg4
 z4:=Tryz.sizeOf4
 v4:=Tryz.zeroValue4
 t5:=Tryz.underlying5
 a5:=Tryz.isAgg5
 z5:=Tryz.sizeOf5
 v5:=Tryz.zeroValue5
 t9:=Tryz.underlying9
 a9:=Tryz.isAgg9
 z9:=Tryz.sizeOf9
 v9:=Tryz.zeroValue9
 t20:=Tryz.underlying20
 a20:=Tryz.isAgg20
 z20:=Tryz.sizeOf20
 v20:=Tryz.zeroValue20
 t21:=Tryz.underlying21
 a21:=Tryz.isAgg21
 z21:=Tryz.sizeOf21
 v21:=Tryz.zeroValue21
 t37:=Tryz.underlying72
 a37:=Tryz.isAgg72
 z37:=Tryz.sizeOf72
 v37:=Tryz.zeroValue72
 t46:=Tryz.underlying40
 a46:=Tryz.isAgg40
 z46:=Tryz.sizeOf40
 v46:=Tryz.zeroValue40
 t51:=Tryz.underlying175
 a51:=Tryz.isAgg175
 z51:=Tryz.sizeOf175
 v51:=Tryz.zeroValue175
 t53:=Tryz.underlying177
 a53:=Tryz.isAgg177
 z53:=Tryz.sizeOf177
 v53:=Tryz.zeroValue177
 t75:=Tryz.underlying136
 a75:=Tryz.isAgg136
 z75:=Tryz.sizeOf136
 v75:=Tryz.zeroValue136
 t76:=Tryz.underlying142
 a76:=Tryz.isAgg142
 z76:=Tryz.sizeOf142
 v76:=Tryz.zeroValue142
 t85:=Tryz.underlying188
 a85:=Tryz.isAgg188
 z85:=Tryz.sizeOf188
 v85:=Tryz.zeroValue188
 t127:=Tryz.underlying138
 a127:=Tryz.isAgg138
 z127:=Tryz.sizeOf138
 v127:=Tryz.zeroValue138
 t143:=Tryz.underlying223
 a143:=Tryz.isAgg223
 z143:=Tryz.sizeOf223
 v143:=Tryz.zeroValue223
 t145:=Tryz.underlying225
 a145:=Tryz.isAgg225
 z145:=Tryz.sizeOf225
 v145:=Tryz.zeroValue225
 t167:=Tryz.underlying187
 a167:=Tryz.isAgg187
 z167:=Tryz.sizeOf187
 v167:=Tryz.zeroValue187
 t168:=Tryz.underlying190
 a168:=Tryz.isAgg190
 z168:=Tryz.sizeOf190
 v168:=Tryz.zeroValue190
 t171:=Tryz.underlying200
 a171:=Tryz.isAgg200
 z171:=Tryz.sizeOf200
 v171:=Tryz.zeroValue200
 t173:=Tryz.underlying202
 a173:=Tryz.isAgg202
 z173:=Tryz.sizeOf202
 v173:=Tryz.zeroValue202
 t175:=Tryz.underlying208
 a175:=Tryz.isAgg208
 z175:=Tryz.sizeOf208
 v175:=Tryz.zeroValue208
 t210:=Tryz.underlying212
 a210:=Tryz.isAgg212
 z210:=Tryz.sizeOf212
 v210:=Tryz.zeroValue212
 t212:=Tryz.underlying218
 a212:=Tryz.isAgg218
 z212:=Tryz.sizeOf218
 v212:=Tryz.zeroValue218
 t213:=Tryz.underlying219
 a213:=Tryz.isAgg219
 z213:=Tryz.sizeOf219
 t232:=Tryz.underlying226
 a232:=Tryz.isAgg226
 z232:=Tryz.sizeOf226
 v232:=Tryz.zeroValue226
 t233:=Tryz.underlying227
 a233:=Tryz.isAgg227
 z233:=Tryz.sizeOf227
 v233:=Tryz.zeroValue227
 g15:=by kernel_rfl
 g16:=by kernel_rfl
 g17:=by kernel_rfl
 g18:=by kernel_rfl
 g19:=by kernel_rfl
 t80:=Tryz.underlying88
 a80:=Tryz.isAgg88
 z80:=Tryz.sizeOf88
 v80:=Tryz.zeroValue88
 i0:=by kernel_rfl
 i2:=by kernel_rfl
 i3:=by kernel_rfl
 i4:=by kernel_rfl
 i5:=by kernel_rfl
 i9:=by kernel_rfl
 i20:=by kernel_rfl
 i21:=by kernel_rfl
 i37:=by kernel_rfl
 i46:=by kernel_rfl
 i51:=by kernel_rfl
 i53:=by kernel_rfl
 i75:=by kernel_rfl
 i76:=by kernel_rfl
 i80:=by kernel_rfl
 i85:=by kernel_rfl
 i127:=by kernel_rfl
 i143:=by kernel_rfl
 i145:=by kernel_rfl
 i167:=by kernel_rfl
 i168:=by kernel_rfl
 i171:=by kernel_rfl
 i173:=by kernel_rfl
 i175:=by kernel_rfl
 i210:=by kernel_rfl
 i212:=by kernel_rfl
 i232:=by kernel_rfl
 i233:=by kernel_rfl
 m15:=by kernel_rfl
 m16:=by kernel_rfl
 m17:=by kernel_rfl
 m18:=by kernel_rfl
 m19:=by kernel_rfl
 c0:=by kernel_rfl
 c2:=by kernel_rfl
 c3:=by kernel_rfl
 c4:=by kernel_rfl
 c5:=by kernel_rfl
 c9:=by kernel_rfl
 c20:=by kernel_rfl
 c21:=by kernel_rfl
 c37:=by kernel_rfl
 c46:=by kernel_rfl
 c51:=by kernel_rfl
 c53:=by kernel_rfl
 c75:=by kernel_rfl
 c76:=by kernel_rfl
 c80:=by kernel_rfl
 c85:=by kernel_rfl
 c127:=by kernel_rfl
 c143:=by kernel_rfl
 c145:=by kernel_rfl
 c167:=by kernel_rfl
 c168:=by kernel_rfl
 c171:=by kernel_rfl
 c173:=by kernel_rfl
 c175:=by kernel_rfl
 c210:=by kernel_rfl
 c212:=by kernel_rfl
 c213:=by kernel_rfl
 c232:=by kernel_rfl
 c233:=by kernel_rfl }
end
section
def a_bn:Go.Shelf.Ren:=⟨fun | 171=>76 | 243=>104 | 246=>134 | 283=>153 | 284=>154 | 285=>155 | 286=>156 | 129=>130 | 317=>165 | 318=>166 | 319=>167 | 320=>168 | 337=>173 | 338=>174 | n=>n,fun | 3=>3 | 9=>9 | 2=>2 | 4=>4 | 171=>200 | 0=>0 | 53=>177 | 37=>72 | 5=>5 | 173=>202 | 212=>218 | 51=>175 | 20=>20 | 213=>219 | 46=>40 | 232=>226 | 233=>227 | n=>n,fun | 17=>5 | 18=>6 | 19=>7 | n=>n⟩
theorem a_l4:Go.Proofs.LaysM.n171 prog a_bn:= {
 mixed:=by kernel_rfl
 f129:=Tryz.func130.trans (congrArg some (by kernel_rfl))
 f171:=Tryz.func76.trans (congrArg some (by kernel_rfl))
 f243:=Tryz.func104.trans (congrArg some (by kernel_rfl))
 f246:=Tryz.func134.trans (congrArg some (by kernel_rfl))
 f283:=Tryz.func153.trans (congrArg some (by kernel_rfl))
 f284:=Tryz.func154.trans (congrArg some (by kernel_rfl))
 f285:=Tryz.func155.trans (congrArg some (by kernel_rfl))
 f286:=Tryz.func156.trans (congrArg some (by kernel_rfl))
 f317:=Tryz.func165.trans (congrArg some (by kernel_rfl))
 f318:=Tryz.func166.trans (congrArg some (by kernel_rfl))
 f319:=Tryz.func167.trans (congrArg some (by kernel_rfl))
 f320:=Tryz.func168.trans (congrArg some (by kernel_rfl))
 f337:=Tryz.func173.trans (congrArg some (by kernel_rfl))
 f338:=Tryz.func174.trans (congrArg some (by kernel_rfl))
 t0:=Tryz.underlying0
 a0:=Tryz.isAgg0
 z0:=Tryz.sizeOf0
 v0:=Tryz.zeroValue0
 t2:=Tryz.underlying2
 a2:=Tryz.isAgg2
 z2:=Tryz.sizeOf2
 v2:=Tryz.zeroValue2
 t3:=Tryz.underlying3
 a3:=Tryz.isAgg3
 z3:=Tryz.sizeOf3
 v3:=Tryz.zeroValue3
 t4:=Tryz.underlying4
 a4:=Tryz.isAgg4
 z4:=Tryz.sizeOf4
 v4:=Tryz.zeroValue4
 t5:=Tryz.underlying5
 a5:=Tryz.isAgg5
 z5:=Tryz.sizeOf5
 v5:=Tryz.zeroValue5
 t9:=Tryz.underlying9
 a9:=Tryz.isAgg9
 z9:=Tryz.sizeOf9
 v9:=Tryz.zeroValue9
 t20:=Tryz.underlying20
 a20:=Tryz.isAgg20
 z20:=Tryz.sizeOf20
 v20:=Tryz.zeroValue20
 t37:=Tryz.underlying72
 a37:=Tryz.isAgg72
 z37:=Tryz.sizeOf72
 v37:=Tryz.zeroValue72
 t46:=Tryz.underlying40
 a46:=Tryz.isAgg40
 z46:=Tryz.sizeOf40
 v46:=Tryz.zeroValue40
 t51:=Tryz.underlying175
 a51:=Tryz.isAgg175
 z51:=Tryz.sizeOf175
 v51:=Tryz.zeroValue175
 t53:=Tryz.underlying177
 a53:=Tryz.isAgg177
 z53:=Tryz.sizeOf177
 v53:=Tryz.zeroValue177
 t171:=Tryz.underlying200
 a171:=Tryz.isAgg200
 z171:=Tryz.sizeOf200
 v171:=Tryz.zeroValue200
 t173:=Tryz.underlying202
 a173:=Tryz.isAgg202
 z173:=Tryz.sizeOf202
 v173:=Tryz.zeroValue202
 t212:=Tryz.underlying218
 a212:=Tryz.isAgg218
 z212:=Tryz.sizeOf218
 v212:=Tryz.zeroValue218
 t213:=Tryz.underlying219
 a213:=Tryz.isAgg219
 z213:=Tryz.sizeOf219
 t232:=Tryz.underlying226
 a232:=Tryz.isAgg226
 z232:=Tryz.sizeOf226
 v232:=Tryz.zeroValue226
 t233:=Tryz.underlying227
 a233:=Tryz.isAgg227
 z233:=Tryz.sizeOf227
 v233:=Tryz.zeroValue227
 g17:=by kernel_rfl
 g18:=by kernel_rfl
 g19:=by kernel_rfl
 i0:=by kernel_rfl
 i2:=by kernel_rfl
 i3:=by kernel_rfl
 i4:=by kernel_rfl
 i5:=by kernel_rfl
 i9:=by kernel_rfl
 i20:=by kernel_rfl
 i37:=by kernel_rfl
 i46:=by kernel_rfl
 i51:=by kernel_rfl
 i53:=by kernel_rfl
 i171:=by kernel_rfl
 i173:=by kernel_rfl
 i212:=by kernel_rfl
 i232:=by kernel_rfl
 i233:=by kernel_rfl
 m17:=by kernel_rfl
 m18:=by kernel_rfl
 m19:=by kernel_rfl }
end
end Go.Proofs.YtfdffboelecgoaaGreatDoor
namespace Go.Fw
section
section
variable {P:Program} {l n:Nat} {o:Oper} {a:Act} {W:World} {next:Act→World→Prop} {Q:Exit→Act→World→Prop} {ops:Array Oper}
abbrev Rd (l:Nat) :Fence:=Fence.wide.inRound l
def j_0:Code→Bool
 | .region _ ops _=>ops.toList.all fun o=>match o.op with | .defer _=>false | _=>true
 | .cond _ x y=>j_0 x && j_0 y
 | .seq x y=>j_0 x && j_0 y
 | .block _ c=>j_0 c
 | .loop c=>j_0 c
 | _=>true
theorem a_nh (hd:∀c,o.op≠ .defer c)(hq:∀a w,¬Q .outgrown a w)(h:o.wp P a W next Q) :o.wpIn (Rd l) n P a W next Q:=by
 refine ⟨fun _ _=>trivial,?_⟩
 rw[Oper.semAt_eq _ _ _ hd]
 unfold Oper.wp at h
 cases hr:(execOp a.eval o).run P W with
 | halt x w'=>
   rw[hr] at h
   cases x <;> first | exact h | exact h.elim
 | ok x w'=>
   rw[hr] at h
   cases x with
   | value v=>exact h
   | skip=>exact h
   | defer d=>exact h
   | enter f args=>
     refine ⟨fun h=>(by cases h),?_⟩
     have h:Calls P f args w' _:=h
     refine CallsIn.mono (F:=Rd l) (show CallsIn (Rd l) (n - 1) P f args w' _ from callsIn_wide.2 h) fun e w'' he=>?_
     cases e with
     | returned v=>exact he
     | panicked ch=>exact he
     | outgrown=>exact he
   | row r args=>
     refine ⟨fun h=>(by cases h),?_⟩
     have h:Go.Rows P r args w' _:=h
     intro c cs _
     obtain ⟨v,w'',h1,h2⟩:=h c cs
     exact ⟨v,w'',h1,stepsIn_wide.2 h2⟩
   | _=>exact h.elim
theorem y_d (hops:∀o ∈ ops.toList,∀c,o.op≠ .defer c)(hq:∀a w,¬Q .outgrown a w) :∀(L:List Nat) (a:Act) (W:World),wpOps P ops Q L a W→wpOpsIn (Rd l) n P ops Q L a W
 | [],a,W,h=>h
 | i::r,a,W,h=>by
   unfold wpOps at h
   unfold wpOpsIn
   cases ho:ops[i]? with
   | none=>rw[ho] at h;exact y_d hops hq r a W h
   | some o=>
     rw[ho] at h
     have hd:=hops o (Array.mem_toList_iff.2 (Array.mem_of_getElem? ho))
     simp only at h ⊢
     split at h
     · rename_i hw
       rw[if_pos hw]
       rcases h with h | ⟨_,a',w',hx⟩
       · exact a_nh hd hq (Oper.wp_mono (fun a w=>y_d hops hq r a w) h)
       · exact absurd hx (hq _ _)
     · rename_i hw
       rw[if_neg hw]
       exact ⟨fun _ _=>trivial,y_d hops hq r _ _ h⟩
theorem z_1 {id:Nat}{b:Bool}(h:j_0 (.region id ops b) =true) :∀o ∈ ops.toList,∀c,o.op≠ .defer c:=by
 intro o ho c hc
 have:=List.all_eq_true.1 h o ho
 rw[hc] at this
 cases this
def wpR (P:Program)(n l:Nat)(c:Code)(Q:Exit→Act→World→Prop)(a:Act)(w:World) :Prop:=
 j_0 c=true→(∀a w,¬Q .outgrown a w)→c.wpIn (Rd l) n P Q a w
theorem a_e6 (hm:P.follows .mixedOrders=true)(n l:Nat) :WL P (wpR P n l) where
 mono h h2 hd hq:=wpIn_mono (h2 hd fun a w hx=>hq a w (h _ _ _ hx)) h
 skip h _ _:=wpIn_skip h
 label h _ _:=wpIn_label h
 exit h _ _:=wpIn_exit h
 ret h _ _:=wpIn_ret h
 condT hc h hd hq:=wpIn_cond_true hc (h (Bool.and_eq_true _ _ ▸ hd).1 hq)
 condF hc h hd hq:=wpIn_cond_false hc (h (Bool.and_eq_true _ _ ▸ hd).2 hq)
 block h hd hq:=wpIn_block (h hd hq)
 seq h hd hq:=by
   have hd:=(Bool.and_eq_true _ _).mp hd
   refine wpIn_seq (wpIn_mono (h hd.1 hq) fun e a w he=>?_)
   cases e with
   | normal=>exact he hd.2 hq
   | _=>exact he
 loop I n₀ h0 h hd hq:=by
   refine wpIn_loop (fun a w=>∃n,I n a w) (fun a w=>leastOf (fun n=>I n a w)) ⟨n₀,h0⟩ fun a w hI=>?_
   refine wpIn_mono (h _ a w (leastOf_spec hI).1 hd hq) fun e a' w' he=>?_
   cases e with
   | normal=>
     obtain ⟨n',hlt,hI'⟩:=he
     exact ⟨⟨n',hI'⟩,Nat.lt_of_le_of_lt ((leastOf_spec ⟨n',hI'⟩).2 n' hI') hlt⟩
   | _=>exact he
 region h hd hq:=by
   refine wpIn_region (y_d (z_1 hd) hq _ _ _ ?_)
   rw[List.range_eq_range',←Array.length_toList,wpOps_eq_wpList _ 0 (by simp)]
   exact h
 draw {id ops Q a w} h hd hq:=by
   refine wpIn_region_draw fun t=>y_d (z_1 hd) hq _ _ _ ?_
   simp only[Region.schedule,hm,Bool.true_or,if_true]
   refine h _ (a_ah _ _ _ ?_)
   exact Nat.le_trans List.countP_le_length (by simp)
end
section
variable {P:Program} {k k' k0:Nat→Prop} {β β' β0:Bk} {σ σ' σ0 σd:Store} {W W' W'' W0:World} {B B':Nat→Prop} {b n:Nat} {γ:Nat→Nat} {env:Env} {a:Act}
def Off (k:Nat→Prop)(β:Bk)(σ:Store)(b:Nat) :Prop:=¬k b∧∀i bi,β i=some bi→σ i≠ .dead→bi.blk≠b
theorem Off.ghost (h:Off k β σ b)(hb:b < W.heap.size)(g:Ghost k β σ W k' β' σ') :Off k' β' σ' b:=by
 refine ⟨fun hk=>?_,fun i bi hi hl he=>?_⟩
 · rcases g.kn b hk with h1 | h1 | ⟨i,bi,h1,h2,h3⟩
   · exact h.1 h1
   · omega
   · exact h.2 i bi h1 h2 h3
 · rcases g.bn i bi hi with h1 | h1 | ⟨j,bj,h1,h2,h3⟩
   · exact h.2 i bi h1 (fun hd=>hl (g.dd i hd)) he
   · omega
   · exact h.2 j bj h1 h2 (h3.trans he)
theorem Off.new (hs:SRel P k β W σ)(hb:W.heap.size≤b) :Off k β σ b:=
 ⟨fun hk=>by have:=hs.klt b hk;omega,fun i bi hi _ he=>by have:=hs.blt i bi hi;omega⟩
structure Idle (B:Nat→Prop) (W W':World) :Prop where
 os:W'.os=W.os
 tape:W'.tape=W.tape
 output:W'.output=W.output
 size:W.heap.size≤W'.heap.size
 block:∀b,b < W.heap.size→¬B b→W'.heap[b]? =W.heap[b]?
theorem Idle.refl (B:Nat→Prop)(W:World) :Idle B W W:=⟨rfl,rfl,rfl,Nat.le_refl _,fun _ _ _=>rfl⟩
theorem Idle.trans (h:Idle B W W')(h':Idle B W' W'') :Idle B W W'':=
 ⟨h'.os.trans h.os,h'.tape.trans h.tape,h'.output.trans h.output,Nat.le_trans h.size h'.size,fun b hb hn=>(h'.block b (Nat.lt_of_lt_of_le hb h.size) hn).trans (h.block b hb hn)⟩
theorem Idle.put (W:World)(b:Nat)(o:Obj) :Idle (fun x=>x=b) W (W.putObj b o):=
 ⟨rfl,rfl,rfl,by simp,fun x _ hx=>World.putObj_heap_other hx⟩
theorem Idle.alloc (B:Nat→Prop)(W:World)(o:Obj) :Idle B W (W.alloc o):=
 ⟨rfl,rfl,rfl,by show W.heap.size≤(W.heap.push o).size;simp,fun b hb _=>by
   show (W.heap.push o)[b]? =_
   simp[Array.getElem?_push,Nat.ne_of_lt hb]⟩
theorem Idle.keep (h:Idle B W W')(hs:SRel P k β W σ)(ho:∀b,B b→¬k b) :Keep k W W':=fun b hb=>h.block b (hs.klt b hb) fun hB=>ho b hB hb
theorem SRel.idle (h:SRel P k β W σ)(g:Idle B W W')(ho:∀b,B b→Off k β σ b) :SRel P k β W' σ where
 gl:=h.gl.mono (fun _ h=>h) (g.keep h fun b hb=>(ho b hb).1)
 fin:=h.fin
 dom:=h.dom
 klt b hb:=Nat.lt_of_lt_of_le (h.klt b hb) g.size
 blt i bi hi:=Nat.lt_of_lt_of_le (h.blt i bi hi) g.size
 inj:=h.inj
 notk:=h.notk
 obj i bi t rows hb hs:=by
   have hk:=g.keep h fun b hb=>(ho b hb).1
   have hnd:σ i≠ .dead:=by rw[hs];intro e;cases e
   obtain ⟨arr,h1,h2,h3,h4,h5,h6,h7⟩:=h.obj i bi t rows hb hs
   refine ⟨arr,(g.block _ (h.blt i bi hb) fun hB=>(ho _ hB).2 i bi hb hnd rfl).trans h1,h2,h3,h4,h5,h6,fun r row j d hr hj=>?_⟩
   obtain ⟨v,hv,hV⟩:=h7 r row j d hr hj
   exact ⟨v,hv,hV.mono (fun _ h=>h) (fun _ _ h=>h) hk⟩
 omap i bi clock es hb hs:=by
   have hk:=g.keep h fun b hb=>(ho b hb).1
   have hnd:σ i≠ .dead:=by rw[hs];intro e;cases e
   obtain ⟨ents,h1,h2,h3,h4,h5⟩:=h.omap i bi clock es hb hs
   refine ⟨ents,(g.block _ (h.blt i bi hb) fun hB=>(ho _ hB).2 i bi hb hnd rfl).trans h1,h2,h3,h4,fun r e b ks vs hr he=>?_⟩
   obtain ⟨hbo,ha,hv⟩:=h5 r e b ks vs hr he
   exact ⟨hbo,ha.mono (fun _ h=>h) (fun _ _ h=>h) hk,hv.mono (fun _ h=>h) (fun _ _ h=>h) hk⟩
theorem Frm.idle (h:Frm β σ W W')(g:Idle B W' W'')(hB:∀b,B b→b < W.heap.size→∃i bi,β i=some bi∧σ i≠ .dead∧bi.blk=b) :Frm β σ W W'':=
 ⟨g.os.trans h.os,g.tape.trans h.tape,g.output.trans h.output,Nat.le_trans h.size g.size,fun b hb hn=>(g.block b (Nat.lt_of_lt_of_le hb h.size) fun hx=>by
   obtain ⟨i,bi,h1,h2,h3⟩:=hB b hx hb
   exact hn i bi h1 h2 h3).trans (h.block b hb hn)⟩
def Turned (β:Bk)(σ σd:Store)(b:Nat) :Prop:=∃i bi,β i=some bi∧σ i≠ .dead∧σd i= .dead∧bi.blk=b
def Given (σ σd:Store) :Prop:=∀i,σd i=σ i∨(σ i≠ .dead∧σ i≠ .free∧σd i= .dead)
theorem Given.live (h:Given σ σd){i:Nat}(hl:σd i≠ .dead) :σd i=σ i:=(h i).elim id fun h=>absurd h.2.2 hl
theorem SRel.give (h:SRel P k β W σ)(g:Given σ σd) :SRel P k β W σd where
 gl:=h.gl
 fin:=by
   obtain ⟨N,hN⟩:=h.fin
   refine ⟨N,fun i hi=>?_⟩
   rcases g i with h1 | ⟨_,h1,_⟩
   · rw[h1,hN i hi]
   · exact absurd (hN i hi) h1
 dom i:=by
   rcases g i with h1 | ⟨h0,h1,h2⟩
   · rw[h1];exact h.dom i
   · rw[h2];exact ⟨fun _ e=>(by cases e),fun _=>(h.dom i).2 h1⟩
 klt:=h.klt
 blt:=h.blt
 inj i j bi bj hi hj h1 h2:=h.inj i j bi bj hi hj (by rw[←g.live h1];exact h1) (by rw[←g.live h2];exact h2)
 notk i bi hi h1:=h.notk i bi hi (by rw[←g.live h1];exact h1)
 obj i bi t rows hb hs:=h.obj i bi t rows hb (by rw[←g.live (by rw[hs];intro e;cases e)];exact hs)
 omap i bi c es hb hs:=h.omap i bi c es hb (by rw[←g.live (by rw[hs];intro e;cases e)];exact hs)
theorem Turned.off (h:SRel P k β W σ)(g:Given σ σd)(hb:Turned β σ σd b) :Off k β σd b:=by
 obtain ⟨i,bi,h1,h2,h3,rfl⟩:=hb
 refine ⟨h.notk i bi h1 h2,fun j bj hj hl he=>?_⟩
 have:=h.inj j i bj bi hj h1 (by rw[←g.live hl];exact hl) h2 he
 subst this
 exact hl h3
def a_hs (P:Program)(f:FuncId)(caps:List (Bool × List D))(σ σd:Store)(xs:List ByteArray) :Prop:=
 g_p P f=true∧Given σ σd∧
 ∀(n l:Nat) (k:Nat→Prop) (β:Bk) (W:World) (lb:Array Value) (J:Nat→World→Prop) (Jx:World→Prop),
   SRel P k β W σ→V k β W (.func (.func f) #[] lb) (.fn f [] caps)→
   (∀i W1 W2,J i W1→Idle (Turned β σ σd) W1 W2→J i W2)→(∀W1 W2,Jx W1→Idle (Turned β σ σd) W1 W2→Jx W2)→
   (∀m i s W1,xs[i]? =some s→J i W1→YieldAt Fence.wide m P l #[.string s] W1 fun e W'=>
     ((e= .returned (.bool true)∧J (i+1) W')∨(e= .returned (.bool false)∧Jx W'))∧W1.heap.size≤W'.heap.size∧∀b,Turned β σ σd b→W'.heap[b]? =W1.heap[b]?)→
   J 0 W→CallsIn Fence.wide n P f (#[.func (.yield l) #[] #[]] ++ lb) W fun e W'=>(∃v,e= .returned v)∧(J xs.length W'∨Jx W')
structure Jl (P:Program) (k:Nat→Prop) (β:Bk) (σ:Store) (W:World) (σd:Store) (rec:Loop) (k':Nat→Prop) (β':Bk) (σ':Store) (W1:World) :Prop where
 srel:SRel P k' β' W1 σ'
 ghost:Ghost k β σ W k' β' σ'
 frm:Frm β σ W W1
 turned:∀b,Turned β σ σd b→Off k' β' σ' b
 own:∀b,b=W.heap.size∨b=W.heap.size+1→Off k' β' σ' b
 loop:W1.heap[W.heap.size+1]? =some (.loop rec)
 dfr:W1.heap[W.heap.size]? =some (.deferred (some []))
variable {rec rec':Loop} {W1 W2:World} {k2:Nat→Prop} {β2:Bk} {σ2:Store}
theorem Jl.lt (h:Jl P k β σ W σd rec k' β' σ' W1) :W.heap.size+1 < W1.heap.size:=(Array.getElem?_eq_some_iff.1 h.loop).1
theorem Turned.lt (hs:SRel P k β W σ)(h:Turned β σ σd b) :b < W.heap.size:=by
 obtain ⟨i,bi,h1,_,_,rfl⟩:=h
 exact hs.blt i bi h1
theorem Jl.go (h:Jl P k β σ W σd rec k' β' σ' W1)(hs:SRel P k β W σ)(s2:SRel P k2 β2 W2 σ2)(g:Ghost k' β' σ' W1 k2 β2 σ2)(f:Frm β' σ' W1 W2) :Jl P k β σ W σd rec k2 β2 σ2 W2 where
 srel:=s2
 ghost:=h.ghost.trans h.frm.size g
 frm:=h.frm.trans h.ghost f
 turned b hb:=(h.turned b hb).ghost (by have:=h.lt;have:=Turned.lt hs hb;omega) g
 own b hb:=(h.own b hb).ghost (by have:=h.lt;omega) g
 loop:=(f.block _ h.lt (h.own _ (.inr rfl)).2).trans h.loop
 dfr:=(f.block _ (by have:=h.lt;omega) (h.own _ (.inl rfl)).2).trans h.dfr
theorem Jl.put (h:Jl P k β σ W σd rec k' β' σ' W1) :Jl P k β σ W σd rec' k' β' σ' (W1.putObj (W.heap.size+1) (.loop rec')) where
 srel:=h.srel.idle (Idle.put _ _ _) fun b hb=>by subst hb;exact h.own _ (.inr rfl)
 ghost:=h.ghost
 frm:=h.frm.idle (Idle.put _ _ _) fun b hb hlt=>by subst hb;omega
 turned:=h.turned
 own:=h.own
 loop:=World.putObj_heap_same h.lt
 dfr:=(World.putObj_heap_other (by omega)).trans h.dfr
theorem Jl.idle (h:Jl P k β σ W σd rec k' β' σ' W1)(hs:SRel P k β W σ)(g:Idle (Turned β σ σd) W1 W2) :Jl P k β σ W σd rec k' β' σ' W2 where
 srel:=h.srel.idle g h.turned
 ghost:=h.ghost
 frm:=h.frm.idle g fun b hb _=>by obtain ⟨i,bi,h1,h2,_,h4⟩:=hb;exact ⟨i,bi,h1,h2,h4⟩
 turned:=h.turned
 own:=h.own
 loop:=(g.block _ h.lt fun hb=>by have:=Turned.lt hs hb;omega).trans h.loop
 dfr:=(g.block _ (by have:=h.lt;omega) fun hb=>by have:=Turned.lt hs hb;omega).trans h.dfr
abbrev NoBx (env:Env) :Prop:=∀s cs,¬f_f (get env s) cs
def clE (env:Env) :Env:=fun s=>match env s with
 | .val x=> .val x
 | .el d i off=> .el d i off
 | .tup xs=> .tup xs
 | _=> .undef
theorem k_m (env:Env) :NoBx (clE env):=by
 intro s cs hb
 unfold get clE at hb
 split at hb <;> rcases hb with hb | hb <;> cases hb
theorem a_gc (env:Env) :ND (clE env):=by
 intro s d off hg
 unfold get clE at hg
 split at hg <;> cases hg
theorem RelX.clean {tmps:Array Value}(h:RelX P k0 β0 σ0 W0 n k β γ tmps W env σ) :RelX P k0 β0 σ0 W0 n k β γ tmps W (clE env) σ where
 srel:=h.srel
 slot s:=by
   have hs:=h.slot s
   unfold get at hs ⊢
   unfold clE
   cases he:env s <;> rw[he] at hs <;> first | exact hs | trivial
 box s cs hb:=absurd hb (k_m env s cs)
 inj s s' cs cs' hb:=absurd hb (k_m env s cs)
 ghost:=h.ghost
 frm:=h.frm
 size:=h.size
theorem RelX.anew {tmps:Array Value}(h:RelX P k0 β0 σ0 W0 n k β γ tmps W env σ)(hnb:NoBx env)(s2:SRel P k2 β2 W2 σ2)(g:Ghost k β σ W k2 β2 σ2)(hk:Keep k W W2) :RelX P k2 β2 σ2 W2 n k2 β2 γ tmps W2 env σ2 where
 srel:=s2
 slot s:=(h.slot s).mono g.kk g.bb hk
 box s cs hb:=absurd hb (hnb s cs)
 inj s s' cs cs' hb:=absurd hb (hnb s cs)
 ghost:=Ghost.refl _ _ _ _
 frm:=Frm.refl _ _ _
 size:=h.size
theorem ND.put_val (h:ND env)(hnb:NoBx env)(p:Nat)(x:A) :ND (a_t env p (.val x)):=by
 intro s d off hg
 by_cases hs:s=p
 · subst hs;rw[b_f] at hg;cases hg
 · rw[a_0 _ _ hs] at hg
   have hb:=h s d off hg
   exfalso
   cases hd:get env d with
   | bx cs=>exact hnb d cs (.inl hd)
   | cb cs=>exact hnb d cs (.inr hd)
   | _=>rw[hd] at hb;cases hb
theorem a_lb (hm:P.follows .mixedOrders=true)(an:Ann){p m fn:Nat}{tmps:Array Value}{assign body:Code}{s:ByteArray}{I J X:Store→Prop}(h:RelX P k0 β0 σ0 W0 n k β γ tmps W env σ)(hnd:ND env)(hnb:NoBx env)
   (hp:p < n) (hd1:∀d ∈ e_8 assign,d < n) (hd2:∀d ∈ e_8 body,d < n) (hn1:j_0 assign=true) (hn2:j_0 body=true)
   (hj:Jl P k β σ W σd { state:= .ready,pending:=none,fn,tmps,params:= #[p],assign,body,defers:=W.heap.size } k' β' σ' W1)
   (hr:dwp P an assign (fun e env1 s1=>match e with
     | .normal=>dwp P an body (fun e _ s2=>match e with | .normal=>J s2 | .ret=>X s2 | _=>False) (clE env1) s1
     | _=>False) (a_t env p (.val (.one (.str s)))) σ') :
   YieldAt Fence.wide m P (W.heap.size+1) #[.string s] W1 fun e W'=>
     ((e= .returned (.bool true)∧∃k2 β2 σ2,Jl P k β σ W σd { state:= .ready,pending:=none,fn,tmps,params:= #[p],assign,body,defers:=W.heap.size } k2 β2 σ2 W'∧J σ2)∨
      (e= .returned (.bool false)∧∃k2 β2 σ2,Jl P k β σ W σd { state:= .done,pending:=some .ret,fn,tmps,params:= #[p],assign,body,defers:=W.heap.size } k2 β2 σ2 W'∧X σ2))∧
     W1.heap.size≤W'.heap.size∧∀b,Turned β σ σd b→W'.heap[b]? =W1.heap[b]? :=by
 have hs:=h.srel
 have hlt:∀b,Turned β σ σd b→b < W1.heap.size:=fun b hb=>by have:=hj.lt;have:=Turned.lt hs hb;omega
 refine ⟨fn,_,assign,body,run_yield hj.loop rfl,roundIn_of_wpIn trivial ?_⟩
 have hX:=(h.anew hnb hj.srel hj.ghost (hj.frm.keep hs)).put hp (v:= .string s) (e:= .val (.one (.str s))) (by rintro cs (e | e) <;> cases e) (V.str s)
 have hA:=i_a (df:= []) (a_e6 hm m (W.heap.size+1)) an assign _ { tmps:=tmps.setIfInBounds p (.string s),defers:= [] } W1 _ _ hd1 ⟨⟨rfl,_,_,_,hX⟩,hnd.put_val hnb p _⟩ hr
 have ez:((#[p]:Array Tmp).zip #[Value.string s]).foldl (fun t (x:Tmp × Value)=>t.setIfInBounds x.1 x.2) tmps=tmps.setIfInBounds p (.string s):=by simp
 show assign.wpIn (Rd (W.heap.size+1)) m P _ { tmps:=((#[p]:Array Tmp).zip #[Value.string s]).foldl (fun t (x:Tmp × Value)=>t.setIfInBounds x.1 x.2) tmps,defers:= [] } W1
 rw[ez]
 refine wpIn_mono (hA hn1 fun a w hx=>hx.elim fun _ h=>h.elim fun _ h=>h.1.elim) fun e a1 W2 he=>?_
 obtain ⟨env1,σ1,q1,⟨⟨hdf,k1,β1,γ1,hX1⟩,hnd1⟩,_⟩:=he
 cases e with
 | normal=>
   have hnb1:=k_m env1
   have hnd1:=a_gc env1
   have hX1:=hX1.clean
   have j1:=hj.go hs hX1.srel hX1.ghost hX1.frm
   refine ⟨_,run_beginRound j1.loop rfl,?_⟩
   have j2:=j1.put (rec':= { state:= .busy,pending:=none,fn,tmps,params:= #[p],assign,body,defers:=W.heap.size })
   have hk2:Keep k1 W2 (W2.putObj (W.heap.size+1) (.loop { state:= .busy,pending:=none,fn,tmps,params:= #[p],assign,body,defers:=W.heap.size })):=
     (Idle.put _ _ _).keep hX1.srel fun b hb=>by subst hb;exact (j1.own _ (.inr rfl)).1
   have hX2:=hX1.anew hnb1 j2.srel (Ghost.refl _ _ _ _) hk2
   have hB:=i_a (df:= []) (a_e6 hm m (W.heap.size+1)) an body _ a1 _ (clE env1) σ1 hd2 ⟨⟨hdf,_,_,_,hX2⟩,hnd1⟩ q1
   have hsz2:W1.heap.size≤(W2.putObj (W.heap.size+1) (.loop { state:= .busy,pending:=none,fn,tmps,params:= #[p],assign,body,defers:=W.heap.size })).heap.size:=by
     rw[World.putObj_size];exact hX1.frm.size
   have ht2:∀b,Turned β σ σd b→(W2.putObj (W.heap.size+1) (.loop { state:= .busy,pending:=none,fn,tmps,params:= #[p],assign,body,defers:=W.heap.size })).heap[b]? =W1.heap[b]? :=fun b hb=>by
     have:=Turned.lt hs hb
     rw[World.putObj_heap_other (by omega)]
     exact hX1.frm.block b (hlt b hb) (hj.turned b hb).2
   generalize hW3:W2.putObj (W.heap.size+1) (.loop { state:= .busy,pending:=none,fn,tmps,params:= #[p],assign,body,defers:=W.heap.size }) =W3 at *
   refine wpIn_mono (hB hn2 fun a w hx=>hx.elim fun _ h=>h.elim fun _ h=>h.1.elim) fun e a3 W4 he=>?_
   obtain ⟨env3,σ3,q3,⟨⟨_,k3,β3,γ3,hX3⟩,_⟩,_⟩:=he
   have j3:=j2.go hs hX3.srel hX3.ghost hX3.frm
   have hsz:W1.heap.size≤W4.heap.size:=Nat.le_trans hsz2 hX3.frm.size
   have ht:∀b,Turned β σ σd b→W4.heap[b]? =W1.heap[b]? :=fun b hb=>
     (hX3.frm.block b (Nat.lt_of_lt_of_le (hlt b hb) hsz2) (j2.turned b hb).2).trans (ht2 b hb)
   have fin:∀(o:Obj),W1.heap.size≤(W4.putObj (W.heap.size+1) o).heap.size∧∀b,Turned β σ σd b→(W4.putObj (W.heap.size+1) o).heap[b]? =W1.heap[b]? :=fun o=>
     ⟨by rw[World.putObj_size];exact hsz,fun b hb=>by
       have:=Turned.lt hs hb
       rw[World.putObj_heap_other (by omega)];exact ht b hb⟩
   cases e with
   | normal=>exact ⟨_,_,run_endRound none j3.loop, .inl ⟨rfl,_,_,_,j3.put,q3⟩,fin _⟩
   | ret=>exact ⟨_,_,run_endRound (some .ret) j3.loop, .inr ⟨rfl,_,_,_,j3.put,q3⟩,fin _⟩
   | _=>exact q3.elim
 | _=>exact q1.elim
def a_h1 (P:Program)(k0:Nat→Prop)(β0:Bk)(σ0:Store)(W0:World)(n:Nat)(γ:Nat→Nat)(env:Env)(a:Act)(Y:Store→Prop)(a':Act)(W':World) :Prop:=
 ∃D k' β' σ',a'= { a with defers:= [{ target:= .collected D,args:= #[] }] }∧RelX P k0 β0 σ0 W0 n k' β' γ a.tmps W' env σ'∧W0.heap.size≤D∧W'.heap[D]? =some (.deferred (some []))∧Off k' β' σ' D∧Y σ'
theorem a_l6 (hm:P.follows .mixedOrders=true)(an:Ann){gt p m:Nat}{assign body:Code}{Q:Exit→Act→World→Prop}{f:FuncId}{caps:List (Bool × List D)}{xs:List ByteArray}{I:Nat→Store→Prop}{X:Store→Prop}
   (h:RelX P k0 β0 σ0 W0 n k β γ a.tmps W env σ) (hnd:ND env) (hnb:NoBx env) (hdf:a.defers=[])
   (hp:p < n) (hd1:∀d ∈ e_8 assign,d < n) (hd2:∀d ∈ e_8 body,d < n) (hn1:j_0 assign=true) (hn2:j_0 body=true)
   (hg:get env gt= .val (.one (.fn f [] caps))) (hseq:a_hs P f caps σ σd xs) (h0:I 0 σd)
   (hr:∀i s s0,xs[i]? =some s→I i s0→dwp P an assign (fun e env1 s1=>match e with
     | .normal=>dwp P an body (fun e _ s2=>match e with | .normal=>I (i+1) s2 | .ret=>X s2 | _=>False) (clE env1) s1
     | _=>False) (a_t env p (.val (.one (.str s)))) s0)
   (hq1:∀a' W',a_h1 P k0 β0 σ0 W0 n γ env a (I xs.length) a' W'→Q .normal a' W')
   (hq2:∀a' W',a_h1 P k0 β0 σ0 W0 n γ env a X a' W'→Q .ret a' W') :
   (Code.rangeFunc (.tmp gt) #[p] assign body).wpIn Fence.wide m P Q a W:=by
 obtain ⟨hcall,hgv,hit⟩:=hseq
 have hs:=h.srel
 have hv:=h.slot gt
 rw[hg] at hv
 have hv:V k β W (a.tmps.getD gt undef) (.fn f [] caps):=hv
 obtain ⟨lb,hlb⟩ :∃lb,a.tmps.getD gt undef= .func (.func f) #[] lb:=by
   generalize a.tmps.getD gt undef=u at hv
   cases hv with
   | fn _ first lb _ _ _ _ h1=>exact ⟨lb,by rw[h1];rfl⟩
 have hev:a.eval (.tmp gt) = .func (.func f) #[] lb:=hlb
 refine wpIn_rangeFunc fun fn _=>?_
 obtain ⟨rec,hrec⟩ :∃rec:LoopState→Option Code→Loop,rec=fun st pe=> { state:=st,pending:=pe,fn,tmps:=a.tmps,params:= #[p],assign,body,defers:=W.heap.size } :=⟨_,rfl⟩
 obtain ⟨W1,hW1⟩ :∃W1,(W.alloc (.deferred (some []))).alloc (.loop (rec .ready none)) =W1:=⟨_,rfl⟩
 have hL1:W1.heap[W.heap.size+1]? =some (.loop (rec .ready none)):=by
   rw[←hW1];have:=World.alloc_heap_new (W.alloc (.deferred (some []))) (.loop (rec .ready none));rwa [World.size_alloc] at this
 have hid:Idle (fun _=>False) W W1:=by rw[←hW1];exact (Idle.alloc _ _ _).trans (Idle.alloc _ _ _)
 have hK1:W1.heap[W.heap.size]? =some (.deferred (some [])):=by
   rw[←hW1]
   refine ((Idle.alloc (fun _=>False) (W.alloc (.deferred (some []))) (.loop (rec .ready none))).block _ (by simp) id).trans (World.alloc_heap_new W _)
 have hs1:SRel P k β W1 σ:=hs.idle hid fun b hb=>hb.elim
 have j0:Jl P k β σ W σd (rec .ready none) k β σd W1:= {
   srel:=hs1.give hgv
   ghost:=⟨fun _ h=>h,fun _ h=> .inl h,fun _ _ h=>h,fun _ _ h=> .inl h,fun i hi=>by
     rcases hgv i with e | ⟨e,_,_⟩
     · rw[e];exact hi
     · exact absurd hi e⟩
   frm:=⟨hid.os,hid.tape,hid.output,hid.size,fun b hb _=>hid.block b hb id⟩
   turned:=fun b hb=>Turned.off hs hgv hb
   own:=fun b hb=>Off.new (hs.give hgv) (by omega)
   loop:=hL1
   dfr:=hK1 }
 refine ⟨W.heap.size+1,[{ target:= .collected W.heap.size,args:= #[] }],W1,{ target:= .fn (.func f) lb,args:= #[.func (.yield (W.heap.size+1)) #[] #[]] },W1,f,
   #[.func (.yield (W.heap.size + 1)) #[] #[]] ++ lb, W1, ?_, ?_, fun _ _ => trivial, ?_, fun h => (by cases h), ?_⟩
 · rw[←hW1,hrec];exact run_enterLoop_outer _ _ _ _ _
 · simp only[resolve,hev]
   simp[go_sem]
 · simp[invoke,go_sem,l_s hcall]
 · refine (hit (m - 1) (W.heap.size+1) k β W1 lb (fun i W2=>∃k2 β2 σ2,Jl P k β σ W σd (rec .ready none) k2 β2 σ2 W2∧I i σ2) (fun W2=>∃k2 β2 σ2,Jl P k β σ W σd (rec .done (some .ret)) k2 β2 σ2 W2∧X σ2) hs1 ?_ ?_ ?_ ?_ ⟨_,_,_,j0,h0⟩).mono ?_
   · rw[←hlb];exact V.mono (fun _ h=>h) (fun _ _ h=>h) (hid.keep hs fun b hb=>hb.elim) hv
   · rintro i A B ⟨k2,β2,σ2,hj,hi⟩ hAB
     exact ⟨k2,β2,σ2,hj.idle hs hAB,hi⟩
   · rintro A B ⟨k2,β2,σ2,hj,hi⟩ hAB
     exact ⟨k2,β2,σ2,hj.idle hs hAB,hi⟩
   · rintro mm i s W2 hx ⟨k2,β2,σ2,hj,hi⟩
     rw[hrec] at hj ⊢
     exact a_lb (I:=I i) hm an h hnd hnb hp hd1 hd2 hn1 hn2 hj (hr i s σ2 hx hi)
   · have key : ∀ (W2 : World) k2 β2 σ2 st pe (Y : Store → Prop), Jl P k β σ W σd (rec st pe) k2 β2 σ2 W2 → Y σ2 →
         a_h1 P k0 β0 σ0 W0 n γ env a Y { a with defers:= [{ target:= .collected W.heap.size,args:= #[] }] } (W2.putObj (W.heap.size+1) (.loop (rec .exhausted pe))):=fun W2 k2 β2 σ2 st pe Y hj hy=>by
       have j2:=hj.put (rec':=rec .exhausted pe)
       exact ⟨W.heap.size,k2,β2,σ2,rfl,h.step j2.srel j2.ghost j2.frm,h.frm.size,j2.dfr,j2.own _ (.inl rfl),hy⟩
     rintro e W2 ⟨⟨v,rfl⟩,⟨k2,β2,σ2,hj,hi⟩ | ⟨k2,β2,σ2,hj,hx⟩⟩
     · have hrun:=run_endLoop (P:=P) hj.loop (by rw[hrec];simp)
       have hk:=key W2 k2 β2 σ2 _ _ _ hj hi
       rw[hrec] at hrun hk
       refine ⟨_,_,hrun,?_⟩
       rw[hdf]
       exact hq1 _ _ hk
     · have hrun:=run_endLoop (P:=P) hj.loop (by rw[hrec];simp)
       have hk:=key W2 k2 β2 σ2 _ _ _ hj hx
       rw[hrec] at hrun hk
       refine ⟨_,_,hrun,?_⟩
       rw[hdf]
       exact wpIn_ret (hq2 _ _ hk)
end
end
end Go.Fw
namespace Go.Proofs.YtfdffboelecgoaaGreatDoor
open Go.Proofs Go.RowKit Go.Shelf
open Go.Proofs.Tryz (prog)
section
theorem a_hw:(prog.info? 83).map (·.size) =some 2:=by kernel_rfl
theorem a_hn {P:Program}{fits:TypeId→Bool}{d e c c' off n:Nat}(h:c≤c')(hr:rowAt P fits d e c off n=true) :rowAt P fits d e c' off n=true:=by
 cases d with
 | zero=>exact hr
 | succ d=>
   unfold rowAt at hr ⊢
   simp only at hr ⊢
   split at hr
   · cases hr
   · rename_i hs
     rw[if_neg hs]
     rw[Bool.or_eq_true] at hr ⊢
     rcases hr with hr | hr
     · left
       simp only[Bool.and_eq_true] at hr ⊢
       exact ⟨⟨hr.1.1,decide_eq_true (Nat.le_trans (of_decide_eq_true hr.1.2) h)⟩,hr.2⟩
     · right
       rw[Bool.and_eq_true] at hr ⊢
       exact ⟨decide_eq_true (Nat.lt_of_lt_of_le (of_decide_eq_true hr.1) h),hr.2⟩
theorem u_q {P:Program}{e c c' off:Nat}(h:c≤c') :∀{d u n:Nat},liesAt P d e c off u n=true→liesAt P d e c' off u n=true
 | 0,_,_,hr=>hr
 | d+1,u,n,hr=>by
   unfold liesAt at hr ⊢
   rw[Bool.or_eq_true] at hr ⊢
   rcases hr with hr | hr
   · exact .inl (a_hn h hr)
   · right
     split at hr
     · exact u_q h hr
     · cases hr
theorem w_6:prog.cellsOf 85=2:=by kernel_rfl
theorem a_mx {n:Nat}(h:2≤n) :liesAt prog prog.depth 85 (n / prog.cellsOf 85) 0 83 1=true:=by
 rw[w_6]
 exact u_q (show 1≤n / 2 by omega) (by kernel_rfl)
set_option maxHeartbeats 1000000 in
set_option maxRecDepth 100000 in
theorem x_n (b:Nat)(w:World)(h0:w.cell? ⟨b,0,none⟩ =some (.pointer (some ⟨b,0,none⟩))) :
   Calls prog 107 #[.pointer (some ⟨b,0,none⟩)] w fun e w'=>e= .returned (.tuple #[])∧w'=w:=by
 obtain ⟨j,hj,_⟩:=Option.map_eq_some_iff.1 a_hw
 go_enter Tryz.func107,Tryz.ntmps107
 go_wp2
 rw[Lib.run_neq_ptr_same w _ Tryz.underlying81 hj]
 go_wp2
 go_end0
 exact ⟨rfl,rfl⟩
set_option maxHeartbeats 1000000 in
set_option maxRecDepth 100000 in
theorem v_w (b:Nat)(w:World)(h0:w.cell? ⟨b,0,none⟩ =some (.pointer none)){n:Nat}(hn:2≤n)(hsh:w.shape? b=some (85,n))(hfz:w.frozen? ⟨b,0,none⟩ =false) :
   Calls prog 107 #[.pointer (some ⟨b,0,none⟩)] w fun e w'=>e= .returned (.tuple #[])∧w'=w.setCell ⟨b,0,none⟩ (.pointer (some ⟨b,0,none⟩)):=by
 obtain ⟨j,hj,hjs⟩:=Option.map_eq_some_iff.1 a_hw
 go_enter Tryz.func107,Tryz.ntmps107
 go_wp2
 rw[Lib.run_to_unsafe w ⟨b,0,none⟩ Tryz.underlying81 Tryz.underlying183 hj (by rw[hjs];decide) hsh (show 0 < n by omega)]
 simp only[Result.andThen]
 rw[Oper.upon_value]
 go_wp2
 rw[run_callFunc_extern Tryz.func136 (by kernel_rfl) (by kernel_rfl) (by kernel_rfl) (e:=Extern.AbiNoEscape.same) (by kernel_rfl)]
 rw[Lib.run_noEscape]
 simp only[Result.andThen]
 rw[Oper.upon_value]
 go_wp2
 rw[Lib.run_from_unsafe w ⟨b,0,none⟩ Tryz.underlying183 Tryz.underlying81 hj hsh (a_mx hn)]
 simp only[Result.andThen]
 rw[Oper.upon_value]
 go_wp2
 go_end0
 exact ⟨rfl,rfl⟩
open Go.Fw
variable {σ:Store}
theorem a_dv {W:World}{b:Nat}{arr:Array Value}{t:TypeId}{fz:Nat × Nat}(h:W.heap[b]? =some (.cells arr t fz))(h0:0 < arr.size){v:Value}{m:Nat} :
   W.setCell ⟨b,0,none⟩ v=W.setRow b (arr.toList.take (0 * m+0) ++ [v] ++ arr.toList.drop (0 * m+0+ [v].length)).toArray:=by
 have e1:(arr.toList.take (0 * m+0) ++ [v] ++ arr.toList.drop (0 * m+0+ [v].length)).toArray=arr.setIfInBounds 0 v:=by
   apply Array.toList_inj.1
   obtain ⟨l⟩:=arr
   cases l with
   | nil=>exact absurd h0 (by simp)
   | cons x r=>simp only[Nat.zero_mul,Nat.zero_add,List.take_zero,List.nil_append,List.length_singleton,List.drop_succ_cons,List.drop_zero,Array.toList_setIfInBounds,List.set_cons_zero,List.singleton_append]
 rw[e1]
 have hlt:b < W.heap.size:=(Array.getElem?_eq_some_iff.1 h).1
 have hv:W.heap[b]= .cells arr t fz:=(Array.getElem?_eq_some_iff.1 h).2
 have e2:(W.setCell ⟨b,0,none⟩ v).heap=(W.setRow b (arr.setIfInBounds 0 v)).heap:=by
   apply Array.ext_getElem?
   intro m
   simp only[World.setCell,World.setRow,Array.getElem?_modify]
   by_cases e:b=m
   · rw[if_pos e,if_pos e,←e,Array.getElem?_eq_getElem hlt,hv]
     rfl
   · rw[if_neg e,if_neg e]
 exact congrArg (fun x=>({ W with heap:=x } :World)) e2
theorem a_ay {id:Nat}{p d:D}(h:σ id= .live b_z [[p,d]])(hp:p= .nilp∨p= .el (.osl id 0 1) 0 0) :
   DCalls prog b_5 [.one (.el (.osl id 0 1) 0 0)] σ fun r σ'=>r= .tup []∧σ'=σ.set id (.live b_z [[.el (.osl id 0 1) 0 0,d]]):=by
 refine ⟨by kernel_rfl,fun k β W vs hS hsz hv=>?_⟩
 obtain ⟨v,rfl,hV⟩:=o_n hsz hv
 have hV:V k β W v (.el (.osl id 0 1) 0 0):=hV
 cases hV with
 | elosl _ _ _ _ _ bi hb hi=>
   obtain ⟨arr,g1,g2,g3,g4,g5,g6,g7⟩:=hS.obj id bi _ _ hb h
   have hes:bi.es=2:=by rw[←g3];exact w_6
   obtain ⟨v0,hv0,hV0⟩:=g7 0 [p,d] 0 p rfl rfl
   obtain ⟨v1,hv1,hV1⟩:=g7 0 [p,d] 1 d rfl rfl
   have hsz2:2≤arr.size:=by rw[hes] at g4;simpa using g4
   have c0:W.cell? ⟨bi.blk,0,none⟩ =some v0:=by rw[cell_of_heap g1];simpa using hv0
   have e0:(0+0) * bi.es+0=0:=by simp
   rw[e0]
   have hself:V k β W (.pointer (some ⟨bi.blk,0,none⟩)) (.el (.osl id 0 1) 0 0):=by
     have:=V.elosl (k:=k) (W:=W) id 0 1 0 0 bi hb (by omega)
     rwa [e0] at this
   rcases hp with rfl | rfl
   · cases hV0
     have hw:W.setCell ⟨bi.blk,0,none⟩ (.pointer (some ⟨bi.blk,0,none⟩)) =W.setRow bi.blk (arr.toList.take (0 * bi.es+0) ++ [Value.pointer (some ⟨bi.blk,0,none⟩)] ++ arr.toList.drop (0 * bi.es+0+ [Value.pointer (some ⟨bi.blk,0,none⟩)].length)).toArray:=
       a_dv g1 (by omega)
     refine (v_w bi.blk W c0 hsz2 (by simp[World.shape?,g1]) (by simp[World.frozen?,g1])).mono ?_
     rintro e W' ⟨rfl,rfl⟩
     rw[hw]
     have hS2:=hS.setRow hb h (r:=0) (row:= [.nilp,d]) rfl (off:=0) (us:= [.pointer (some ⟨bi.blk,0,none⟩)]) (ys:= [.el (.osl id 0 1) 0 0]) ⟨rfl,fun i v d hv hd=>by
       match i,hv,hd with
       | 0,hv,hd=>cases hv;cases hd;exact hself
       | i+1,hv,hd=>simp at hv⟩ (by simp) g1
     have hne:σ id≠ .dead:=by rw[h];intro e;cases e
     refine ⟨.tuple #[], .tup [],_,k,β,rfl,⟨rfl,rfl⟩,⟨#[],rfl,rfl,fun i u x hu=>by simp at hu⟩,hS2,⟨fun _ h=>h,fun _ h=> .inl h,fun _ _ h=>h,fun _ _ h=> .inl h,fun i hi=>?_⟩,⟨rfl,rfl,rfl,by rw[setRow_size];exact Nat.le_refl _,fun b hb' hn=>a_z _ _ _ _ fun e=>hn id bi hb hne e.symm⟩⟩
     rw[Store.set_ne _ _ (by intro e;subst e;exact hne hi)];exact hi
   · have : v0 = .pointer (some ⟨bi.blk, 0, none⟩) := by
       cases hV0 with
       | elosl _ _ _ _ _ bi' hb' _=>
         rw[hb] at hb';cases hb'
         simp
     subst this
     refine (x_n bi.blk W c0).mono ?_
     rintro e W' ⟨rfl,rfl⟩
     refine ⟨.tuple #[], .tup [],σ,k,β,rfl,⟨rfl,?_⟩,⟨#[],rfl,rfl,fun i u x hu=>by simp at hu⟩,hS,Ghost.refl _ _ _ _,Frm.refl _ _ _⟩
     funext i
     unfold Store.set
     split
     · rename_i hi;rw[hi,h]
     · rfl
end
section
theorem a_dp (w:World)(g n:Nat) :Fw.Idle (fun x=>x=g) w (w.drew.freeze ⟨g,0,none⟩ n):=by
 unfold World.freeze
 split
 · exact ⟨rfl,rfl,rfl,Nat.le_refl _,fun _ _ _=>rfl⟩
 · refine ⟨rfl,rfl,rfl,by simp,fun x hx hn=>?_⟩
   simp only[Array.getElem?_modify]
   rw[if_neg (show ¬g=x from fun e=>hn e.symm)]
   rfl
set_option maxHeartbeats 1000000 in
set_option maxRecDepth 100000 in
theorem a_i5 (b g cap:Nat)(w:World)(l:List UInt8)(cur:Array Value)(h0:l≠[])(hb:w.cell? ⟨b,1,none⟩ =some (.slice (some ⟨g,0,none⟩) l.length cap))(hg:w.heap[g]? =some (.cells cur 5 (0,0)))
   (hc:∀(j:Nat) x,l[j]? =some x→cur[j]? =some (.int .u8 x.toNat)) (hcs:l.length≤cur.size) (hlc:l.length≤cap) (hsz:l.length≤140737488355328) :
   Calls prog 49 #[.pointer (some ⟨b,0,none⟩)] w fun e w'=>e= .returned (.string ⟨l.toArray⟩)∧Fw.Idle (fun x=>x=g) w w':=by
 have hl0:l.length≠0:=by simpa using h0
 have c1:w.drew.cell? ⟨b,1,none⟩ =some (.slice (some ⟨g,0,none⟩) l.length cap):=hb
 have hSD:(Builtin.unsafeSliceData_ #[72] 138 #[.slice (some ⟨g,0,none⟩) l.length cap]).run prog w.drew= .ok (.pointer (some ⟨g,0,none⟩)) w.drew:=
   Lib.run_unsafeSliceData_row _ _ _ _ _ _ (by omega)
 have hUS:(Builtin.unsafeString_ #[138,3] 9 #[.pointer (some ⟨g,0,none⟩), .int .i64 l.length]).run prog w.drew= .ok (.string ⟨l.toArray⟩) (w.drew.freeze ⟨g,0,none⟩ l.length):=by
   refine Lib.run_unsafeString_row w.drew 138 3 9 5 Tryz.underlying138 (by kernel_rfl) g cur.size (by have hg':w.drew.heap[g]? =some (.cells cur 5 (0,0)):=hg;simp[World.shape?,hg']) l h0 (by omega) (by omega) ?_
   intro j x hx
   have:=hc j x hx
   have hg':w.drew.heap[g]? =some (.cells cur 5 (0,0)):=hg
   rw[Fw.add_mk,Fw.cell_of_heap hg',Nat.zero_add]
   exact this
 have mixed:prog.follows .mixedOrders=true:=by kernel_rfl
 go_enter Tryz.func49,Tryz.ntmps49
 go_wp2
 go_region_o
 all_goals (go_wp2;go_ret;exact ⟨rfl,a_dp w g _⟩)
open Go.Fw
variable {σ:Store}
def b_t (b:UInt8) :List D:= [.int .u8 b.toNat]
theorem a_jz {id bid:Nat}{p:D}{rows:List (List D)}{l:List UInt8}(h:σ id= .live b_z [[p, .osl bid 0 l.length]])(hb:σ bid= .live a_s rows)(hr:rows.take l.length=l.map b_t)(h0:l≠[])(hsz:l.length≤140737488355328) :
   DCalls prog d_l [.one (.el (.osl id 0 1) 0 0)] σ fun r σ'=>r= .a (sA (a_q l))∧σ'=σ.set bid .dead:=by
 refine ⟨by kernel_rfl,fun k β W vs hS hvs hv=>?_⟩
 obtain ⟨v,rfl,hV⟩:=o_n hvs hv
 have hV:V k β W v (.el (.osl id 0 1) 0 0):=hV
 have hl0:0 < l.length:=List.length_pos_iff.2 h0
 cases hV with
 | elosl _ _ _ _ _ bi hbi hi=>
   obtain ⟨arr,g1,g2,g3,g4,g5,g6,g7⟩:=hS.obj id bi _ _ hbi h
   have hes:bi.es=2:=by rw[←g3];exact w_6
   obtain ⟨v1,hv1,hV1⟩:=g7 0 [p, .osl bid 0 l.length] 1 _ rfl rfl
   have e0:(0+0) * bi.es+0=0:=by simp
   rw[e0]
   cases hV1 with
   | osl _ _ _ cap a bj hbj ha hlc hs hcm=>
     have ha:=ha (by omega)
     subst ha
     obtain ⟨cur,q1,q2,q3,q4,q5,q6,q7⟩:=hS.obj bid bj _ _ hbj hb
     have hes2:bj.es=1:=by rw[←q3];exact c_uint8
     have hrl:l.length≤rows.length:=by
       have:=congrArg List.length hr
       simp at this;omega
     have c1:W.cell? ⟨bi.blk,1,none⟩ =some (.slice (some ⟨bj.blk,0,none⟩) l.length cap):=by
       rw[cell_of_heap g1];simpa using hv1
     rw[hes2] at q4 q7
     refine (a_i5 bi.blk bj.blk cap W l cur h0 c1 q1 (fun j x hx=>?_) (by omega) hlc hsz).mono ?_
     · have hrj : rows[j]? = some (b_t x) := by
         have hj:=(List.getElem?_eq_some_iff.1 hx).1
         have:(rows.take l.length)[j]? =some (b_t x):=by rw[hr];simp[hx]
         rwa [List.getElem?_take_of_lt hj] at this
       obtain ⟨u,hu,hVu⟩:=q7 j (b_t x) 0 _ hrj rfl
       rw[V.inv_int hVu] at hu
       simpa using hu
     · rintro e W' ⟨rfl,hid⟩
       have hne:σ bid≠ .dead:=by rw[hb];intro e;cases e
       have hgv:Given σ (σ.set bid .dead):=fun i=>by
         by_cases e:i=bid
         · subst e;exact .inr ⟨hne,(by rw[hb];intro e;cases e),Store.set_same _ _ _⟩
         · exact .inl (Store.set_ne _ _ e)
       have ht:Turned β σ (σ.set bid .dead) bj.blk:=⟨bid,bj,hbj,hne,Store.set_same _ _ _,rfl⟩
       refine ⟨_, .a (sA (a_q l)),_,k,β,rfl,⟨rfl,rfl⟩,V.str _,(hS.give hgv).idle hid (fun b e=>by subst e;exact Turned.off hS hgv ht),⟨fun _ h=>h,fun _ h=> .inl h,fun _ _ h=>h,fun _ _ h=> .inl h,fun i hi=>?_⟩,?_⟩
       · rcases hgv i with e | ⟨e,_,_⟩
         · rw[e];exact hi
         · exact absurd hi e
       · exact (Frm.refl β σ W).idle hid fun b e _=>by subst e;exact ⟨bid,bj,hbj,hne,rfl⟩
end
end Go.Proofs.YtfdffboelecgoaaGreatDoor
namespace Go.Fw
section
section
variable {P:Program} {k k' k0 k2:Nat→Prop} {β β' β0 β2:Bk} {σ σ' σ0 σd σ2:Store} {W W' W'' W0 W2:World} {B B':Nat→Prop} {b n:Nat} {γ γ2:Nat→Nat} {env env2:Env} {a:Act} {tmps tmps2:Array Value}
def g_e:Code→Bool
 | .rangeFunc .. =>true
 | .seq x y=>g_e x || g_e y
 | .cond _ x y=>g_e x || g_e y
 | .block _ c=>g_e c
 | .loop c=>g_e c
 | _=>false
def NthB (xs:List ByteArray)(i:Nat)(s:ByteArray) :Prop:=xs[i]? =some s
def a_fz (P:Program)(an:Ann)(g:Operand)(ps:Array Tmp)(assign body:Code)(Qx:Exit→a_4) :a_4:=fun env σ=>
 match g,ps.toList with
 | .tmp gt,[p]=>match j_0 assign,j_0 body with
   | true,true=>∃(f:FuncId) (caps:List (Bool × List D)) (σd:Store) (xs:List ByteArray) (I:Nat→Store→Prop) (X:Store→Prop),get (clE env) gt= .val (.one (.fn f [] caps))∧a_hs P f caps σ σd xs∧I 0 σd∧
     (∀(i:Nat) (s:ByteArray) (s0:Store),NthB xs i s→I i s0→dwp P an assign (fun e env1 s1=>match e with
       | .normal=>dwp P an body (fun e _ s2=>match e with | .normal=>I (i+1) s2 | .ret=>X s2 | _=>False) (clE env1) s1
       | _=>False) (a_t (clE env) p (.val (.one (.str s)))) s0)∧
     (∀s:Store,I xs.length s→Qx .normal (clE env) s)∧∀s:Store,X s→Qx .ret (clE env) s
   | _,_=>False
 | _,_=>False
def dwpX (P:Program)(an:Ann)(n:Nat) :Code→(Exit→a_4)→a_4
 | .seq x y,Qx=>match g_e x with
   | true=>dwpX P an n x (m_d (fun env σ=>dwp P an y Qx (clE env) σ) Qx)
   | false=>dwp P an x (m_d (dwpX P an n y Qx) Qx)
 | .block id c,Qx=>dwpX P an n c (i_t id Qx)
 | .rangeFunc g ps assign body,Qx=>a_fz P an g ps assign body Qx
 | _,_=>fun _ _=>False
def OutR (P:Program)(k0:Nat→Prop)(β0:Bk)(σ0:Store)(W0:World)(n:Nat)(Qx:Exit→a_4) :Exit→Act→World→Prop:=fun e a' W'=>
 ∃env' σ' k' β' γ',Qx e env' σ'∧RelX P k0 β0 σ0 W0 n k' β' γ' a'.tmps W' env' σ'∧ND env'∧
   (a'.defers=[]∨∃D,a'.defers=[{ target:= .collected D,args:= #[] }]∧W0.heap.size≤D∧W'.heap[D]? =some (.deferred (some []))∧Off k' β' σ' D)
theorem OutR.mono {Q Q':Exit→a_4}{e e':Exit}{a':Act}(hq:∀env σ,Q e env σ→Q' e' env σ)(h:OutR P k0 β0 σ0 W0 n Q e a' W') :OutR P k0 β0 σ0 W0 n Q' e' a' W':=by
 obtain ⟨env',σ',k',β',γ',h1,h2⟩:=h
 exact ⟨env',σ',k',β',γ',hq _ _ h1,h2⟩
theorem OutR.of {S:Nat→Prop}{env0:Env}{Q:Exit→a_4}{e:Exit}{a':Act}(h:OutX [] P k0 β0 σ0 W0 n S env0 Q e a' W') :OutR P k0 β0 σ0 W0 n Q e a' W':=by
 obtain ⟨env',σ',h1,⟨⟨h2,k',β',γ',h3⟩,h4⟩,_⟩:=h
 exact ⟨env',σ',k',β',γ',h1,h3,h4, .inl h2⟩
theorem RelX.flat (h0:RelX P k0 β0 σ0 W0 n k β γ tmps W env σ)(h:RelX P k β σ W n k2 β2 γ2 tmps2 W2 env2 σ2) :RelX P k0 β0 σ0 W0 n k2 β2 γ2 tmps2 W2 env2 σ2 where
 srel:=h.srel
 slot:=h.slot
 box s cs hb:=by
   obtain ⟨h1,h2,h3,h4,h5⟩:=h.box s cs hb
   exact ⟨h1,h2,h3,Nat.le_trans h0.frm.size h4,h5⟩
 inj:=h.inj
 ghost:=h0.ghost.trans h0.frm.size h.ghost
 frm:=h0.frm.trans h0.ghost h.frm
 size:=h.size
theorem v_2 (hm:P.follows .mixedOrders=true)(an:Ann)(m:Nat) :
   ∀(c:Code) (Qx:Exit→a_4) (a:Act) (W:World) (env:Env) (σ:Store),(∀d ∈ e_8 c,d < n)→Rel [] P k0 β0 σ0 W0 n a W env σ∧ND env→dwpX P an n c Qx env σ→
     c.wpIn Fence.wide m P (OutR P k0 β0 σ0 W0 n Qx) a W
 | .seq x y,Qx,a,W,env,σ,hd,hr,h=>by
   have hdx:∀d ∈ e_8 x,d < n:=fun d hd'=>hd d (by simp[e_8,hd'])
   have hdy:∀d ∈ e_8 y,d < n:=fun d hd'=>hd d (by simp[e_8,hd'])
   have h:(match g_e x with
     | true=>dwpX P an n x (m_d (fun env σ=>dwp P an y Qx (clE env) σ) Qx)
     | false=>dwp P an x (m_d (dwpX P an n y Qx) Qx)) env σ:=h
   cases hx:g_e x with
   | true=>
     rw[hx] at h
     refine wpIn_seq (wpIn_mono (v_2 hm an m x _ a W env σ hdx hr h) fun e a1 W1 he=>?_)
     cases e with
     | normal=>
       obtain ⟨env1,σ1,k1,β1,γ1,q1,q2,q3,q4⟩:=he
       have q2:=q2.clean
       have q3:=a_gc env1
       have hb:=q2.anew (k_m env1) q2.srel (Ghost.refl _ _ _ _) fun _ _=>rfl
       refine wpIn_wide.2 (Code.wp_mono (fun e a2 W2 he2=>?_) (a_gr (df:=a1.defers) hm an y Qx a1 W1 (clE env1) σ1 hdy ⟨⟨rfl,_,_,_,hb⟩,q3⟩ q1))
       obtain ⟨env2,σ2,r1,⟨⟨r2,k2,β2,γ2,r3⟩,r4⟩,_⟩:=he2
       refine ⟨env2,σ2,k2,β2,γ2,r1,q2.flat r3,r4,?_⟩
       rw[r2]
       rcases q4 with q4 | ⟨D,q4,q5,q6,q7⟩
       · exact .inl q4
       · have hlt:D < W1.heap.size:=(Array.getElem?_eq_some_iff.1 q6).1
         exact .inr ⟨D,q4,q5,(r3.frm.block D hlt q7.2).trans q6,q7.ghost hlt r3.ghost⟩
     | _=>exact he.mono fun _ _ h=>h
   | false=>
     rw[hx] at h
     refine wpIn_seq (wpIn_mono (wpIn_wide.2 (a_gr hm an x _ a W env σ hdx hr h)) fun e a1 W1 he=>?_)
     cases e with
     | normal=>
       obtain ⟨env1,σ1,q1,q2,_⟩:=he
       exact v_2 hm an m y Qx a1 W1 env1 σ1 hdy q2 q1
     | _=>exact (OutR.of he).mono fun _ _ h=>h
 | .block id c,Qx,a,W,env,σ,hd,hr,h=>by
   refine wpIn_block (wpIn_mono (v_2 hm an m c (i_t id Qx) a W env σ hd hr h) fun e a1 W1 he=>?_)
   cases e with
   | exit id'=>
     simp only[Exit.inBlock]
     by_cases h1:id'=id
     · rw[if_pos h1]
       exact he.mono fun _ _ h=>by simpa[i_t,h1] using h
     · rw[if_neg h1]
       exact he.mono fun _ _ h=>by simpa[i_t,h1] using h
   | _=>exact he.mono fun _ _ h=>h
 | .rangeFunc g ps assign body,Qx,a,W,env,σ,hd,hr,h=>by
   obtain ⟨⟨hdf,k,β,γ,hX⟩,hnd⟩:=hr
   have hX:=hX.clean
   have hnd:=a_gc env
   have h1:=k_m env
   have h:a_fz P an g ps assign body Qx env σ:=h
   unfold a_fz at h
   split at h
   · rename_i p hps _
     split at h
     · rename_i h2 h3
       obtain ⟨f,caps,σd,xs,I,X,h4,h5,h6,h7,h8,h9⟩:=h
       have hps:ps= #[p]:=by
         have:=congrArg List.toArray hps
         simpa using this
       subst hps
       have fin:∀(e:Exit) (Y:Store→Prop) a' W',(∀s,Y s→Qx e (clE env) s)→a_h1 P k0 β0 σ0 W0 n γ (clE env) a Y a' W'→OutR P k0 β0 σ0 W0 n Qx e a' W':=by
         rintro e Y a' W' hY ⟨D,k',β',σ',rfl,r1,r2,r3,r4,r5⟩
         exact ⟨clE env,σ',k',β',γ,hY _ r5,r1,hnd, .inr ⟨D,rfl,r2,r3,r4⟩⟩
       exact a_l6 hm an hX hnd h1 hdf (hd p (by simp[e_8])) (fun d hd'=>hd d (by simp[e_8,hd'])) (fun d hd'=>hd d (by simp[e_8,hd'])) h2 h3 h4 h5 h6 h7 (fun a' W'=>fin _ _ a' W' h8) (fun a' W'=>fin _ _ a' W' h9)
     · exact h.elim
   · exact h.elim
 | .skip,_,_,_,_,_,_,_,h=>h.elim
 | .region ..,_,_,_,_,_,_,_,h=>h.elim
 | .cond ..,_,_,_,_,_,_,_,h=>h.elim
 | .loop _,_,_,_,_,_,_,_,h=>h.elim
 | .label _,_,_,_,_,_,_,_,h=>h.elim
 | .exit _,_,_,_,_,_,_,_,h=>h.elim
 | .goto _,_,_,_,_,_,_,_,h=>h.elim
 | .ret,_,_,_,_,_,_,_,h=>h.elim
 | .scope _,_,_,_,_,_,_,_,h=>h.elim
 | .refuse _,_,_,_,_,_,_,_,h=>h.elim
def a_ki (P:Program)(σ:Store)(env:Env) :ResultVar→A→Prop
 | .tmp t,x=>toA (opE env (.tmp t)) =some x
 | .cell t ty, x => ∃ s i off row cs, opE env (.tmp t) = .el s i off ∧ Row σ s i row ∧ (row.drop off).take (P.cellsOf ty) = cs ∧ cs.length = P.cellsOf ty ∧
     ((b_k P ty=some true∧x= .agg cs)∨(b_k P ty=some false∧∃d,cs=[d]∧x= .one d))
def ress (P:Program)(σ:Store)(env:Env) :List ResultVar→List A→Prop
 | [],as0=>as0=[]
 | r::rs,as0=>∃x xs,as0=x::xs∧a_ki P σ env r x∧ress P σ env rs xs
def resK (P:Program)(σ:Store)(env:Env)(r:ResultVar)(K:A→Prop) :Prop:=match r with
 | .tmp t=>match toA (opE env (.tmp t)) with | some x=>K x | none=>False
 | .cell t ty=>match opE env (.tmp t),b_k P ty,zeroCells P ty with
   | .el s i off,some true,some zs=>match decide (zs.length=P.cellsOf ty) with
     | true=>∃row:List D,Row σ s i row∧t_b zs (fun r=>r) fun cs=>(row.drop off).take zs.length=cs∧K (.agg cs)
     | false=>False
   | .el s i off,some false,some [z]=>match decide (1=P.cellsOf ty) with
     | true=>∃row:List D,Row σ s i row∧t_b [z] (fun r=>r) fun cs=>(row.drop off).take 1=cs∧match cs with | [d]=>K (.one d) | _=>False
     | false=>False
   | _,_,_=>False
def a_in (P:Program)(σ:Store)(env:Env) :List ResultVar→(List A→Prop)→Prop
 | [],K=>K []
 | r::rs,K=>resK P σ env r fun x=>a_in P σ env rs fun xs=>K (x::xs)
theorem a_nm {env:Env}{r:ResultVar}{K:A→Prop}(h:resK P σ env r K) :∃x,a_ki P σ env r x∧K x:=by
 unfold resK at h
 split at h
 · split at h
   · rename_i x hx;exact ⟨x,hx,h⟩
   · exact h.elim
 · split at h
   · rename_i e1 e2 e3
     split at h
     · rename_i hd
       obtain ⟨row,hr,h⟩:=h
       obtain ⟨cs,hl,h1,h2⟩:=j_f h
       have hd:=of_decide_eq_true hd
       exact ⟨.agg cs,⟨_,_,_,row,cs,e1,hr,by rw[←hd];exact h1,by rw[hl];exact hd, .inl ⟨e2,rfl⟩⟩,h2⟩
     · exact h.elim
   · rename_i e1 e2 e3
     split at h
     · rename_i hd
       obtain ⟨row,hr,h⟩:=h
       obtain ⟨cs,hl,h1,h2⟩:=j_f h
       have hd:=of_decide_eq_true hd
       match cs,hl,h1,h2 with
       | [d],_,h1,h2=>exact ⟨.one d,⟨_,_,_,row,[d],e1,hr,by rw[←hd];exact h1,by rw[←hd];rfl, .inr ⟨e2,d,rfl,rfl⟩⟩,h2⟩
       | [],_,_,h2=>exact h2.elim
       | _::_::_,_,_,h2=>exact h2.elim
     · exact h.elim
   · exact h.elim
theorem a_dx {env:Env} :∀(rs:List ResultVar) (K:List A→Prop),a_in P σ env rs K→∃xs,ress P σ env rs xs∧K xs
 | [],K,h=>⟨[],rfl,h⟩
 | r::rs,K,h=>by
   obtain ⟨x,h1,h2⟩:=a_nm h
   obtain ⟨xs,h3,h4⟩:=a_dx rs _ h2
   exact ⟨x::xs,⟨x,xs,rfl,h1,h3⟩,h4⟩
def retS (P:Program)(fn:Func)(Q:RV→Store→Prop) :Exit→a_4
 | .normal,env,σ | .ret,env,σ=>a_in P σ (clE env) fn.results.toList fun as0=>match as0 with | [a]=>Q (.a a) σ | as0=>Q (.tup as0) σ
 | _,_,_=>False
theorem a_od (h:RelX P k0 β0 σ0 W0 n k β γ tmps W env σ){r:ResultVar}{x:A}(hr:a_ki P σ env r x) :∃u,(q_5 tmps r).run P W= .ok u W∧VA k β W u x:=by
 cases r with
 | tmp t=>exact ⟨_,rfl,h_o (a_o h { tmps:=tmps,defers:= [] } rfl (.tmp t) 0).1 hr⟩
 | cell t ty=>
   obtain ⟨s,i,off,row,cs,he,hrow,hcs,hl,hx⟩:=hr
   have hev:=(a_o h { tmps:=tmps,defers:= [] } rfl (.tmp t) 0).1
   rw[he] at hev
   have hev:V k β W (tmps.getD t undef) (.el s i off):=hev
   obtain ⟨b,o',vals,hv,hvl,hVL,hcell⟩:=a_ii h.srel hev hrow hcs hl
   have hrun:∀u,(loadVar ty ⟨b,o',none⟩).run P W= .ok u W→(q_5 tmps (.cell t ty)).run P W= .ok u W:=by
     intro u hu
     unfold q_5
     simp only[hv,asAddr,pure_bind]
     exact hu
   rcases hx with ⟨hagg,rfl⟩ | ⟨hagg,d,rfl,rfl⟩
   · obtain ⟨r1,_⟩:=j_l (P:=P) hagg hvl hcell
     exact ⟨_,hrun _ (r1 rfl),_,rfl,hVL⟩
   · obtain ⟨_,r2⟩:=j_l (P:=P) hagg hvl hcell
     match vals,hVL with
     | [u],hVL=>exact ⟨u,hrun _ (r2 u rfl rfl),hVL.2 0 u d rfl rfl⟩
     | [],hVL=>exact absurd hVL.1 (by simp)
     | _::_::_,hVL=>exact absurd hVL.1 (by simp)
theorem a_fd (h:RelX P k0 β0 σ0 W0 n k β γ tmps W env σ) :∀(rs:List ResultVar) (as0:List A),ress P σ env rs as0→
   ∃vs:List Value,(rs.mapM (q_5 tmps)).run P W= .ok vs W∧vs.length=as0.length∧∀(i:Nat) v x,vs[i]? =some v→as0[i]? =some x→VA k β W v x
 | [],as0,hd=>by subst hd;exact ⟨[],rfl,rfl,fun i v x hv=>by simp at hv⟩
 | r::rs,as0,hd=>by
   obtain ⟨x,xs,rfl,h1,h2⟩:=hd
   obtain ⟨u,hu,hva⟩:=a_od h h1
   obtain ⟨vs,q1,q2,q3⟩:=a_fd h rs xs h2
   refine ⟨u::vs,p_t hu q1,by simp[q2],fun i v y hv hy=>?_⟩
   cases i with
   | zero=>simp only[List.getElem?_cons_zero,Option.some.injEq] at hv hy;subst hv hy;exact hva
   | succ i=>exact q3 i v y (by simpa using hv) (by simpa using hy)
theorem RelX.idle (h:RelX P k0 β0 σ0 W0 n k β γ tmps W env σ)(hnb:NoBx env)(g:Idle B W W2)(ho:∀b,B b→Off k β σ b)(hn:∀b,B b→W0.heap.size≤b) :RelX P k0 β0 σ0 W0 n k β γ tmps W2 env σ where
 srel:=h.srel.idle g ho
 slot s:=(h.slot s).mono (fun _ h=>h) (fun _ _ h=>h) (g.keep h.srel fun b hb=>(ho b hb).1)
 box s cs hb:=absurd hb (hnb s cs)
 inj s s' cs cs' hb:=absurd hb (hnb s cs)
 ghost:=h.ghost
 frm:=h.frm.idle g fun b hb hlt=>by have:=hn b hb;omega
 size:=h.size
def a_ll (P:Program)(fn:Func)(an:Ann)(args:List A)(σ:Store)(Q:RV→Store→Prop) :Prop:=
 match fn.body with
 | some c=>match (e_8 c).all (fun d=>Nat.blt d fn.ntmps),Nat.ble args.length fn.ntmps with
   | true,true=>dwpX P an fn.ntmps c (retS P fn Q) (d_q 0 args) σ
   | _,_=>False
 | none=>False
theorem v_p {f:FuncId}{fn:Func}{args:List A}{Q:RV→Store→Prop}(hm:P.follows .mixedOrders=true)(hok:g_p P f=true)(hf:P.funcs[f]? =some fn)(an:Ann)
   (h:a_ll P fn an args σ Q) :DCalls P f args σ Q:=by
 refine ⟨hok,fun k β W vs hS hsz hv=>?_⟩
 unfold a_ll at h
 split at h
 · rename_i c hb
   obtain ⟨hd,hm',h⟩ :(∀d ∈ e_8 c,d < fn.ntmps)∧args.length≤fn.ntmps∧dwpX P an fn.ntmps c (retS P fn Q) (d_q 0 args) σ:=by
     split at h
     · rename_i hd hm'
       exact ⟨fun d hd'=>by have:=List.all_eq_true.1 hd d hd';exact Nat.lt_of_succ_le (Nat.le_of_ble_eq_true this),Nat.le_of_ble_eq_true hm',h⟩
     · exact h.elim
   obtain ⟨hr,hnd⟩:=a_d6 hS hm' hsz hv
   refine callsIn_wide.1 (callsIn_of_wp_marks (n:=0) hf hb trivial (wpIn_mono (v_2 hm an 0 c (retS P fn Q) _ W (d_q 0 args) σ hd ⟨hr,hnd⟩ h) fun e a' W' hq=>?_))
   obtain ⟨env',σ',k',β',γ',q1,q3,_,q4⟩:=hq
   have q3:=q3.clean
   have hnb:=k_m env'
   have fin : (a_in P σ' (clE env') fn.results.toList fun as0 => match as0 with | [a] => Q (.a a) σ' | as0 => Q (.tup as0) σ') →
       LeavesInM Fence.wide 0 P fn a'.tmps (fun e W'=>∃v r σ' k' β',e= .returned v∧Q r σ'∧VR k' β' W' v r∧SRel P k' β' W' σ'∧Ghost k β σ W k' β' σ'∧Frm β σ W W') a'.defers .returning W':=by
     intro hK
     obtain ⟨as0,hres,q1⟩:=a_dx _ _ hK
     have main:∀W2,RelX P k β σ W fn.ntmps k' β' γ' a'.tmps W2 (clE env') σ'→LeavesInM Fence.wide 0 P fn a'.tmps (fun e W'=>∃v r σ' k' β',e= .returned v∧Q r σ'∧VR k' β' W' v r∧SRel P k' β' W' σ'∧Ghost k β σ W k' β' σ'∧Frm β σ W W') [] .returning W2:=by
       intro W2 hX
       obtain ⟨vs',r1,r2,r3⟩:=a_fd hX fn.results.toList as0 hres
       have hrun:(fn.results.mapM (q_5 a'.tmps)).run P W2= .ok vs'.toArray W2:=by
         have e1:fn.results=fn.results.toList.toArray:=by simp
         rw[e1,List.mapM_toArray]
         show ((fn.results.toList.mapM (q_5 a'.tmps)) >>= fun x=>pure x.toArray).run P W2=_
         rw[Sem.run_bind,r1]
         rfl
       have hrr:(results fn a'.tmps).run P W2= .ok (if h:vs'.toArray.size=1 then vs'.toArray[0] else .tuple vs'.toArray) W2:=by
         show ((fn.results.mapM (q_5 a'.tmps)) >>= fun vs=>pure (if h:vs.size=1 then vs[0] else .tuple vs)).run P W2=_
         rw[Sem.run_bind,hrun]
         rfl
       refine ⟨_,hrr,?_⟩
       match as0,r2,r3,q1 with
       | [x],r2,r3,q1=>
         match vs',r2,r3 with
         | [v],_,r3=>exact ⟨v, .a x,σ',k',β',rfl,q1,r3 0 v x rfl rfl,hX.srel,hX.ghost,hX.frm⟩
       | [],r2,r3,q1=>
         match vs',r2 with
         | [],_=>exact ⟨.tuple #[], .tup [],σ',k',β',rfl,q1,⟨#[],rfl,rfl,fun i u y hu=>by simp at hu⟩,hX.srel,hX.ghost,hX.frm⟩
       | x::y::r,r2,r3,q1=>
         match vs',r2,r3 with
         | v::u::w,r2,r3=>
           refine ⟨.tuple (v::u::w).toArray, .tup (x::y::r),σ',k',β',?_,q1,⟨_,rfl,by simpa using r2,fun i u' z hu hz=>r3 i u' z (by simpa using hu) hz⟩,hX.srel,hX.ghost,hX.frm⟩
           rw[dif_neg (by simp)]
     rcases q4 with q4 | ⟨D,q4,q5,q6,q7⟩
     · rw[q4];exact main W' q3
     · rw[q4]
       refine ⟨by simp, .inl ⟨D,_,rfl,run_takeDeferred q6,main _ (q3.idle hnb (Idle.put _ _ _) (fun b hb=>by subst hb;exact q7) fun b hb=>by subst hb;exact q5)⟩⟩
   cases e with
   | normal=>exact fin q1
   | ret=>exact fin q1
   | _=>exact q1.elim
 · exact h.elim
end
end
end Go.Fw
namespace Go.Proofs.YtfdffboelecgoaaGreatDoor
open Go.Proofs Go.RowKit Go.Shelf
open Go.Proofs.Tryz (prog)
section
attribute [local go_sem] Oper.semAt_some
theorem m_g {W:World}{b b':Nat}{v:Value}(h:b'≠b) :(W.setCell ⟨b,0,none⟩ v).cell? ⟨b',0,none⟩ =W.cell? ⟨b',0,none⟩:=by
 simp only[World.cell?,World.setCell,Array.getElem?_modify]
 rw[if_neg (Ne.symm h)]
theorem a_a8 {W:World}{b:Nat}{v:Value}{B:Nat→Prop}(h:B b) :Fw.Idle B W (W.setCell ⟨b,0,none⟩ v):=
 ⟨rfl,rfl,rfl,by simp[World.setCell],fun x hx hn=>by
   simp only[World.setCell,Array.getElem?_modify]
   rw[if_neg (show ¬b=x from fun e=>hn (e ▸ h))]⟩
set_option maxRecDepth 100000 in
set_option maxHeartbeats 1000000 in
theorem a_fq (n l b1 b2 b3:Nat)(c:UInt8)(xs:List ByteArray)(B:Nat→Prop)(J:Nat→World→Prop)(Jx:World→Prop)(h12:b1≠b2)(h13:b1≠b3)(h23:b2≠b3)(hB:B b2)
   (hJ:∀i W1 W2,J i W1→Fw.Idle B W1 W2→J i W2)
   (hY:∀m i s W1,xs[i]? =some s→J i W1→YieldAt Fence.wide m prog l #[.string s] W1 fun e W'=>
     ((e= .returned (.bool true)∧J (i+1) W')∨(e= .returned (.bool false)∧Jx W'))∧W'.heap[b1]? =W1.heap[b1]?∧W'.heap[b2]? =W1.heap[b2]?∧W'.heap[b3]? =W1.heap[b3]?)
   (W:World) (s:ByteArray) (hxs:xs=Fw.pieces c s)
   (c1:W.cell? ⟨b1,0,none⟩ =some (.string ⟨#[c]⟩)) (c2:W.cell? ⟨b2,0,none⟩ =some (.string s)) (c3:W.cell? ⟨b3,0,none⟩ =some (.int .i64 0)) (f2:W.frozen? ⟨b2,0,none⟩ =false) (hs:s.size≤9223372036854775807)
   (h0:J 0 W) :
   CallsIn Fence.wide n prog 109 #[.func (.yield l) #[] #[], .pointer (some ⟨b1,0,none⟩), .pointer (some ⟨b2,0,none⟩), .pointer (some ⟨b3,0,none⟩)] W fun e W'=>
     (∃v,e= .returned v)∧(J xs.length W'∨Jx W'):=by
 refine callsIn_of_wp Tryz.func109 rfl trivial ?_ rfl
 simp only[Tryz.ntmps109,List.size_toArray,List.length_cons,List.length_nil,Nat.reduceAdd,Nat.reduceSub,Array.replicate_succ,Array.replicate_zero,List.push_toArray,List.append_toArray,List.nil_append,List.cons_append]
 gi_wp2
 gi_loopw [7,8] (fun _ _ wr=>∃(i:Nat) (r:ByteArray),r.size≤s.size∧xs.drop i=Fw.pieces c r∧i≤xs.length∧wr.cell? ⟨b1,0,none⟩ =some (.string ⟨#[c]⟩)∧wr.cell? ⟨b2,0,none⟩ =some (.string r)∧wr.cell? ⟨b3,0,none⟩ =some (.int .i64 0)∧wr.frozen? ⟨b2,0,none⟩ =false∧J i wr)
   (fun _ _ wr=>match wr.cell? ⟨b2,0,none⟩ with | some (.string r)=>r.size | _=>0)
 case atStart=>exact ⟨0,s,Nat.le_refl _,by simp[hxs],Nat.zero_le _,c1,c2,c3,f2,h0⟩
 case round=>
   obtain ⟨i,r,hrs,hd,hi,d1,d2,d3,d4,hj⟩:=hrel
   rcases Lib.indexB_cases r ⟨#[c]⟩ with hix | ⟨j,hix,hjr⟩
   · have hp : Fw.pieces c r = [r] := by
       unfold Fw.pieces;exact Lib.splitB_miss _ _ _ _ hix
     have hxi:xs[i]? =some r:=by
       have:=congrArg (·[0]?) (hd.trans hp)
       simpa using this
     have hlen:xs.length=i+1:=by
       have:=congrArg List.length (hd.trans hp)
       simp at this;omega
     have hib:Lib.indexByte r.data.toList c= -1:=by rw[←Lib.index_one];exact hix
     obtain ⟨fn,tmps,assign,body,hy,hR⟩:=hY (n - 1) i r wr hxi hj
     have hcall:∀W,Calls prog 111 #[.string r, .string ⟨#[c]⟩] W fun e w'=>e= .returned (.int .i64 (-1))∧w'=W:=fun W=>hib ▸ Any.strings_Index_one z_2 r c W
     gi_wp2
     refine ⟨trivial,fun h=>(by cases h),?_⟩
     refine (callsIn_wide.2 (hcall _)).mono ?_
     rintro e w' ⟨rfl,rfl⟩
     gi_wp2
     refine ⟨fun h=>(by cases h),hR.mono ?_⟩
     rintro e W' ⟨⟨rfl,hJ'⟩ | ⟨rfl,hJx⟩,_⟩
     · gi_wp2
       go_end0
       exact ⟨⟨_,rfl⟩, .inl (by rw[hlen];exact hJ')⟩
     · gi_wp2
       go_end0
       exact ⟨⟨_,rfl⟩, .inr hJx⟩
   · have hjr:j+1≤r.size:=hjr
     have hp:Fw.pieces c r=r.extract 0 j::Fw.pieces c (r.extract (j+1) r.size):=by
       unfold Fw.pieces
       rw[Lib.countB_hit r ⟨#[c]⟩ j (Nat.le_refl _) hix,Nat.add_comm,Lib.splitB_hit _ _ _ _ j hix]
       rfl
     have hxi:xs[i]? =some (r.extract 0 j):=by
       have:=congrArg (·[0]?) (hd.trans hp)
       simpa using this
     have hlt:i < xs.length:=(List.getElem?_eq_some_iff.1 hxi).1
     have hd2:xs.drop (i+1) =Fw.pieces c (r.extract (j+1) r.size):=by
       rw[←List.drop_drop,hd,hp];rfl
     have hib:Lib.indexByte r.data.toList c=(j:Int):=by rw[←Lib.index_one];exact hix
     have hsz:r.size≤9223372036854775807:=Nat.le_trans hrs hs
     obtain ⟨fn,tmps,assign,body,hy,hR⟩:=hY (n - 1) i (r.extract 0 j) wr hxi hj
     have hcall:∀W,Calls prog 111 #[.string r, .string ⟨#[c]⟩] W fun e w'=>e= .returned (.int .i64 (j:Int))∧w'=W:=fun W=>hib ▸ Any.strings_Index_one z_2 r c W
     gi_wp2
     refine ⟨trivial,fun h=>(by cases h),?_⟩
     refine (callsIn_wide.2 (hcall _)).mono ?_
     rintro e w' ⟨rfl,rfl⟩
     gi_wp2
     refine ⟨fun h=>(by cases h),hR.mono ?_⟩
     rintro e W' ⟨⟨rfl,hJ'⟩ | ⟨rfl,hJx⟩,g1,g2,g3⟩
     · have e1:W'.cell? ⟨b1,0,none⟩ =some (.string ⟨#[c]⟩):=by simp only[World.cell?] at d1 ⊢;rw[g1];exact d1
       have e2:W'.cell? ⟨b2,0,none⟩ =some (.string r):=by simp only[World.cell?] at d2 ⊢;rw[g2];exact d2
       have e3:W'.cell? ⟨b3,0,none⟩ =some (.int .i64 0):=by simp only[World.cell?] at d3 ⊢;rw[g3];exact d3
       have e4:W'.frozen? ⟨b2,0,none⟩ =false:=by simp only[World.frozen?] at d4 ⊢;rw[g2];exact d4
       gi_wp2
       have hes:(r.extract (j+1) r.size).size=r.size - (j+1):=by simp
       have k1:(W'.setCell ⟨b2,0,none⟩ (.string (r.extract (j+1) r.size))).cell? ⟨b1,0,none⟩ =some (.string ⟨#[c]⟩):=(m_g h12).trans e1
       have k2:(W'.setCell ⟨b2,0,none⟩ (.string (r.extract (j+1) r.size))).cell? ⟨b2,0,none⟩ =some (.string (r.extract (j+1) r.size)):=World.cell?_setCell_same' _ _ _ (by rw[e2];rfl)
       have k3:(W'.setCell ⟨b2,0,none⟩ (.string (r.extract (j+1) r.size))).cell? ⟨b3,0,none⟩ =some (.int .i64 0):=(m_g (Ne.symm h23)).trans e3
       refine ⟨⟨i+1,r.extract (j+1) r.size,by omega,hd2,by omega,k1,k2,k3,by rw[World.frozen?_setCell];exact e4,hJ _ _ _ hJ' (a_a8 hB)⟩,?_⟩
       rw[k2,d2]
       show (r.extract (j+1) r.size).size < r.size
       omega
     · gi_wp2
       refine bodyPost_ret (results_none rfl _ _ _) rfl ?_
       exact ⟨⟨_,rfl⟩, .inr hJx⟩
open Go.Fw in
abbrev boxC (id:Nat) :Bool × List D:=(false,[.el (.osl id 0 1) 0 0])
open Go.Fw in
theorem a_eg {σ:Store}{i1 i2 i3:Nat}{c:UInt8}{s:ByteArray}(h1:σ i1= .live c_g [[.str ⟨#[c]⟩]])(h2:σ i2= .live c_g [[.str s]])(h3:σ i3= .live t_int [[.int .i64 0]])
   (h12:i1≠i2) (h13:i1≠i3) (h23:i2≠i3) (hs:s.size≤9223372036854775807) :
   a_hs prog d_i [boxC i1,boxC i2,boxC i3] σ (((σ.set i1 .dead).set i2 .dead).set i3 .dead) (pieces c s):=by
 have hnl:∀{i t r},σ i=SO.live t r→σ i≠ .dead∧σ i≠ .free:=fun h=>by rw[h];exact ⟨(by intro e;cases e),(by intro e;cases e)⟩
 have hdead:∀i,(((σ.set i1 .dead).set i2 .dead).set i3 .dead) i=if i=i1∨i=i2∨i=i3 then .dead else σ i:=fun i=>by
   unfold Store.set
   by_cases e3:i=i3
   · simp[e3]
   · by_cases e2:i=i2
     · simp[e2]
     · by_cases e1:i=i1 <;> simp[e1,e2,e3]
 refine ⟨by kernel_rfl,fun i=>?_,fun n l k β W lb J Jx hS hV hJ hJx hY h0=>?_⟩
 · rw[hdead]
   by_cases e:i=i1∨i=i2∨i=i3
   · rw[if_pos e]
     rcases e with rfl | rfl | rfl
     · exact .inr ⟨(hnl h1).1,(hnl h1).2,rfl⟩
     · exact .inr ⟨(hnl h2).1,(hnl h2).2,rfl⟩
     · exact .inr ⟨(hnl h3).1,(hnl h3).2,rfl⟩
   · rw[if_neg e];exact .inl rfl
 · -- the closure's values
   obtain ⟨p1,p2,p3,rfl,q1,q2,q3⟩ :∃p1 p2 p3,lb= #[p1,p2,p3]∧V k β W p1 (.el (.osl i1 0 1) 0 0)∧V k β W p2 (.el (.osl i2 0 1) 0 0)∧V k β W p3 (.el (.osl i3 0 1) 0 0):=by
     cases hV with
     | fn _ _ _ _ _ g g' a1 a2 a3 a4 a5 a6=>
       exact ⟨g' 0 0,g' 1 0,g' 2 0,by rw[a4];rfl,a6 0 false _ 0 _ rfl rfl,a6 1 false _ 0 _ rfl rfl,a6 2 false _ 0 _ rfl rfl⟩
   have box:∀{p i t d},σ i=SO.live t [[d]]→V k β W p (.el (.osl i 0 1) 0 0)→∃bi v,β i=some bi∧p= .pointer (some ⟨bi.blk,0,none⟩)∧W.cell? ⟨bi.blk,0,none⟩ =some v∧V k β W v d∧W.frozen? ⟨bi.blk,0,none⟩ =false:=by
     intro p i t d hl hv
     cases hv with
     | elosl _ _ _ _ _ bi hb hi=>
       obtain ⟨arr,g1,g2,g3,g4,g5,g6,g7⟩:=hS.obj i bi t _ hb hl
       obtain ⟨v,hv,hV⟩:=g7 0 [d] 0 d rfl rfl
       refine ⟨bi,v,hb,by simp,?_,hV,by simp[World.frozen?,g1]⟩
       rw[cell_of_heap g1];simpa using hv
   obtain ⟨bi1,v1,hb1,rfl,c1,w1,_⟩:=box h1 q1
   obtain ⟨bi2,v2,hb2,rfl,c2,w2,f2⟩:=box h2 q2
   obtain ⟨bi3,v3,hb3,rfl,c3,w3,_⟩:=box h3 q3
   rw[V.inv_str w1] at c1
   rw[V.inv_str w2] at c2
   rw[V.inv_int w3] at c3
   have t1:Turned β σ (((σ.set i1 .dead).set i2 .dead).set i3 .dead) bi1.blk:=⟨i1,bi1,hb1,(hnl h1).1,by rw[hdead,if_pos (.inl rfl)],rfl⟩
   have t2:Turned β σ (((σ.set i1 .dead).set i2 .dead).set i3 .dead) bi2.blk:=⟨i2,bi2,hb2,(hnl h2).1,by rw[hdead,if_pos (.inr (.inl rfl))],rfl⟩
   have t3:Turned β σ (((σ.set i1 .dead).set i2 .dead).set i3 .dead) bi3.blk:=⟨i3,bi3,hb3,(hnl h3).1,by rw[hdead,if_pos (.inr (.inr rfl))],rfl⟩
   refine a_fq n l bi1.blk bi2.blk bi3.blk c (pieces c s) _ J Jx (fun e=>h12 (hS.inj i1 i2 bi1 bi2 hb1 hb2 (hnl h1).1 (hnl h2).1 e)) (fun e=>h13 (hS.inj i1 i3 bi1 bi3 hb1 hb3 (hnl h1).1 (hnl h3).1 e)) (fun e=>h23 (hS.inj i2 i3 bi2 bi3 hb2 hb3 (hnl h2).1 (hnl h3).1 e)) t2 hJ
     (fun m i x W1 hx hj=>(hY m i x W1 hx hj).mono fun e W' ⟨g1,_,g3⟩=>⟨g1,g3 _ t1,g3 _ t2,g3 _ t3⟩) W s rfl c1 c2 c3 f2 hs h0
end
end Go.Proofs.YtfdffboelecgoaaGreatDoor
section
set_option maxRecDepth 20000
namespace Go.Proofs.YtfdffboelecgoaaGreatDoor
open Go.Fw Go.Proofs Go.RowKit
open Go.Proofs.Tryz (prog)
variable {σ:Store}
def i64 (n:Int) :Prop:= -9223372036854775808≤n∧n≤9223372036854775807
theorem a_cx {n:Int}(h:i64 n) :Pure prog g_d [iA n] σ (.a (sA (a_q (Lib.itoa n)))):=
 a_jf a_l4 (g := prog.globalNamed "internal/strconv.uint64pow10" |>.getD 0) (by kernel_rfl) h.1 h.2
theorem a_n1 {s:ByteArray}(h:s.size≤281474976710656) :Pure prog n_5 [sA s] σ (.tup [iA (f_d s.data.toList).1, .one (.ifc (f_d s.data.toList).2)]):=
 a_i6 a_ld (by kernel_rfl) (by kernel_rfl) h
theorem hi9:(prog.info? (splitLays_ren.t 9)).map (fun i=>(i.zero,i.size,i.bytes)) =some (some (.string ByteArray.empty),1,16):=by kernel_rfl
theorem a_eo {s:ByteArray}{c:UInt8}(hs:s.size < 4294967281) :
   DCalls prog i_w [sA s,sA ⟨#[c]⟩,iA 0,iA (-1)] σ fun r σ'=>∃id,σ id= .free∧r= .a (.one (.osl id 0 (pieces c s).length))∧σ'=σ.set id (.live c_g ((pieces c s).map g_j)):=
 v_f a_jk hi9 hs
theorem a_lm {s:ByteArray}{c:UInt8}(hs:s.size < 4294967281) :
   DCalls prog h_w [sA s,sA ⟨#[c]⟩] σ fun r σ'=>∃id,σ id= .free∧r= .a (.one (.osl id 0 (pieces c s).length))∧σ'=σ.set id (.live c_g ((pieces c s).map g_j)):=by
 refine v_g s ⟨#[c]⟩ σ _ ((a_eo hs).mono ?_)
 rintro r σ' ⟨id,h1,rfl,h3⟩
 exact ⟨_,rfl,id,h1,rfl,h3⟩
theorem a_a9 {s:ByteArray}{c:UInt8} :
   DCalls prog f_o [sA s,sA ⟨#[c]⟩] σ fun r σ'=>∃i1 i2 i3,i1≠i2∧i1≠i3∧i2≠i3∧σ i1= .free∧σ i2= .free∧σ i3= .free∧r= .a (.one (.fn d_i [] [boxC i1,boxC i2,boxC i3]))∧
     σ'=((σ.set i2 (.live c_g [[.str s]])).set i1 (.live c_g [[.str ⟨#[c]⟩]])).set i3 (.live t_int [[.int .i64 0]]):=by
 refine q_e s ⟨#[c]⟩ σ _ ((?_ : DCalls _ _ _ _ fun r σ' => ∃ i1 i2 i3, i1 ≠ i2 ∧ i1 ≠ i3 ∧ i2 ≠ i3 ∧ σ i1 = .free ∧ σ i2 = .free ∧ σ i3 = .free ∧ r = .a (.one (.fn d_i [] [boxC i1, boxC i2, boxC i3])) ∧
     σ'=((σ.set i2 (.live c_g [[.str s]])).set i1 (.live c_g [[.str ⟨#[c]⟩]])).set i3 (.live t_int [[.int .i64 0]])).mono ?_)
 · refine p_1 s ⟨#[c]⟩ 0 σ _ fun i2 h2 i1 h1 i3 h3=>?_
   have n12:i1≠i2:=fun e=>by rw[e,Store.set_same] at h1;cases h1
   have n13:i1≠i3:=fun e=>by rw[←e,Store.set_same] at h3;cases h3
   rw[Store.set_ne _ _ n12] at h1
   have n23:i2≠i3:=fun e=>by rw[←e,Store.set_ne _ _ n12.symm,Store.set_same] at h3;cases h3
   rw[Store.set_ne _ _ n13.symm,Store.set_ne _ _ n23.symm] at h3
   exact ⟨i1,i2,i3,n12,n13,n23,h1,h2,h3,rfl,rfl⟩
 · rintro r σ' ⟨i1,i2,i3,a1,a2,a3,a4,a5,a6,rfl,a8⟩
   exact ⟨_,rfl,i1,i2,i3,a1,a2,a3,a4,a5,a6,rfl,a8⟩
def w_k (c:UInt8)(s:ByteArray) :Bool:=decide (1≤s.size) && (ByteArray.toList (s.extract (s.size - 1) s.size) == ByteArray.toList ⟨#[c]⟩)
def c_v (c:UInt8)(s:ByteArray) :ByteArray:=if w_k c s then s.extract 0 (s.size - 1) else s
theorem a_cp {s:ByteArray}{c:UInt8}(hs:s.size≤9223372036854775807) :Pure prog c_b [sA s,sA ⟨#[c]⟩] σ (.a (bA (w_k c s))):=by
 have e1:(ByteArray.size ⟨#[c]⟩ :Int) =1:=rfl
 refine f_5 s ⟨#[c]⟩ σ _ (bcd (fun h=>?_) (fun h=>?_))
 · rw[e1] at h ⊢
   have h1:1≤s.size:=by omega
   have e2:w64 ((s.size:Int) - 1) =((s.size - 1:Nat) :Int):=by rw[d_9 (by omega) (by omega)];omega
   rw[e2]
   refine ⟨by omega,by omega,?_,rfl⟩
   rw[Int.toNat_natCast]
   unfold w_k
   rw[decide_eq_true h1,Bool.true_and]
 · rw[e1] at h
   refine ⟨?_,rfl⟩
   unfold w_k
   rw[decide_eq_false (by omega),Bool.false_and]
theorem a_a5 {s:ByteArray}{c:UInt8}(hs:s.size≤9223372036854775807) :Pure prog e_2 [sA s,sA ⟨#[c]⟩] σ (.tup [sA (c_v c s),bA (w_k c s)]):=by
 have e1:(ByteArray.size ⟨#[c]⟩ :Int) =1:=rfl
 have key:Pure prog b_8 [sA s,sA ⟨#[c]⟩] σ (.tup [sA (c_v c s),bA (w_k c s)]):=by
   refine g_n s ⟨#[c]⟩ σ _ ((a_cp hs).use ⟨_,rfl,b_g (fun h=>?_) (fun h=>?_)⟩)
   · unfold c_v;rw[h];exact ⟨rfl,rfl⟩
   · have h1 : 1 ≤ s.size := by
       unfold w_k at h
       rw[Bool.and_eq_true] at h
       exact of_decide_eq_true h.1
     rw[e1]
     have e2:w64 ((s.size:Int) - 1) =((s.size - 1:Nat) :Int):=by rw[d_9 (by omega) (by omega)];omega
     rw[e2]
     refine ⟨by omega,by omega,by omega,?_,rfl⟩
     rw[Int.toNat_natCast]
     unfold c_v;rw[if_pos h,h];rfl
 exact o_7 s ⟨#[c]⟩ σ _ (key.use ⟨_,_,rfl,rfl,rfl⟩)
end Go.Proofs.YtfdffboelecgoaaGreatDoor
end
section
set_option maxRecDepth 20000
namespace Go.Proofs.YtfdffboelecgoaaGreatDoor
open Go.Fw Go.Proofs Go.RowKit
open Go.Proofs.Tryz (prog)
variable {σ σ0:Store}
theorem b_d {s:Store}{id:Nat}{t:TypeId}{row xs:List D}{off:Nat}{K:Store→Prop}(hs:s id= .live t [row])(ho:off+xs.length≤row.length)
   (hK:∀s',s' id= .live t [patch row off xs]→(∀i,i≠id→s' i=s i)→K s') :a_d xs s (.osl id 0 1) 0 off K:=
 ⟨id,0,1,t,[row],row,rfl,by omega,hs,rfl,ho,hK _ (Store.set_same _ _ _) fun i hi=>Store.set_ne _ _ hi⟩
theorem d_g {s s':Store}{el:TypeId}{d:D}{rs:List (List D)}{id:Nat}(h:Own prog σ0 s el d rs)(hid:σ0 id= .free)(hd:b_e d≠some id)(hs:∀i,i≠id→s' i=s i) :Own prog σ0 s' el d rs:=
 ⟨h.at_.same fun i a n e=>hs i fun e2=>hd (by subst e;rw[←e2];rfl),fun i hi=>by
   have hne:i≠id:=fun e=>hi (by rw[e];exact hid)
   rw[hs i hne];exact h.ext i hi,h.new,h.nsl,h.nz⟩
abbrev pO (id:Nat) :D:= .el (.osl id 0 1) 0 0
def Buf (s:Store)(d:D) :Prop:=∀bid i n,d= .osl bid i n→i=0∧∃rows,s bid= .live a_s rows
theorem Buf.same {s s':Store}{d:D}{id:Nat}(h:Buf s d)(hd:b_e d≠some id)(hs:∀i,i≠id→s' i=s i) :Buf s' d:=fun b i n e=>by
 obtain ⟨h1,rows,h2⟩:=h b i n e
 exact ⟨h1,rows,by rw[hs b fun e2=>hd (by rw[e,←e2];rfl)];exact h2⟩
theorem Buf.ext {s s':Store}{d:D}(h:Buf s d)(he:Ext s s') :Buf s' d:=fun b i n e=>by
 obtain ⟨h1,rows,h2⟩:=h b i n e
 exact ⟨h1,rows,by rw[he b (by rw[h2];intro e;cases e)];exact h2⟩
theorem x_d {s:Store}{d x:D}{rs ns:List (List D)}{bytes:Nat}{K:D→Store→Prop}(h:Own prog σ0 s a_s d rs)(hb:Buf s d)(hx:At prog s a_s x ns)(h1:bytes * (rs.length+ns.length)≤140737488355328)
   (h2:rs.length+ns.length < 2 ^ 60) (hk:∀d' s',Own prog σ0 s' a_s d' (rs ++ ns)→(∀i,s i≠ .free→(∀a b,d≠ .osl i a b)→s' i=s i)→(∀i a b,d'= .osl i a b→s i= .free∨∃a b,d= .osl i a b)→Buf s' d'→K d' s') :
   a_e prog s a_s bytes d x K:=by
 obtain ⟨rs',ns',q1,q2,q3,q4,q5⟩:=h.append (K:=fun d' s'=>Own prog σ0 s' a_s d' (rs ++ ns)∧(∀i,s i≠ .free→(∀a b,d≠ .osl i a b)→s' i=s i)∧∀i a b,d'= .osl i a b→s i= .free∨∃a b,d= .osl i a b) hx h1 h2 fun d' s' a b c=>⟨a,b,c⟩
 refine ⟨rs',ns',q1,q2,q3,q4,fun d' s' ha=>?_⟩
 obtain ⟨a,b,c⟩:=q5 d' s' ha
 refine hk d' s' a b c ?_
 rcases ha with ⟨_,rfl,rfl⟩ | ⟨_,id,_,rfl,rfl⟩ | ⟨_,id,i0,len,t,rows,rfl,hl,rfl,rfl⟩
 · exact hb
 · intro b i n e
   injection e with e1 e2 e3
   subst e1 e2
   exact ⟨rfl,_,Store.set_same _ _ _⟩
 · intro b i n e
   injection e with e1 e2 e3
   subst e1 e2
   obtain ⟨g1,rows',g2⟩:=hb _ _ _ rfl
   rw[hl] at g2
   injection g2 with g2 _
   subst g2
   exact ⟨g1,_,Store.set_same _ _ _⟩
structure BlIn (σ0 s:Store) (id:Nat) (l:List UInt8) :Prop where
 new:σ0 id= .free
 cell:∃p d,s id= .live b_z [[p,d]]∧(p= .nilp∨p=pO id)∧Own prog σ0 s a_s d (l.map b_t)∧b_e d≠some id∧Buf s d
theorem BlIn.ext {s:Store}{id:Nat}{l:List UInt8}(h:BlIn σ0 s id l) :Ext σ0 s:=by
 obtain ⟨p,d,_,_,h,_⟩:=h.cell;exact h.ext
theorem BlIn.ext' {s s':Store}{id:Nat}{l:List UInt8}(h:BlIn σ0 s id l)(he:Ext s s') :BlIn σ0 s' id l:=by
 obtain ⟨p,d,h1,hp,h2,h3,h4⟩:=h.cell
 exact ⟨h.new,p,d,by rw[he id (by rw[h1];intro e;cases e)];exact h1,hp,h2.ext' he,h3,h4.ext he⟩
theorem r_7 {P:Program}{el:TypeId}{bytes es:Nat}{d:D}{ns:List (List D)}{K:D→Store→Prop}(h:a_e P σ el bytes d (.sl es ns) K) :c_c P σ el bytes d ns K:=by
 obtain ⟨rs,ns',h1,h2,h3,h4,h5⟩:=h
 have h2:ns'=ns:=h2.1
 subst h2
 exact ⟨rs,h1,h3,h4,h5⟩
theorem a_d1 (s:Store){l:List UInt8}(h:l.length < 2 ^ 60) :At prog s a_s (.sl 1 (l.map b_t)) (l.map b_t):=
 ⟨⟨rfl, .inr c_uint8.symm⟩,by simpa using h,fun es rows e=>by injection e with e1 _;rw[←e1,c_uint8]⟩
theorem a_hy {s:Store}{id:Nat}{p d d2:D}{rs:List (List D)}(h1:s id= .live b_z [[p,d]])(h3:b_e d≠some id)(i2:∀i a b,d2= .osl i a b→s i= .free∨∃a b,d= .osl i a b) :b_e d2≠some id:=fun hi=>by
 cases d2 with
 | osl j a m=>
   have:j=id:=by simpa[b_e] using hi
   subst this
   rcases i2 j a m rfl with g | ⟨a',b',g⟩
   · rw[h1] at g;cases g
   · exact h3 (by rw[g];rfl)
 | _=>simp[b_e] at hi
theorem BlIn.checked {s:Store}{id:Nat}{l:List UInt8}(h:BlIn σ0 s id l){Q:RV→Store→Prop}
   (hQ:∀s' d,s' id= .live b_z [[pO id,d]]→Own prog σ0 s' a_s d (l.map b_t)→b_e d≠some id→Buf s' d→Q (.tup []) s') :DCalls prog b_5 [.one (pO id)] s Q:=by
 obtain ⟨hn,p,d,h1,hp,h2,h3,h4⟩:=h
 refine (a_ay h1 hp).mono ?_
 rintro r s' ⟨rfl,rfl⟩
 exact hQ _ d (Store.set_same _ _ _) (d_g h2 hn h3 fun i hi=>Store.set_ne _ _ hi) h3 (h4.same h3 fun i hi=>Store.set_ne _ _ hi)
theorem m_7 {s:Store}{id:Nat}{l:List UInt8}(h:BlIn σ0 s id l){t:ByteArray}(hs:l.length+t.size≤2 ^ 46) :
   DCalls prog b_u [.one (pO id),sA t] s fun r s'=>(∃n,r= .tup [iA n, .one (.ifc false)])∧BlIn σ0 s' id (l ++ t.data.toList):=by
 have hts:t.data.toList.length=t.size:=by simp
 refine h_f (pO id) t s _ (h.checked fun s1 d h1 h2 h3 h4=>⟨rfl,trivial,_,_,_,rfl,_,a_j h1,d,rfl,r_7 (es:=1) (x_d h2 h4 (a_d1 s1 (l:=t.data.toList) (by omega)) (by simp;omega) (by simp;omega) fun d2 s2 o2 k2 i2 b2=>⟨trivial,_,_,_,rfl,?_⟩)⟩)
 have hs2:s2 id= .live b_z [[pO id,d]]:=by
   rw[k2 id (by rw[h1];intro e;cases e) (fun a b e=>h3 (by rw[e];rfl)),h1]
 have hd2:=a_hy (rs:= []) h1 h3 i2
 rw[←List.map_append] at o2
 refine b_d hs2 (by simp) fun s3 hs3 ho3=>⟨⟨_,rfl⟩,h.new,pO id,d2,by rw[hs3];rfl, .inr rfl,d_g o2 h.new hd2 ho3,hd2,b2.same hd2 ho3⟩
theorem a_ch {s:Store}{id:Nat}{l:List UInt8}(h:BlIn σ0 s id l){c:UInt8}(hs:l.length < 2 ^ 46) :
   DCalls prog c_y [.one (pO id), .one (.int .u8 c.toNat)] s fun r s'=>(∃d,r= .a (.one d))∧BlIn σ0 s' id (l ++ [c]):=by
 refine i_f (pO id) c.toNat s _ (h.checked fun s1 d h1 h2 h3 h4=>⟨rfl,trivial,_,_,_,rfl,_,a_j h1,d,rfl,a_f fun i s2 hi _ he hi2=>?_⟩)
 have hA:At prog s2 a_s (.osl i 0 1) ([c].map b_t):=At.fresh hi2 (by simp) rfl
 have h1':s2 id= .live b_z [[pO id,d]]:=by rw[he id (by rw[h1];intro e;cases e)];exact h1
 refine x_d (h2.ext' he) (h4.ext he) hA (by simp;omega) (by simp;omega) fun d2 s3 o2 k2 i2 b2=>⟨trivial,_,_,_,rfl,?_⟩
 have hs3:s3 id= .live b_z [[pO id,d]]:=by
   rw[k2 id (by rw[h1'];intro e;cases e) (fun a b e=>h3 (by rw[e];rfl)),h1']
 have hd2:=a_hy (rs:= []) h1' h3 i2
 rw[←List.map_append] at o2
 refine b_d hs3 (by simp) fun s4 hs4 ho4=>⟨⟨_,rfl⟩,h.new,pO id,d2,by rw[hs4];rfl, .inr rfl,d_g o2 h.new hd2 ho4,hd2,b2.same hd2 ho4⟩
def b_y (w:List UInt8)(ns:List Int) :List UInt8:=w ++ (ns.map fun n=>32::Lib.itoa n).flatten
def d_n (w:List UInt8)(ns:List Int) :List UInt8:=b_y w ns ++ [10]
theorem r_v (w:List UInt8) :b_y w []=w:=by simp[b_y]
theorem t_3 (w:List UInt8){ns:List Int}{j:Nat}{x:Int}(hx:ns[j]? =some x) :b_y w (ns.take (j+1)) =b_y w (ns.take j) ++ 32::Lib.itoa x:=by
 unfold b_y
 rw[List.take_add_one,hx]
 simp
theorem a_fi {n:Int}(h:i64 n) :(Lib.itoa n).length≤21:=Lib.itoa_length_le n h.1 h.2
theorem t_4 (w:List UInt8)(ns:List Int)(j:Nat) :(b_y w (ns.take j)).length≤(b_y w ns).length:=by
 have e:b_y w ns=b_y w (ns.take j) ++ ((ns.drop j).map fun n=>32::Lib.itoa n).flatten:=by
   unfold b_y
   rw[List.append_assoc,←List.flatten_append,←List.map_append,List.take_append_drop]
 rw[e,List.length_append];omega
theorem a_hj {s:Store}{id:Nat}{l:List UInt8}(h:BlIn σ0 s id l){w:ByteArray}{d:D}{ns:List Int}(hd:At prog σ0 t_int d (ns.map Go.Fw.encI))(hi:∀n ∈ ns,i64 n)(hs:l.length+ (b_y w.data.toList ns).length≤2 ^ 46) :
   DCalls prog a_6 [.one (pO id),sA w, .one d] s fun r s'=>r= .tup []∧BlIn σ0 s' id (l ++ b_y w.data.toList ns):=by
 have hws:w.data.toList.length=w.size:=by simp
 have h0:=t_4 w.data.toList ns 0
 rw[List.take_zero,r_v] at h0
 have hds:=hd.size
 rw[List.length_map] at hds
 refine q_i (pO id) w d s _ ⟨trivial,_,_,_,rfl,(m_7 h (t:=w) (by omega)).mono ?_⟩
 rintro r s1 ⟨⟨n0,rfl⟩,h1⟩
 refine ⟨n0,_,rfl,(hd.ext h1.ext).lenK ⟨fun n s'=>∃j:Nat,n=j∧j≤ns.length∧BlIn σ0 s' id (l ++ b_y w.data.toList (ns.take j)),fun n _=>ns.length - n.toNat,⟨0,rfl,by omega,by rw[List.take_zero,r_v];exact h1⟩,?_⟩⟩
 rintro n s2 ⟨j,rfl,hj,h2⟩
 rw[List.length_map]
 refine bcd (fun hlt=>?_) (fun hge=>⟨rfl,?_⟩)
 · obtain ⟨x,hx⟩:=a_h (l:=ns) (j:=j) (by omega)
   have hxi:=hi x (List.mem_of_getElem? hx)
   have hl:=a_fi hxi
   have ht:=t_4 w.data.toList ns (j+1)
   rw[t_3 _ hx,List.length_append,List.length_cons] at ht
   have hbs:(a_q (Lib.itoa x)).size=(Lib.itoa x).length:=by show (Lib.itoa x).toArray.size=_;simp
   refine (hd.ext h2.ext).load (a_m hx) c_int rfl ⟨x,rfl,trivial,_,_,_,rfl,(a_cx hxi).use ⟨_,rfl,by rw[hbs];omega,(m_7 h2 (t:=a_q (32::Lib.itoa x)) ?_).mono ?_⟩⟩
   · have:(a_q (32::Lib.itoa x)).size=(Lib.itoa x).length+1:=by show (32::Lib.itoa x).toArray.size=_;simp
     rw[this,List.length_append];omega
   rintro r s3 ⟨⟨n1,rfl⟩,h3⟩
   refine ⟨n1,_,rfl,⟨j+1,by rw[a_g (by omega)],by omega,?_⟩,by rw[a_g (by omega)];show ns.length - ((j+1:Nat) :Int).toNat < ns.length - ((j:Nat) :Int).toNat;omega⟩
   rw[t_3 _ hx,←List.append_assoc];exact h3
 · have e:j=ns.length:=by omega
   rw[e,List.take_length] at h2
   exact h2
theorem a_a2 {s:Store}{id:Nat}{l:List UInt8}(h:BlIn σ0 s id l){w:ByteArray}{d:D}{ns:List Int}(hd:At prog σ0 t_int d (ns.map Go.Fw.encI))(hi:∀n ∈ ns,i64 n)(hs:l.length+ (d_n w.data.toList ns).length≤2 ^ 46) :
   DCalls prog b_a [.one (pO id),sA w, .one d] s fun r s'=>r= .tup []∧BlIn σ0 s' id (l ++ d_n w.data.toList ns):=by
 have hs':l.length+ ((b_y w.data.toList ns).length+1)≤2 ^ 46:=by
   unfold d_n at hs
   rw[List.length_append] at hs
   exact hs
 refine o_3 (pO id) w d s _ ((a_hj h hd hi (by omega)).mono ?_)
 rintro r s1 ⟨rfl,h1⟩
 refine ⟨rfl,trivial,_,_,_,rfl,(a_ch h1 (c:=10) (by rw[List.length_append];omega)).mono ?_⟩
 rintro r s2 ⟨⟨e,rfl⟩,h2⟩
 refine ⟨_,rfl,rfl,?_⟩
 unfold d_n
 rw[←List.append_assoc];exact h2
theorem a_n6 {s:Store}{el:TypeId}{d:D}{rs:List (List D)}(h:At prog s el d rs){i:Nat}(hi:b_e d=some i) :s i≠ .free:=by
 cases d with
 | osl id a n=>
   have e:id=i:=by simpa[b_e] using hi
   subst e
   obtain ⟨t,rows,g1,_⟩:=h.rows
   rw[g1];intro e;cases e
 | _=>simp[b_e] at hi
theorem a_pv {s:Store}{el:TypeId}{d:D}{rs:List (List D)}{i:Nat}(h:Own prog σ0 s el d rs)(hi:b_e d=some i) :σ0 i= .free:=by
 cases d with
 | osl id a n=>
   have e:id=i:=by simpa[b_e] using hi
   subst e
   exact h.new _ _ _ rfl
 | _=>simp[b_e] at hi
theorem BlIn.newList {s:Store}{id:Nat}{l:List UInt8}(h:BlIn σ0 s id l){i:Nat}{so:SO}(hi:s i= .free) :∃τ,BlIn τ (s.set i so) id l∧Ext σ0 τ∧τ i=so:=by
 obtain ⟨hn,p,d,h1,hp,h2,h3,h4⟩:=h
 have hne:i≠id:=fun e=>by rw[e,h1] at hi;cases hi
 have hd:b_e d≠some i:=fun e=>a_n6 h2.at_ e hi
 have he:Ext s (s.set i so):=Ext.new hi so
 have h2':=h2.ext' he
 refine ⟨fun j=>if j=id∨b_e d=some j then .free else (s.set i so) j,⟨by simp,p,d,?_,hp,⟨h2'.at_,fun j hj=>?_,fun j a b e=>?_,h2.nsl,h2.nz⟩,h3,h4.ext he⟩,fun j hj=>?_,?_⟩
 · rw[Store.set_ne _ _ (Ne.symm hne)];exact h1
 · by_cases hc:j=id∨b_e d=some j
   · exact absurd (if_pos hc) hj
   · exact (if_neg hc).symm
 · subst e;simp[b_e]
 · have c1:j≠id:=fun e=>hj (by rw[e];exact hn)
   have c2:b_e d≠some j:=fun e=>hj (a_pv h2 e)
   exact (if_neg (show ¬(j=id∨b_e d=some j) from fun g=>g.elim c1 c2)).trans (h2'.ext j hj)
 · exact (if_neg (show ¬(i=id∨b_e d=some i) from fun g=>g.elim hne hd)).trans (Store.set_same _ _ _)
theorem BlIn.base {τ s:Store}{id:Nat}{l:List UInt8}(h:BlIn τ s id l)(he:Ext σ0 τ)(hn:σ0 id= .free) :BlIn σ0 s id l:=by
 obtain ⟨_,p,d,h1,hp,h2,h3,h4⟩:=h
 exact ⟨hn,p,d,h1,hp,h2.from he,h3,h4⟩
theorem a_ax {s:Store}{id:Nat}{l:List UInt8}(h:BlIn σ0 s id l){w:ByteArray}{ns:List Int}(hi:∀n ∈ ns,i64 n)(hn:ns.length < 2 ^ 60)(hs:l.length+ (b_y w.data.toList ns).length≤2 ^ 46){Q:RV→Store→Prop}
   (hQ:∀s',BlIn σ0 s' id (l ++ b_y w.data.toList ns)→Q (.tup []) s') :
   Fw.newObj s (.live t_int (ns.map Go.Fw.encI)) fun i s1=>DCalls prog a_6 [.one (pO id),sA w, .one (.osl i 0 ns.length)] s1 Q:=fun i hf=>by
 obtain ⟨τ,g1,g2,g3⟩:=h.newList hf (so:= .live t_int (ns.map Go.Fw.encI))
 refine (a_hj g1 (At.fresh g3 (by rw[List.length_map];exact hn) (by rw[List.length_map])) hi hs).mono ?_
 rintro r s2 ⟨rfl,g4⟩
 exact hQ s2 (g4.base g2 h.new)
theorem o_g {s:Store}{id:Nat}{l:List UInt8}(h:BlIn σ0 s id l){w:ByteArray}{ns:List Int}(hi:∀n ∈ ns,i64 n)(hn:ns.length < 2 ^ 60)(hs:l.length+ (d_n w.data.toList ns).length≤2 ^ 46){Q:RV→Store→Prop}
   (hQ:∀s',BlIn σ0 s' id (l ++ d_n w.data.toList ns)→Q (.tup []) s') :
   Fw.newObj s (.live t_int (ns.map Go.Fw.encI)) fun i s1=>DCalls prog b_a [.one (pO id),sA w, .one (.osl i 0 ns.length)] s1 Q:=fun i hf=>by
 obtain ⟨τ,g1,g2,g3⟩:=h.newList hf (so:= .live t_int (ns.map Go.Fw.encI))
 refine (a_a2 g1 (At.fresh g3 (by rw[List.length_map];exact hn) (by rw[List.length_map])) hi hs).mono ?_
 rintro r s2 ⟨rfl,g4⟩
 exact hQ s2 (g4.base g2 h.new)
theorem a_m7 {s:Store}{id:Nat}{l:List UInt8}(h:BlIn σ0 s id l)(h0:l≠[])(hs:l.length≤2 ^ 46) :DCalls prog d_l [.one (pO id)] s fun r s'=>r= .a (sA (a_q l))∧Ext σ0 s':=by
 obtain ⟨hn,p,d,h1,hp,h2,h3,h4⟩:=h
 have hr:=h2.at_.rows
 have hne:l.map b_t≠[]:=by simpa using h0
 cases d with
 | osl bid i n=>
   obtain ⟨rfl,rows,hb⟩:=h4 _ _ _ rfl
   obtain ⟨t,rows',g1,g2,g3,g4⟩:=hr
   rw[hb] at g1
   injection g1 with e1 e2
   subst e1 e2
   rw[List.drop_zero] at g4
   have hn2:n=l.length:=by
     have:=congrArg List.length g4
     rw[List.length_map,List.length_take] at this
     omega
   subst hn2
   refine (a_jz h1 hb g4.symm h0 (by omega)).mono ?_
   rintro r s' ⟨rfl,rfl⟩
   exact ⟨rfl,h2.ext.set (h2.new _ _ _ rfl) _⟩
 | nils=>exact absurd (show l.map b_t=[] from hr) hne
 | zsl=>exact absurd rfl h2.nz
 | sl es rows=>exact absurd trivial h2.nsl
 | _=>exact hr.elim
end Go.Proofs.YtfdffboelecgoaaGreatDoor
end
