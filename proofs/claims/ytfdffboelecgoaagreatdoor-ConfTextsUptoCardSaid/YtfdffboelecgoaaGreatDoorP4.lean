/-
  Proofs that the statement of this claim leans on: part 4.
-/
import Derived.Test.YtfdffboelecgoaaGreatDoorP3
set_option linter.unusedVariables false
set_option linter.unusedSimpArgs false
section
set_option maxRecDepth 20000
namespace Go.Proofs.YtfdffboelecgoaaGreatDoor
open Go.Fw Go.Proofs Go.RowKit
open Go.Proofs.Tryz (prog)
variable {σ:Store}
theorem a_op (l:List (Int × Int × Int)) :∀row ∈ l.map encW,∀x ∈ row,Flat x:=by
 intro row hrow x hx
 obtain ⟨w,_,rfl⟩:=List.mem_map.1 hrow
 simp[encW] at hx
 rcases hx with rfl | rfl | rfl <;> exact .int _ _
def v_u (σ:Store)(t:TypeId)(k:Int)(r:RV)(σ':Store) :Prop:=σ'=σ∧∃d,r= .a (.one d)∧∀s,At prog s t d ((j_y k).map encW)
theorem x_d {t:TypeId}(hc:prog.cellsOf t=3){k:Int}{rows:List (List D)}{n:Nat}{id:Nat}{σ':Store}(hn:n=rows.length)(hl:rows.length < 100)(hid:σ id= .free)(he:Ext σ σ')(hs:σ' id= .live t rows)(hr:rows=(j_y k).map encW) :
   ∃r' σ'',Ret prog σ σ' (.a (.one (.osl id 0 n))) σ'' r'∧v_u σ t k r' σ'':=by
 have hat:At prog σ' t (.osl id 0 n) rows:=At.fresh hs (by omega) hn
 obtain ⟨d',h1,h2⟩:=y_i hat he (a_bd hid) (by rw[hr];exact a_op _)
 exact ⟨.a (.one d'),σ, .pure he h1,rfl,d',rfl,fun s=>hr ▸ h2 s⟩
theorem r_a (k:Int) :DCalls prog j_p [iA k] σ (v_u σ b_x k):=by
 refine (a_cf k σ _ ?_).ret (Q:=fun r s=>∃r' σ',Ret prog σ s r σ' r'∧v_u σ b_x k r' σ') (fun r s h=>h)
 refine bce (fun h0=>a_n fun id σ' hid _ he hs=>?_) (fun h0=>bce (fun h1=>a_n fun id σ' hid _ he hs=>?_) (fun h1=>bce (fun h2=>a_n fun id σ' hid _ he hs=>?_) (fun h2=>?_)))
 · exact x_d i_s rfl (by simp) hid he hs (by subst h0;rfl)
 · exact x_d i_s rfl (by simp) hid he hs (by subst h1;rfl)
 · exact x_d i_s rfl (by simp) hid he hs (by subst h2;rfl)
 · exact ⟨.a (.one .nils),σ, .pure (.refl _) .nils,rfl, .nils,rfl,fun s=>by simp[j_y,h0,h1,h2];exact .nil⟩
theorem a_cy (k:Int) :(j_y k).length < 2 ^ 60:=by unfold j_y;split <;> (try split) <;> (try split) <;> simp
theorem l_y (k:Int) :Pure prog g_2 [iA k] σ (.a (iA (c_s k))):=by
 refine a_b8 k σ _ ((r_a k).mono ?_)
 rintro r σ' ⟨rfl,d,rfl,hd⟩
 refine ⟨d,rfl,(hd σ').lenK ⟨fun n m s=>s=σ'∧Rng (j_y k) (fun r=>r.foldl u_6 n=c_s k) m,fun n m _=>(j_y k).length - m.toNat,⟨rfl, .start (a_nd k)⟩,?_⟩⟩
 rintro n m _ ⟨rfl,hr⟩
 refine bcd (fun hlt=>?_) (fun hge=>?_)
 · obtain ⟨j,x,rfl,hx,hj,hF,nx⟩:=hr.step (by simp) (a_cy k) hlt
   refine (hd _).load (a_x hx) i_s rfl ⟨x.1,x.2.1,x.2.2,rfl,by omega,by omega,by omega,by omega,r_q rfl (nx (fun r=>r.foldl u_6 (u_6 n x) =c_s k) hF)⟩
 · have:=hr.done (by simp) hge
   exact ⟨by rw[←this];rfl,rfl⟩
theorem e_d (n lo hi:Int) :Pure prog d_e [iA n,iA lo,iA hi] σ (.a (bA (decide (lo≤n∧n≤hi)))):=by
 refine v_x n lo hi σ _ (bcd (fun h=>⟨?_,rfl⟩) (fun h=>⟨?_,rfl⟩))
 · simp[h]
 · simp[h]
theorem f_z {d:D}{js:List Jt}(s e:Int)(h:At prog σ b_o d (js.map Jt.enc)) :Pure prog e_p [.one d,iA s,iA e] σ (opt2 (nxt js s e)):=by
 have hl:=h.size
 rw[List.length_map] at hl
 refine a_c2 d s e σ _ (h.lenK ⟨fun n σ'=>σ'=σ∧Rng js (fun r=>nxt r s e=nxt js s e) n,fun n _=>js.length - n.toNat,⟨rfl, .start rfl⟩,?_⟩)
 rintro n σ' ⟨rfl,hr⟩
 refine bcd (fun hlt=>?_) (fun hge=>?_)
 · obtain ⟨j,x,rfl,hx,hj,hF,nx⟩:=hr.step (by simp) hl hlt
   refine h.load (a_x hx) c_q rfl ⟨x.A,x.AEnd,x.B,x.BEnd,rfl,?_⟩
   rw[nxt] at hF
   repeat' (first | refine bce (fun _=>?_) (fun _=>?_))
   all_goals first
     | exact ⟨by rw[←hF];simp[*,opt2],rfl⟩
     | exact r_q rfl (nx (fun r=>nxt r s e=nxt js s e) (by simpa[*] using hF))
 · exact ⟨by rw[←hr.done (by simp) hge];rfl,rfl⟩
theorem h_t {d:D}{l:List Int}(v:Int)(h:At prog σ a_f d (l.map Go.Fw.encI)) :Pure prog d_8 [.one d,iA v] σ (.a (iA (i_y l v 0))):=by
 have hl:=h.size
 rw[List.length_map] at hl
 refine q_k d v σ _ (h.lenK ⟨fun n σ'=>σ'=σ∧Rng l (fun r=>(∀j:Nat,n=j→i_y r v j=i_y l v 0)) n,fun n _=>l.length - n.toNat,⟨rfl, .start fun j hj=>by cases j with | zero=>rfl | succ j=>omega⟩,?_⟩)
 rintro n σ' ⟨rfl,hr⟩
 refine bcd (fun hlt=>?_) (fun hge=>?_)
 · obtain ⟨j,x,rfl,hx,hj,hF,nx⟩:=hr.step (by simp) hl hlt
   refine h.load (a_x hx) c_int rfl ⟨x,rfl,?_⟩
   have hF:=hF j rfl
   rw[i_y] at hF
   refine bce (fun _=>?_) (fun _=>?_)
   · exact ⟨by rw[←hF];simp[*],rfl⟩
   · refine r_q rfl (nx _ fun j' hj'=>?_)
     rw[a_m (by omega)] at hj'
     obtain rfl:j'=j+1:=by omega
     rw[if_neg (fun e=>by simp_all)] at hF
     exact hF
 · refine ⟨?_,rfl⟩
   obtain ⟨j,hj,hj2,hF⟩:=hr
   have hF:=hF j hj
   rw[e_j (by simp at hge;omega)] at hF
   rw[←hF];rfl
theorem p_5 {W:World}{cs:Array Value}{t:TypeId}{j:Nat}{v:Value}(h:cs[j]? =some v) :(W.alloc (.cells cs t)).cell? ⟨W.heap.size,j,none⟩ =some v:=by
 unfold World.cell?
 rw[(MapKept.heap_alloc W _).1]
 exact h
theorem z_5 (a b p e:Int)(W:World)(hgl:Gl prog (i_2 W) W) :Calls prog d_8 #[.slice (some ⟨W.heap.size,0,none⟩) 2 2, .int .i64 e] (W.alloc (.cells #[.int .i64 a, .int .i64 b, .int .i64 p] b_x)) fun r W'=>
   r= .returned (.int .i64 (i_y [a,b] e 0))∧Below (W.heap.size+1) (W.alloc (.cells #[.int .i64 a, .int .i64 b, .int .i64 p] b_x)) W':=by
 have hsz:(W.alloc (.cells #[.int .i64 a, .int .i64 b, .int .i64 p] b_x)).heap.size=W.heap.size+1:=Array.size_push _
 have hA:At prog noS a_f (.sl 1 [[iD a],[iD b]]) ([a,b].map Go.Fw.encI):=⟨⟨rfl, .inr c_int.symm⟩,by simp,fun es rows e=>by injection e with e1 _;rw[←e1,c_int]⟩
 have hcell:∀j v,#[Value.int .i64 a, .int .i64 b, .int .i64 p][j]? =some v→(W.alloc (.cells #[.int .i64 a, .int .i64 b, .int .i64 p] b_x)).cell? ⟨W.heap.size,j,none⟩ =some v:=fun j v h=>p_5 h
 have hV:V (i_2 (W.alloc (.cells #[.int .i64 a, .int .i64 b, .int .i64 p] b_x))) noB (W.alloc (.cells #[.int .i64 a, .int .i64 b, .int .i64 p] b_x)) (.slice (some ⟨W.heap.size,0,none⟩) 2 2) (.sl 1 [[iD a],[iD b]]):=by
   have key:∀(i:Nat) row (j:Nat) d,([[iD a],[iD b]]:List (List D))[i]? =some row→row[j]? =some d→(i=0∧j=0∧row=[iD a]∧d=iD a)∨(i=1∧j=0∧row=[iD b]∧d=iD b):=by
     intro i row j d h1 h2
     rcases i with _ | _ | i
     · simp at h1;subst h1
       rcases j with _ | j
       · simp at h2;exact .inl ⟨rfl,rfl,rfl,h2.symm⟩
       · simp at h2
     · simp at h1;subst h1
       rcases j with _ | j
       · simp at h2;exact .inr ⟨rfl,rfl,rfl,h2.symm⟩
       · simp at h2
     · simp at h1
   refine V.sl ⟨W.heap.size,0,none⟩ 2 2 1 _ (fun i j=>if i=0 then .int .i64 a else .int .i64 b) (fun _=>⟨by show W.heap.size < _;rw[hsz];omega,rfl⟩) rfl (by omega) (fun i row h=>?_) (fun i row j d h hj=>?_) (fun i row j d h hj=>?_)
   · rcases i with _ | _ | i
     · simp at h;subst h;rfl
     · simp at h;subst h;rfl
     · simp at h
   · rcases key i row j d h hj with ⟨rfl,rfl,rfl,rfl⟩ | ⟨rfl,rfl,rfl,rfl⟩
     · exact hcell 0 _ rfl
     · exact hcell 1 _ rfl
   · rcases key i row j d h hj with ⟨rfl,rfl,rfl,rfl⟩ | ⟨rfl,rfl,rfl,rfl⟩
     · exact V.int _ _
     · exact V.int _ _
 have hc:=(h_t e hA).2 (i_2 _) noB (W.alloc (.cells #[.int .i64 a, .int .i64 b, .int .i64 p] b_x)) #[.slice (some ⟨W.heap.size,0,none⟩) 2 2, .int .i64 e] (a_nk (hgl.mono (fun x hx=>Nat.lt_of_lt_of_le hx (Grow.push W (.cells #[.int .i64 a, .int .i64 b, .int .i64 p] b_x)).size) fun x hx=>(Grow.push W (.cells #[.int .i64 a, .int .i64 b, .int .i64 p] b_x)).block x hx)) rfl (by
   intro i v x hv hx
   rcases i with _ | _ | i
   · simp at hv hx
     subst hv hx
     exact hV
   · simp at hv hx
     subst hv hx
     exact V.int _ _
   · simp at hv)
 refine hc.mono fun r W' ⟨v,rr,σ',k',β',q1,⟨q2,_⟩,q3,_,_,q6⟩=>?_
 subst q2
 have hv:=V.inv_int q3
 subst hv
 exact ⟨q1,q6.os,q6.tape,q6.output,q6.size,fun b hb=>q6.block b (by rw[hsz];exact hb) (fun i bi hi=>by cases hi)⟩
theorem u_s (a b p e:Int)(W:World)(hgl:Gl prog (i_2 W) W) :Calls prog g_o #[.agg #[.int .i64 a, .int .i64 b, .int .i64 p], .int .i64 e] W fun r W'=>
   r= .returned (if e=a then .tuple #[.int .i64 b, .bool true] else if e=b then .tuple #[.int .i64 a, .bool true] else .tuple #[.int .i64 0, .bool false])∧Below W.heap.size W W':=by
 have hI:=z_5 a b p e W hgl
 clear hgl
 have fin:∀W',Below (W.heap.size+1) (W.alloc (.cells #[.int .i64 a, .int .i64 b, .int .i64 p] b_x)) W'→Below W.heap.size W W':=fun W' hb=>
   ((Below.refl _ _).alloc (Nat.le_refl _) _).trans (hb.mono (by omega))
 have cells : ∀ W', Below (W.heap.size + 1) (W.alloc (.cells #[.int .i64 a, .int .i64 b, .int .i64 p] b_x)) W' →
     W'.cell? ⟨W.heap.size,0,none⟩ =some (.int .i64 a)∧W'.cell? ⟨W.heap.size,1,none⟩ =some (.int .i64 b):=fun W' hb=>by
   exact ⟨(hb.cell (p:=⟨W.heap.size,0,none⟩) (Nat.lt_succ_self _)).trans (p_5 rfl),(hb.cell (p:=⟨W.heap.size,1,none⟩) (Nat.lt_succ_self _)).trans (p_5 rfl)⟩
 by_cases h0:e=a
 · subst h0
   rw[show i_y [e,b] e 0=0 by simp[i_y]] at hI
   rw[if_pos rfl]
   go_enter Tryz.func72,Tryz.ntmps72
   go_wp2_with fail
   refine hI.mono ?_
   rintro r W' ⟨rfl,hb⟩
   obtain ⟨c0,c1⟩:=cells W' hb
   have hf:=fin W' hb
   clear cells fin hI hb
   go_wp2
   go_ret2
   exact ⟨rfl,hf⟩
 · by_cases h1:e=b
   · subst h1
     rw[show i_y [a,e] e 0=1 by simp[i_y,h0]] at hI
     rw[if_neg h0,if_pos rfl]
     go_enter Tryz.func72,Tryz.ntmps72
     go_wp2_with fail
     refine hI.mono ?_
     rintro r W' ⟨rfl,hb⟩
     obtain ⟨c0,c1⟩:=cells W' hb
     have hf:=fin W' hb
     clear cells fin hI hb
     go_wp2
     go_ret2
     exact ⟨rfl,hf⟩
   · rw[show i_y [a,b] e 0= -1 by simp[i_y,h0,h1]] at hI
     rw[if_neg h0,if_neg h1]
     go_enter Tryz.func72,Tryz.ntmps72
     go_wp2_with fail
     refine hI.mono ?_
     rintro r W' ⟨rfl,hb⟩
     have hf:=fin W' hb
     clear cells fin hI hb
     go_wp2
     go_ret2
     exact ⟨rfl,hf⟩
theorem a_br (a b p e:Int) :Pure prog g_o [.agg [iD a,iD b,iD p],iA e] σ (opt1 (if e=a then some b else if e=b then some a else none)):=by
 refine ⟨by kernel_rfl,fun k β W vs hS hsz hv=>?_⟩
 have hvs:vs= #[.agg #[.int .i64 a, .int .i64 b, .int .i64 p], .int .i64 e]:=by
   have h0:=hv 0 (vs.getD 0 undef) _ (by simp at hsz;simp[hsz]) rfl
   have h1:=hv 1 (vs.getD 1 undef) _ (by simp at hsz;simp[hsz]) rfl
   obtain ⟨us,e0,hu⟩:=h0
   have e1:=V.inv_int h1
   have hus:us= #[.int .i64 a, .int .i64 b, .int .i64 p]:=by
     apply Array.ext'
     exact a_co hu rfl
   apply Array.ext
   · simpa using hsz
   · intro i h1 h2
     simp at hsz
     match i,h1 with
     | 0,_=>simp[hsz] at e0;simp[e0,hus]
     | 1,_=>simp[hsz] at e1;simp[e1]
     | i+2,h=>omega
 subst hvs
 refine (u_s a b p e W (hS.gl.mono hS.klt fun _ _=>rfl)).mono fun r W' ⟨h1,h2⟩=>?_
 have hg:Grow W W':=⟨h2.os,h2.tape,h2.output,h2.size,h2.block⟩
 have tup:∀(x:Int) (c:Bool),VR k β W' (.tuple #[.int .i64 x, .bool c]) (.tup [iA x,bA c]):=fun x c=>tup2 (v:=iA x) (V.int _ _)
 refine ⟨_,_,σ,k,β,h1,⟨rfl,rfl⟩,?_,hS.grow hg,Ghost.refl _ _ _ _,hg.frm _ _⟩
 by_cases h0:e=a
 · simp only[h0,if_true];exact tup _ _
 · by_cases h1:e=b
   · simp only[h0,h1,if_false,if_true];split <;> exact tup _ _
   · simp only[h0,h1,if_false];exact tup _ _
theorem a_ck (k i o:Int) :Pure prog p_1 [iA k,iA i,iA o] σ (opt1 (p_j (j_y k) i o)):=by
 refine a_f5 k i o σ _ ((r_a k).mono ?_)
 rintro r σ' ⟨rfl,d,rfl,hd⟩
 refine ⟨d,rfl,(hd σ').lenK ⟨fun m s=>s=σ'∧Rng (j_y k) (fun r=>p_j r i o=p_j (j_y k) i o) m,fun m _=>(j_y k).length - m.toNat,⟨rfl, .start rfl⟩,?_⟩⟩
 rintro m _ ⟨rfl,hr⟩
 refine bcd (fun hlt=>?_) (fun hge=>?_)
 · obtain ⟨j,x,rfl,hx,hj,hF,nx⟩:=hr.step (by simp) (a_cy k) hlt
   refine (hd _).load (a_x hx) i_s rfl ⟨x.1,x.2.1,x.2.2,rfl,(a_br _ _ _ _).use ?_⟩
   have hne:x.1≠x.2.1:=by
     have hm:=List.mem_of_getElem? hx
     unfold j_y at hm
     split at hm
     · simp at hm;subst hm;decide
     · split at hm
       · simp at hm;rcases hm with rfl | rfl <;> decide
       · split at hm
         · simp at hm;rcases hm with rfl | rfl <;> decide
         · cases hm
   rw[p_j] at hF
   by_cases h0:i=x.1
   · subst h0
     refine ⟨x.2.1,true,by simp[opt1],?_⟩
     refine bce (fun h1=>?_) (fun h1=>?_)
     · exact ⟨by rw[←hF];simp[*,opt1],rfl⟩
     · exact r_q rfl (nx (fun r=>p_j r x.1 o=p_j (j_y k) x.1 o) (by rw[if_neg (by rintro (⟨_,h⟩ | ⟨h,_⟩);exact h1 h;exact hne h.symm)] at hF;exact hF))
   · by_cases h1:i=x.2.1
     · subst h1
       refine ⟨x.1,true,by simp[opt1,h0],?_⟩
       refine bce (fun h1=>?_) (fun h1=>?_)
       · exact ⟨by rw[←hF];simp[*,opt1],rfl⟩
       · exact r_q rfl (nx (fun r=>p_j r x.2.1 o=p_j (j_y k) x.2.1 o) (by rw[if_neg (by rintro (⟨h,_⟩ | ⟨_,h⟩);exact hne h;exact h1 h)] at hF;exact hF))
     · refine ⟨0,false,by simp[opt1,h0,h1],?_⟩
       exact r_q rfl (nx (fun r=>p_j r i o=p_j (j_y k) i o) (by rw[if_neg (by rintro (⟨h,_⟩ | ⟨h,_⟩);exact h0 h.symm;exact h1 h.symm)] at hF;exact hF))
 · have:=hr.done (by simp) hge
   exact ⟨by rw[←this];rfl,rfl⟩
end Go.Proofs.YtfdffboelecgoaaGreatDoor
end
namespace Go.Proofs.YtfdffboelecgoaaGreatDoor
open Go.Fw Go.Proofs Go.RowKit
open Go.Proofs.Tryz (prog)
section
variable {σ:Store}
abbrev encP (p:Int × Int) :A:= .agg [iD p.1,iD p.2]
theorem i_c:Keys prog b_6 encP:=a_i9 fun a b=>by kernel_rfl
theorem l_7:Keys prog a_f iA:=⟨fun x=>by kernel_rfl,fun x y=>by simp[eqA,b_y,b_r,d_y]⟩
theorem y_c {d1 d2:D}{secs:List Sec}{js:List Jt}(hs:∀s,At prog s a_u d1 (secs.map Sec.enc))(hj:∀s,At prog s b_o d2 (js.map Jt.enc)) :
   Pure prog l_5 [.one d1, .one d2] σ (.a (iA (if d_0 secs js=true then 0 else 6))):=by
 have hls:=(hs σ).size
 have hlj:=(hj σ).size
 rw[List.length_map] at hls hlj
 refine .of (a_ai d1 d2 σ _ ?_) (a_n5 _)
 intro R hR
 refine (hs σ).lenK ((e_d _ _ _).use ⟨_,rfl,c_g (fun h=>?_) (fun h=>(hj σ).lenK (bcd (fun h2=>?_) (fun h2=>hR σ ?_)))⟩)
 · simp at h
   exact ⟨by rw[if_neg];simp[d_0];omega, .refl _⟩
 · simp at h2
   exact ⟨by rw[if_neg];simp[d_0];omega, .refl _⟩
 simp at h h2
 have hsize:decide (1≤secs.length∧secs.length≤16∧js.length≤24) =true:=by simp;omega
 refine a_n fun id σ1 hid _ he hs1=>(hj σ1).lenK ⟨fun n s=>∃tk f,MapAt prog b_6 encP s id f∧(∀z,f z=if z ∈ tk then some (iA 1) else none)∧Ext σ s∧Rng js (fun r=>q_g secs r tk=q_g secs js []) n,
   fun n _=>js.length - n.toNat,⟨[],_, .new hs1,fun z=>by simp,he, .start rfl⟩,?_⟩
 rintro n s ⟨tk,f,hm,hf,hes,hr⟩
 refine bcd (fun hlt=>?_) (fun hge=>?_)
 · obtain ⟨j,x,rfl,hx,hjl,hF,nx⟩:=hr.step (by simp) hlj hlt
   refine (hj s).load (a_x hx) c_q rfl ⟨x.A,x.AEnd,x.B,x.BEnd,rfl,?_⟩
   refine a_n fun id1 s1 hid1 _ he1 hs2=>?_
   have hne:id≠id1:=fun e=>by
     obtain ⟨c,es,h1,_⟩:=hm
     rw[e,hid1] at h1;cases h1
   have hbad:p_o secs x.spots tk=none∨x.A=x.B→(if d_0 secs js=true then (0:Int) else 6) =6:=by
     intro hb
     have:q_g secs js []=none:=by
       rw[←hF,q_g]
       rcases hb with hb | hb
       · rw[hb]
       · cases p_o secs x.spots tk with
         | none=>rfl
         | some tk'=>simp[hb]
     rw[if_neg];simp[d_0,this]
   have hloc:∀s',s' id1= .live b_6 [[iD x.A,iD x.AEnd],[iD x.B,iD x.BEnd]]→At prog s' b_6 (.osl id1 0 2) (x.spots.map fun p=> [iD p.1,iD p.2]):=fun s' h=>At.fresh h (by simp) rfl
   refine (hloc s1 hs2).lenK ⟨fun m s'=>∃tk' f',MapAt prog b_6 encP s' id f'∧(∀z,f' z=if z ∈ tk' then some (iA 1) else none)∧Ext σ s'∧s' id1= .live b_6 [[iD x.A,iD x.AEnd],[iD x.B,iD x.BEnd]]∧
     Rng x.spots (fun q=>p_o secs q tk'=p_o secs x.spots tk) m,fun m _=>x.spots.length - m.toNat,⟨tk,f,hm.same (he1 id (fun e=>hne (by
       obtain ⟨c,es,h1,_⟩:=hm
       rw[e] at h1;cases h1))),hf,hes.trans he1,hs2, .start rfl⟩,?_⟩
   rintro m s' ⟨tk',f',hm',hf',hes',hs2',hr'⟩
   refine bcd (fun hlt'=>?_) (fun hge'=>?_)
   · obtain ⟨i,p,rfl,hp,hil,hG,nx'⟩:=hr'.step (by simp) (by simp[Jt.spots]) hlt'
     refine (hloc s' hs2').load (a_x hp) a_dx rfl ⟨p.1,p.2,rfl,(hs s').lenK ?_⟩
     rw[p_o] at hG
     have hw1:w64 (((secs.map Sec.enc).length:Int) - 1) =(secs.length:Int) - 1:=by rw[List.length_map,g_n (by omega) (by omega)]
     refine (e_d _ _ _).use ⟨_,rfl,?_⟩
     rw[hw1]
     refine c_g (fun h3=>?_) (fun h3=>?_)
     · exact ⟨by rw[hbad (.inl ?_)];rw[←hG,if_neg];simp only[i_i,h3];simp,hes'⟩
     · have h3':=of_decide_eq_true h3
       obtain ⟨y,hy⟩:=a_r (l:=secs) (j:=p.1.toNat) (by omega)
       refine (hs s').load (a_x hy) b_j (by omega) ⟨y.Kind,rfl,(l_y _).use ⟨_,rfl,(e_d _ _ _).use ⟨_,rfl,?_⟩⟩⟩
       have hk:n_p secs p.1=y.Kind:=by simp[n_p,hy]
       have hn:=w_q y.Kind
       rw[g_n (n:=c_s y.Kind - 1) (by omega) (by omega)]
       refine c_g (fun h4=>?_) (fun h4=>?_)
       · exact ⟨by rw[hbad (.inl ?_)];rw[←hG,if_neg];simp only[i_i,hk,h4];simp,hes'⟩
       · have hok:i_i secs p=true:=by simp only[i_i,hk,h3,h4];rfl
         by_cases hin:p ∈ tk'
         · refine hm'.lookI i_c p (n:=1) (by rw[hf',if_pos hin];rfl) (bcd (fun _=>?_) (fun h=>absurd (by decide) h))
           exact ⟨by rw[hbad (.inl ?_)];rw[←hG,if_neg];simp[hin],hes'⟩
         · refine hm'.lookI i_c p (n:=0) (by rw[hf',if_neg hin];rfl) (bcd (fun h=>absurd h (by decide)) (fun _=>?_))
           refine hm'.lookI i_c p (n:=0) (by rw[hf',if_neg hin];rfl) ?_
           rw[if_pos ⟨hok,hin⟩] at hG
           refine hm'.bump i_c p fun s3 f3 hm3 hf3 hf3' hs3 hs3'=>⟨rfl,?_⟩
           have hn2:=nx' (fun q=>p_o secs q (p::tk') =p_o secs x.spots tk) hG
           refine ⟨⟨p::tk',f3,hm3,fun z=>?_,fun i hi=>?_,?_,hn2.1⟩,hn2.2⟩
           · by_cases hz:z=p
             · subst hz;rw[hf3'];simp;rfl
             · rw[hf3 z hz,hf'];simp[hz]
           · rw[hs3 i (fun e=>?_)]
             · exact hes' i hi
             · subst e;rw[hid] at hi;exact hi rfl
           · rw[hs3 _ (Ne.symm hne)];exact hs2'
   · have hG:=hr'.done (by simp) hge'
     rw[p_o] at hG
     refine bce (fun h5=>⟨by rw[hbad (.inr h5)],hes'⟩) (fun h5=>?_)
     rw[q_g,←hG] at hF
     simp only[if_neg h5] at hF
     have hn2:=nx (fun r=>q_g secs r tk'=q_g secs js []) hF
     exact ⟨⟨tk',f',hm',hf',hes',hn2.1⟩,hn2.2⟩
 · have hF:=hr.done (by simp) hge
   rw[q_g] at hF
   have htop:d_0 secs js=p_v tk secs 0 []:=by simp only[d_0,hsize,←hF,Bool.true_and]
   rw[htop]
   clear htop hr hF hR
   refine a_n fun id1 s1 hid1 _ he1 hs2=>?_
   have hne:id≠id1:=fun e=>by
     obtain ⟨c,es,h1,_⟩:=hm
     rw[e,hid1] at h1;cases h1
   refine (hs s1).lenK ⟨fun n s'=>∃ls f2,MapAt prog a_f iA s' id1 f2∧(∀z,z ∉ ls→f2 z=none)∧(∀z,z ∈ ls→∃c:Int,1≤c∧c≤n∧f2 z=some (iA c))∧MapAt prog b_6 encP s' id f∧Ext σ s'∧
     Rng secs (fun r=>p_v tk r n ls=p_v tk secs 0 []) n,fun n _=>secs.length - n.toNat,⟨[],_, .new hs2,fun z _=>rfl,fun z hz=>(by cases hz),hm.same (he1 id (fun e=>by
       obtain ⟨c,es,h1,_⟩:=hm
       rw[e] at h1;cases h1)),hes.trans he1, .start rfl⟩,?_⟩
   rintro n s' ⟨ls,f2,hm2,hf2,hf2',hm',hes',hr⟩
   refine bcd (fun hlt=>?_) (fun hge=>?_)
   · obtain ⟨j,x,rfl,hx,hjl,hF,nx⟩:=hr.step (by simp) hls hlt
     refine (hs s').load (a_x hx) b_j rfl ⟨x.Kind,x.OC,x.Line,rfl,?_⟩
     intro R1 hR1
     rw[p_v] at hF
     have hbad:∀hc:(c_s x.Kind=0∨¬(0≤x.OC∧x.OC≤3)∨¬(0≤x.Line∧x.Line≤3)∨x.Line≠0∧(x.Kind≠0∨((j:Int),1) ∈ tk∨x.Line ∈ ls)),(if p_v tk secs 0 []=true then (0:Int) else 6) =6:=by
       intro hc
       rw[if_pos hc] at hF
       rw[←hF];rfl
     refine (l_y _).use ⟨_,rfl,bce (fun h1=>⟨by rw[hbad (.inl h1)],hes'⟩) (fun h1=>(e_d _ _ _).use ⟨_,rfl,c_g (fun h2=>⟨by rw[hbad (.inr (.inl (of_decide_eq_false h2)))],hes'⟩) (fun h2=>(e_d _ _ _).use ⟨_,rfl,c_g (fun h3=>⟨by rw[hbad (.inr (.inr (.inl (of_decide_eq_false h3))))],hes'⟩) (fun h3=>⟨rfl,hR1 s' ?_⟩)⟩)⟩)⟩
     have put : ∀ hc : ¬ (x.Line ≠ 0 ∧ (x.Kind ≠ 0 ∨ ((j : Int), 1) ∈ tk ∨ x.Line ∈ ls)), ∃ c : Int, (f2 x.Line).getD (iA 0) = iA c ∧ 0 ≤ c ∧ c ≤ j ∧ (x.Line ∉ ls → c = 0) ∧ ∀ (c' : Int), c' = c → MPut prog a_f s' (.omap id1) (iA x.Line) (iA (w64 (c' + 1))) fun s6 =>
         (∃ls f2,MapAt prog a_f iA s6 id1 f2∧(∀z,z ∉ ls→f2 z=none)∧(∀z,z ∈ ls→∃c:Int,1≤c∧c≤w64 ((j:Int) +1)∧f2 z=some (iA c))∧MapAt prog b_6 encP s6 id f∧Ext σ s6∧
           Rng secs (fun r=>p_v tk r (w64 ((j:Int) +1)) ls=p_v tk secs 0 []) (w64 ((j:Int) +1)))∧secs.length - (w64 ((j:Int) +1)).toNat < secs.length - (j:Int).toNat:=by
       intro hc
       have hgo:¬(c_s x.Kind=0∨¬(0≤x.OC∧x.OC≤3)∨¬(0≤x.Line∧x.Line≤3)∨x.Line≠0∧(x.Kind≠0∨((j:Int),1) ∈ tk∨x.Line ∈ ls)):=by
         rintro (h | h | h | h)
         · exact h1 h
         · exact h (of_decide_eq_true h2)
         · exact h (of_decide_eq_true h3)
         · exact hc h
       rw[if_neg hgo] at hF
       have hcount:∃c:Int,(f2 x.Line).getD (iA 0) =iA c∧0≤c∧c≤j∧(x.Line ∉ ls→c=0):=by
         by_cases hin:x.Line ∈ ls
         · obtain ⟨c,c1,c2,c3⟩:=hf2' _ hin
           exact ⟨c,by rw[c3];rfl,by omega,c2,fun h=>absurd hin h⟩
         · exact ⟨0,by rw[hf2 _ hin];rfl,by omega,by omega,fun _=>rfl⟩
       obtain ⟨c,k1,k2,k3,k4⟩:=hcount
       refine ⟨c,k1,k2,k3,k4,fun c' hc'=>?_⟩
       subst hc'
       refine hm2.put l_7 x.Line fun s6 f6 g1 g2 g3 g4 g5=>?_
       have hn2:=nx (fun r=>p_v tk r (w64 ((j:Int) +1)) (x.Line::ls) =p_v tk secs 0 []) (by rw[a_m (by omega)];simpa using hF)
       have hw:w64 ((j:Int) +1) =(j:Int) +1:=g_n (by omega) (by omega)
       refine ⟨⟨x.Line::ls,f6,g1,fun z hz=>?_,fun z hz=>?_,hm'.same (g4 _ hne),fun i hi=>?_,hn2.1⟩,hn2.2⟩
       · simp only[List.mem_cons,not_or] at hz
         rw[g2 z hz.1];exact hf2 z hz.2
       · by_cases hzx:z=x.Line
         · subst hzx
           exact ⟨c'+1,by omega,by omega,by rw[g3,g_n (by omega) (by omega)]⟩
         · rw[g2 z hzx]
           obtain ⟨c2,q1,q2,q3⟩:=hf2' z ((List.mem_cons.1 hz).resolve_left hzx)
           exact ⟨c2,q1,by omega,q3⟩
       · rw[g4 i (fun e=>?_)]
         · exact hes' i hi
         · subst e
           have:=hes _ hi
           rw[hid1] at this;exact hi this.symm
     refine bcn (fun h4=>bcn (fun h5=>⟨by rw[hbad (.inr (.inr (.inr ⟨h4, .inl h5⟩)))],hes'⟩) (fun h5=>?_)) (fun h4=>?_)
     · by_cases hin:((j:Int),(1:Int)) ∈ tk
       · refine hm'.lookI i_c ((j:Int),(1:Int)) (n:=1) (by rw[hf,if_pos hin];rfl) (bcd (fun _=>⟨by rw[hbad (.inr (.inr (.inr ⟨h4, .inr (.inl hin)⟩)))],hes'⟩) (fun h=>absurd (by decide) h))
       · refine hm'.lookI i_c ((j:Int),(1:Int)) (n:=0) (by rw[hf,if_neg hin];rfl) (bcd (fun h=>absurd h (by decide)) (fun _=>?_))
         by_cases hin2:x.Line ∈ ls
         · obtain ⟨c,c1,c2,c3⟩:=hf2' _ hin2
           exact hm2.lookI l_7 x.Line (n:=c) (by rw[c3];rfl) (bcd (fun _=>⟨by rw[hbad (.inr (.inr (.inr ⟨h4, .inr (.inr hin2)⟩)))],hes'⟩) (fun h=>absurd (show c > 0 by omega) h))
         · obtain ⟨c,k1,k2,k3,k4,k5⟩:=put (by rintro ⟨_,h | h | h⟩;exact h h5;exact hin h;exact hin2 h)
           have:=k4 hin2
           refine hm2.lookI l_7 x.Line k1 (bcd (fun h=>absurd h (by omega)) (fun _=>hm2.lookI l_7 x.Line k1 (k5 c rfl)))
     · obtain ⟨c,k1,k2,k3,k4,k5⟩:=put (fun h=>h.1 h4)
       exact hm2.lookI l_7 x.Line k1 (k5 c rfl)
   · have hF:=hr.done (by simp) hge
     rw[p_v] at hF
     exact ⟨by rw[←hF];rfl,hes'⟩
end
section
variable {σ:Store}
theorem r_v {d f:D}{l:List St}{p:St→Bool}(h:At prog σ a_p d (l.map St.enc))(hf:FnIs prog σ f (fun x:St=> .agg x.enc) l p) :
   Pure prog d_x [.one d, .one f] σ (.a (iA (j_2 p l 0))):=by
 have hl:=h.size
 rw[List.length_map] at hl
 obtain ⟨f1,a,b,as0',bs,rfl,ha,hb,hf⟩:=hf
 refine k_h d _ σ _ (h.lenK ⟨fun n s=>s=σ∧Rng l (fun r=>∀j:Nat,n=j→j_2 p r j=j_2 p l 0) n,fun n _=>l.length - n.toNat,⟨rfl, .start fun j hj=>by cases j with | zero=>rfl | succ j=>omega⟩,?_⟩)
 rintro n τ ⟨rfl,hr⟩
 refine bcd (fun hlt=>?_) (fun hge=>?_)
 · obtain ⟨j,x,rfl,hx,hj,hF,nx⟩:=hr.step (by simp) hl hlt
   refine h.load (a_x hx) e_a rfl ⟨x.Sec,x.In,x.Out,rfl,f1,a,b,as0',bs,rfl,ha,hb,?_⟩
   have hF:=hF j rfl
   rw[j_2] at hF
   refine (hf x (List.mem_of_getElem? hx)).mono ?_
   rintro r s ⟨rfl,rfl⟩
   refine ⟨p x,rfl,bc (fun hp=>?_) (fun hp=>?_)⟩
   · rw[if_pos hp] at hF;exact ⟨by rw[←hF],rfl⟩
   · refine r_q rfl (nx _ fun j' hj'=>?_)
     rw[a_m (by omega)] at hj'
     have:j'=j+1:=by omega
     subst this
     rw[if_neg (by rw[hp];simp)] at hF
     exact hF
 · refine ⟨?_,rfl⟩
   obtain ⟨j,hj,hj2,hF⟩:=hr
   have hF:=hF j hj
   rw[List.length_map] at hge
   rw[e_j (by omega)] at hF
   rw[←hF];rfl
theorem n_z {d f:D}{l:List St}{p:St→Bool}(h:At prog σ a_p d (l.map St.enc))(hf:FnIs prog σ f (fun x:St=> .agg x.enc) l p) :
   Pure prog d_c [.one d, .one f] σ (.a (bA (l.any p))):=
 i_t d f σ _ ((r_v h hf).use ⟨_,rfl,by rw[r_1];exact ⟨rfl,rfl⟩⟩)
theorem q_t {d f:D}{l:List Nd}{p:Nd→Bool}(h:At prog σ a_2 d (l.map Nd.enc))(hf:FnIs prog σ f (fun x:Nd=> .agg x.enc) l p) :
   Pure prog d_4 [.one d, .one f] σ (.a (iA (j_2 p l 0))):=by
 have hl:=h.size
 rw[List.length_map] at hl
 obtain ⟨f1,a,b,as0',bs,rfl,ha,hb,hf⟩:=hf
 refine k_q d _ σ _ (h.lenK ⟨fun n s=>s=σ∧Rng l (fun r=>∀j:Nat,n=j→j_2 p r j=j_2 p l 0) n,fun n _=>l.length - n.toNat,⟨rfl, .start fun j hj=>by cases j with | zero=>rfl | succ j=>omega⟩,?_⟩)
 rintro n τ ⟨rfl,hr⟩
 refine bcd (fun hlt=>?_) (fun hge=>?_)
 · obtain ⟨j,x,rfl,hx,hj,hF,nx⟩:=hr.step (by simp) hl hlt
   refine h.load (a_x hx) e_t rfl ⟨x.Sec,x.Pos,rfl,f1,a,b,as0',bs,rfl,ha,hb,?_⟩
   have hF:=hF j rfl
   rw[j_2] at hF
   refine (hf x (List.mem_of_getElem? hx)).mono ?_
   rintro r s ⟨rfl,rfl⟩
   refine ⟨p x,rfl,bc (fun hp=>?_) (fun hp=>?_)⟩
   · rw[if_pos hp] at hF;exact ⟨by rw[←hF],rfl⟩
   · refine r_q rfl (nx _ fun j' hj'=>?_)
     rw[a_m (by omega)] at hj'
     have:j'=j+1:=by omega
     subst this
     rw[if_neg (by rw[hp];simp)] at hF
     exact hF
 · refine ⟨?_,rfl⟩
   obtain ⟨j,hj,hj2,hF⟩:=hr
   have hF:=hF j hj
   rw[List.length_map] at hge
   rw[e_j (by omega)] at hF
   rw[←hF];rfl
theorem n_x {d f:D}{l:List Nd}{p:Nd→Bool}(h:At prog σ a_2 d (l.map Nd.enc))(hf:FnIs prog σ f (fun x:Nd=> .agg x.enc) l p) :
   Pure prog c_j [.one d, .one f] σ (.a (bA (l.any p))):=
 i_z d f σ _ ((q_t h hf).use ⟨_,rfl,by rw[r_1];exact ⟨rfl,rfl⟩⟩)
theorem u_j {d:D}{l:List Sg}(v:Sg)(h:At prog σ a_0 d (l.map Sg.enc)) :Pure prog e_e [.one d, .agg v.enc] σ (.a (iA (j_2 (fun x=>decide (v=x)) l 0))):=by
 have hl:=h.size
 rw[List.length_map] at hl
 refine m_e d v.Sec v.End_ σ _ (h.lenK ⟨fun n s=>s=σ∧Rng l (fun r=>∀j:Nat,n=j→j_2 (fun x=>decide (v=x)) r j=j_2 (fun x=>decide (v=x)) l 0) n,fun n _=>l.length - n.toNat,⟨rfl, .start fun j hj=>by cases j with | zero=>rfl | succ j=>omega⟩,?_⟩)
 rintro n τ ⟨rfl,hr⟩
 refine bcd (fun hlt=>?_) (fun hge=>?_)
 · obtain ⟨j,x,rfl,hx,hj,hF,nx⟩:=hr.step (by simp) hl hlt
   refine h.load (a_x hx) b_w rfl ⟨x.Sec,x.End_,rfl,?_⟩
   have hF:=hF j rfl
   rw[j_2] at hF
   have hd:((v.Sec == x.Sec) && (v.End_ == x.End_)) =decide (v=x):=by
     rw[Bool.eq_iff_iff];cases v;cases x;simp
   rw[hd]
   refine bc (fun hp=>?_) (fun hp=>?_)
   · rw[if_pos hp] at hF;exact ⟨by rw[←hF],rfl⟩
   · refine r_q rfl (nx _ fun j' hj'=>?_)
     rw[a_m (by omega)] at hj'
     have:j'=j+1:=by omega
     subst this
     rw[if_neg (by rw[hp];simp)] at hF
     exact hF
 · refine ⟨?_,rfl⟩
   obtain ⟨j,hj,hj2,hF⟩:=hr
   have hF:=hF j hj
   rw[List.length_map] at hge
   rw[e_j (by omega)] at hF
   rw[←hF];rfl
theorem p_r {d:D}{l:List Sg}(v:Sg)(h:At prog σ a_0 d (l.map Sg.enc)) :Pure prog d_t [.one d, .agg v.enc] σ (.a (bA (l.any fun x=>decide (v=x)))):=
 j_v d v.Sec v.End_ σ _ ((u_j v h).use ⟨_,rfl,by rw[r_1];exact ⟨rfl,rfl⟩⟩)
theorem x_n {d1 d2:D}{l1 l2:List Nd}(h1:At prog σ a_2 d1 (l1.map Nd.enc))(h2:At prog σ a_2 d2 (l2.map Nd.enc)) :Pure prog e_4 [.one d1, .one d2] σ (.a (bA (decide (l1=l2)))):=by
 have hl1:=h1.size
 have hl2:=h2.size
 rw[List.length_map] at hl1 hl2
 refine o_i d1 d2 σ _ (h1.lenK (h2.lenK (bcn (fun hne=>?_) (fun heq=>h1.lenK ?_))))
 · rw[List.length_map,List.length_map] at hne
   exact ⟨by rw[decide_eq_false (fun e=>hne (by rw[e]))],rfl⟩
 rw[List.length_map,List.length_map] at heq
 refine ⟨fun n s=>s=σ∧Rng l1 (fun r=>∀j:Nat,n=j→(r=l2.drop j↔l1=l2)) n,fun n _=>l1.length - n.toNat,⟨rfl, .start fun j hj=>by cases j with | zero=>simp | succ j=>omega⟩,?_⟩
 rintro n τ ⟨rfl,hr⟩
 refine bcd (fun hlt=>?_) (fun hge=>?_)
 · obtain ⟨j,x,rfl,hx,hj,hF,nx⟩:=hr.step (by simp) hl1 hlt
   obtain ⟨y,hy⟩:=a_r (l:=l2) (j:=j) (by omega)
   refine h1.load (a_x hx) e_t rfl ⟨x.Sec,x.Pos,rfl,h2.load (a_x hy) e_t rfl ⟨y.Sec,y.Pos,rfl,?_⟩⟩
   have hF:=hF j rfl
   rw[k_v hy,List.cons.injEq] at hF
   have hd:((x.Sec == y.Sec) && (x.Pos == y.Pos)) =decide (x=y):=by
     rw[Bool.eq_iff_iff];cases x;cases y;simp
   rw[hd]
   refine c_g (fun hp=>?_) (fun hp=>?_)
   · exact ⟨by rw[decide_eq_false (fun e=>of_decide_eq_false hp (hF.2 e).1)],rfl⟩
   · refine r_q rfl (nx _ fun j' hj'=>?_)
     rw[a_m (by omega)] at hj'
     have:j'=j+1:=by omega
     subst this
     rw[←hF];exact ⟨fun h=>⟨of_decide_eq_true hp,h⟩,fun h=>h.2⟩
 · obtain ⟨j,hj,hj2,hF⟩:=hr
   rw[List.length_map] at hge
   have hF:=hF j hj
   rw[e_j (by omega),e_j (by omega)] at hF
   exact ⟨by rw[decide_eq_true (hF.1 rfl)],rfl⟩
theorem a_a2 {d1 d2:D}{l1 l2:List Int}(h1:At prog σ a_f d1 (l1.map Go.Fw.encI))(h2:At prog σ a_f d2 (l2.map Go.Fw.encI)) :Pure prog f_o [.one d1, .one d2] σ (.a (bA (decide (l1=l2)))):=by
 have hl1:=h1.size
 have hl2:=h2.size
 rw[List.length_map] at hl1 hl2
 refine p_i d1 d2 σ _ (h1.lenK (h2.lenK (bcn (fun hne=>?_) (fun heq=>h1.lenK ?_))))
 · rw[List.length_map,List.length_map] at hne
   exact ⟨by rw[decide_eq_false (fun e=>hne (by rw[e]))],rfl⟩
 rw[List.length_map,List.length_map] at heq
 refine ⟨fun n s=>s=σ∧Rng l1 (fun r=>∀j:Nat,n=j→(r=l2.drop j↔l1=l2)) n,fun n _=>l1.length - n.toNat,⟨rfl, .start fun j hj=>by cases j with | zero=>simp | succ j=>omega⟩,?_⟩
 rintro n τ ⟨rfl,hr⟩
 refine bcd (fun hlt=>?_) (fun hge=>?_)
 · obtain ⟨j,x,rfl,hx,hj,hF,nx⟩:=hr.step (by simp) hl1 hlt
   obtain ⟨y,hy⟩:=a_r (l:=l2) (j:=j) (by omega)
   refine h1.load (a_x hx) c_int rfl ⟨x,rfl,h2.load (a_x hy) c_int rfl ⟨y,rfl,?_⟩⟩
   have hF:=hF j rfl
   rw[k_v hy,List.cons.injEq] at hF
   refine bcn (fun hp=>?_) (fun hp=>?_)
   · exact ⟨by rw[decide_eq_false (fun e=>hp (hF.2 e).1)],rfl⟩
   · refine r_q rfl (nx _ fun j' hj'=>?_)
     rw[a_m (by omega)] at hj'
     have:j'=j+1:=by omega
     subst this
     rw[←hF];exact ⟨fun h=>⟨hp,h⟩,fun h=>h.2⟩
 · obtain ⟨j,hj,hj2,hF⟩:=hr
   rw[List.length_map] at hge
   have hF:=hF j hj
   rw[e_j (by omega),e_j (by omega)] at hF
   exact ⟨by rw[decide_eq_true (hF.1 rfl)],rfl⟩
end
section
variable {σ:Store}
structure CfAt (σ:Store) (c0 c1 c2 c3 c4:D) (c:Cf) :Prop where
 secs:At prog σ a_u c0 (c.Secs.map Sec.enc)
 jts:At prog σ b_o c1 (c.Jts.map Jt.enc)
 sigs:At prog σ a_0 c2 (c.Sigs.map Sg.enc)
 xs:At prog σ a_f c3 (c.Xs.map Go.Fw.encI)
 rts:a_jf prog a_z a_p a_2 a_f σ c4 c.Rts
abbrev cfA (c0 c1 c2 c3 c4:D)(c:Cf) :A:= .agg [c0,c1,c2,c3,c4,iD c.Age,iD c.Brake,iD c.Hold,iD c.Budget]
abbrev rtA (d1 d2 d3:D)(r:Rt) :A:= .agg [iD r.Entry,iD r.Exit,d1,d2,d3, .bool r.Shunt]
section
variable {c0 c1 c2 c3 c4:D} {c:Cf} (h:CfAt σ c0 c1 c2 c3 c4 c)
include h
theorem e_c (s:Int) :Pure prog b_0 [cfA c0 c1 c2 c3 c4 c,iA s] σ (a_nj (c_c c.Secs s)):=by
 refine o_o _ _ _ _ _ _ _ _ _ s σ _ (bcd (fun h1=>⟨by rw[q_w h1];rfl,rfl⟩) (fun h1=>h.secs.lenK (bcd (fun h2=>⟨by rw[List.length_map] at h2;rw[u_9 h2];rfl,rfl⟩) (fun h2=>?_))))
 rw[List.length_map] at h2
 obtain ⟨x,hx⟩:=a_r (l:=c.Secs) (j:=s.toNat) (by omega)
 refine h.secs.load (a_x hx) b_j (by omega) ⟨x.Kind,x.OC,x.Line,rfl,?_,rfl⟩
 have:c_c c.Secs s=some x:=by unfold c_c;rw[if_neg h1,hx]
 rw[this];rfl
theorem f_8 (s:Int) :Pure prog c_u [cfA c0 c1 c2 c3 c4 c,iA s] σ (sgRV (c_c c.Sigs s)):=by
 refine p_z _ _ _ _ _ _ _ _ _ s σ _ (bcd (fun h1=>⟨by rw[q_w h1];rfl,rfl⟩) (fun h1=>h.sigs.lenK (bcd (fun h2=>⟨by rw[List.length_map] at h2;rw[u_9 h2];rfl,rfl⟩) (fun h2=>?_))))
 rw[List.length_map] at h2
 obtain ⟨x,hx⟩:=a_r (l:=c.Sigs) (j:=s.toNat) (by omega)
 refine h.sigs.load (a_x hx) b_w (by omega) ⟨x.Sec,x.End_,rfl,?_,rfl⟩
 have:c_c c.Sigs s=some x:=by unfold c_c;rw[if_neg h1,hx]
 rw[this];rfl
theorem g_r (r:Rt)(d1 d2 d3:D) :Pure prog c_2 [cfA c0 c1 c2 c3 c4 c,rtA d1 d2 d3 r] σ (.a (iA (c.approach r))):=by
 refine m_q _ _ _ _ _ _ _ _ _ _ _ d1 d2 d3 _ σ _ ((f_8 h r.Entry).use ?_)
 cases hg:c_c c.Sigs r.Entry with
 | none=>exact ⟨0,0,false,rfl,by simp[Cf.approach,hg],rfl⟩
 | some x=>exact ⟨x.Sec,x.End_,true,rfl,by simp[Cf.approach,hg],rfl⟩
theorem a_l2 {i:Nat}{r:Rt}(hr:c.Rts[i]? =some r) :∃rows,At prog σ a_z c4 rows∧rows.length=c.Rts.length∧∃d1 d2 d3,rows[i]? =some [iD r.Entry,iD r.Exit,d1,d2,d3, .bool r.Shunt]∧At prog σ a_p d1 (r.Path.map St.enc)∧At prog σ a_2 d2 (r.Flank.map Nd.enc)∧At prog σ a_f d3 (r.Overlap.map Go.Fw.encI):=by
 obtain ⟨rows,h1,h2,h3⟩:=h.rts
 have hlt:=(List.getElem?_eq_some_iff.1 hr).1
 obtain ⟨row,hrow⟩:=a_r (l:=rows) (j:=i) (by omega)
 obtain ⟨d1,d2,d3,rfl,q1,q2,q3⟩:=h3 i row r hrow hr
 exact ⟨rows,h1,h2,d1,d2,d3,hrow,q1,q2,q3⟩
theorem a_lx:∃rows,At prog σ a_z c4 rows∧rows.length=c.Rts.length:=by
 obtain ⟨rows,h1,h2,h3⟩:=h.rts
 exact ⟨rows,h1,h2⟩
theorem s_b (i:Int) :Pure prog h_m [cfA c0 c1 c2 c3 c4 c,iA i] σ (.a (iA (c.Approach i))):=by
 obtain ⟨rows,hr,hl⟩:=a_lx h
 refine u_2 _ _ _ _ _ _ _ _ _ i σ _ (bcd (fun h1=>⟨by rw[Cf.Approach,q_w h1];rfl,rfl⟩) (fun h1=>hr.lenK (bcd (fun h2=>⟨by rw[hl] at h2;rw[Cf.Approach,u_9 h2];rfl,rfl⟩) (fun h2=>?_))))
 rw[hl] at h2
 obtain ⟨x,hx⟩:=a_r (l:=c.Rts) (j:=i.toNat) (by omega)
 obtain ⟨rows',hr',_,d1,d2,d3,hrow,_⟩:=a_l2 h hx
 refine hr'.load hrow b_k (by omega) ⟨_,_,d1,d2,d3,_,rfl,(g_r h x d1 d2 d3).use ⟨_,rfl,?_,rfl⟩⟩
 have:c_c c.Rts i=some x:=by unfold c_c;rw[if_neg h1,hx]
 rw[Cf.Approach,this];rfl
end
theorem a_j9 {α:Type}{f1:FuncId}{id:Nat}{t:TypeId}{n:Int}{arg:α→A}{l:List α}{p:α→Bool}(hs:σ id= .live t [[iD n]])
   (hf:∀x ∈ l,DCalls prog f1 [arg x, .one (.el (.osl id 0 1) 0 0)] σ fun r s=>r= .a (bA (p x))∧s=σ) :FnIs prog σ (.fn f1 [] [(false,[.el (.osl id 0 1) 0 0])]) arg l p:=
 ⟨f1,_,_,[],[.one (.el (.osl id 0 1) 0 0)],rfl,rfl,rfl,hf⟩
theorem a_g {id:Nat}{t:TypeId}{row:List D}(hs:σ id= .live t [row]) :Row σ (.osl id 0 1) 0 row:=⟨by omega,t,[row],hs,rfl⟩
theorem t_0 {d:D}{path:List St}(s:Int)(h:At prog σ a_p d (path.map St.enc)) :Pure prog l_t [.one d,iA s] σ (.a (bA (l_l path s))):=by
 refine .of (a_e9 d s σ _ (a_n fun id σ1 hid _ he hs=>?_)) (v_y _)
 refine (n_z (p:=fun x=>x.Sec == s) (h.ext he) (a_j9 hs fun x _=>?_)).use ⟨_,rfl,rfl,he⟩
 exact a_am x.Sec x.In x.Out _ σ1 _ ⟨_,_,_,rfl,_,a_g hs,s,rfl,rfl,rfl⟩
theorem a_ey {d:D}{l:List Nd}{id:Nat}{q:Int}(h:At prog σ a_2 d (l.map Nd.enc))(hs:σ id= .live a_f [[iD q]]) :
   Pure prog c_j [.one d, .one (.fn e_5 [] [(false,[.el (.osl id 0 1) 0 0])])] σ (.a (bA (l.any fun n=>n.Sec == q))):=
 n_x (p:=fun x=>x.Sec == q) h (a_j9 hs fun x _=>o_r x.Sec x.Pos _ σ _ ⟨_,_,_,rfl,_,a_g hs,q,rfl,rfl,rfl⟩)
end
section
variable {σ:Store}
abbrev a_ni (p:Sg) :A:= .agg [iD p.Sec,iD p.End_]
theorem a_ay:Keys prog a_0 a_ni:=by
 refine ⟨fun x=>?_,fun x y=>?_⟩
 · have:∀a b:Int,f_b prog a_0 (.agg [iD a,iD b]) =true:=fun a b=>by kernel_rfl
   exact this _ _
 · cases x;cases y;simp[eqA,b_y,b_r,d_y]
theorem c_n (n lo hi:Int) :Pure prog b_v [iA n,iA lo,iA hi] σ (.a (bA (decide (lo≤n∧n≤hi)))):=by
 refine w_m n lo hi σ _ (bcd (fun h=>⟨?_,rfl⟩) (fun h=>⟨?_,rfl⟩)) <;> simp[h]
section
variable {c0 c1 c2 c3 c4:D} {c:Cf} (h:∀s,CfAt s c0 c1 c2 c3 c4 c)
include h
theorem u_t:Pure prog e_7 [cfA c0 c1 c2 c3 c4 c] σ (.a (bA c.sigsOk)):=by
 have hl:=(h σ).sigs.size
 rw[List.length_map] at hl
 refine .of (o_y _ _ _ _ _ _ _ _ _ σ _ ?_) (v_y _)
 refine a_n fun id σ1 hid _ he hs=>(h σ1).sigs.lenK ⟨fun n s=>∃seen f,MapAt prog a_0 a_ni s id f∧(∀z,f z=if z ∈ seen then some (iA 1) else none)∧Ext σ s∧Rng c.Sigs (fun r=>t_x c.Jts r seen=t_x c.Jts c.Sigs []) n,
   fun n _=>c.Sigs.length - n.toNat,⟨[],_, .new hs,fun z=>by simp,he, .start rfl⟩,?_⟩
 rintro n s ⟨seen,f,hm,hf,hes,hr⟩
 refine bcd (fun hlt=>?_) (fun hge=>?_)
 · obtain ⟨j,x,rfl,hx,hj,hF,nx⟩:=hr.step (by simp) hl hlt
   refine (h s).sigs.load (a_x hx) b_w rfl ⟨x.Sec,x.End_,rfl,(f_z x.Sec x.End_ (h s).jts).use (q_1 _ ?_)⟩
   rw[t_x] at hF
   have key:∀k:Int,f x=(if x ∈ seen then some (iA 1) else none)→((f x).getD (iA 0) =iA (if x ∈ seen then 1 else 0)):=fun k e=>by
     rw[e];split <;> rfl
   refine hm.lookI a_ay x (key 0 (hf x)) (hm.bump a_ay x fun s' f' hm' hf' hfx hs' hne=>?_)
   have hes':Ext σ s':=fun i hi=>by
     rw[hs' i (fun e=>hi (by rw[e];exact hid))];exact hes i hi
   refine c_g (fun hb=>?_) (fun hb=>?_)
   · rw[if_neg (by rw[hb];simp)] at hF
     exact ⟨by simp[Cf.sigsOk,←hF],hes'⟩
   · refine hm'.lookI a_ay x (by rw[hfx];rfl) (bcd (fun h2=>?_) (fun h2=>?_))
     · have hin : x ∈ seen := by
         by_cases hin:x ∈ seen
         · exact hin
         · rw[if_neg hin] at h2;exact absurd h2 (by decide)
       rw[if_neg (by simp[hin])] at hF
       exact ⟨by simp[Cf.sigsOk,←hF],hes'⟩
     · have hin:x ∉ seen:=fun hin=>h2 (by rw[if_pos hin];decide)
       rw[if_pos ⟨hb,hin⟩] at hF
       have hn:=nx (fun r=>t_x c.Jts r (x::seen) =t_x c.Jts c.Sigs []) hF
       refine ⟨⟨x::seen,f',hm',fun z=>?_,hes',hn.1⟩,hn.2⟩
       by_cases hz:z=x
       · subst hz;rw[hfx,if_neg hin];simp;rfl
       · rw[hf' z hz,hf];simp[hz]
 · have hF:=hr.done (by simp) hge
   rw[t_x] at hF
   refine (h s).sigs.lenK ⟨?_,hes⟩
   rw[Cf.sigsOk,←hF,List.length_map,Bool.true_and]
   congr 4;simp;omega
theorem r_w:Pure prog e_f [cfA c0 c1 c2 c3 c4 c] σ (.a (bA c.xsOk)):=by
 have hl:=(h σ).xs.size
 rw[List.length_map] at hl
 refine .of (m_d _ _ _ _ _ _ _ _ _ σ _ ?_) (v_y _)
 refine a_n fun id σ1 hid _ he hs=>(h σ1).xs.lenK ⟨fun n s=>∃seen f,MapAt prog a_f iA s id f∧(∀z,f z=if z ∈ seen then some (iA 1) else none)∧Ext σ s∧Rng c.Xs (fun r=>xrun c.Secs r seen=xrun c.Secs c.Xs []) n,
   fun n _=>c.Xs.length - n.toNat,⟨[],_, .new hs,fun z=>by simp,he, .start rfl⟩,?_⟩
 rintro n s ⟨seen,f,hm,hf,hes,hr⟩
 refine bcd (fun hlt=>?_) (fun hge=>?_)
 · obtain ⟨j,x,rfl,hx,hj,hF,nx⟩:=hr.step (by simp) hl hlt
   refine (h s).xs.load (a_x hx) c_int rfl ⟨x,rfl,(e_c (h s) x).use (w_7 _ ?_)⟩
   rw[xrun] at hF
   have key:(f x).getD (iA 0) =iA (if x ∈ seen then 1 else 0):=by
     rw[hf];split <;> rfl
   refine hm.lookI l_7 x key (hm.put l_7 x fun s' f' hm' hf' hfx hs' hne=>?_)
   have hes':Ext σ s':=fun i hi=>by
     rw[hs' i (fun e=>hi (by rw[e];exact hid))];exact hes i hi
   refine c_g (fun hb=>?_) (fun hb=>?_)
   · cases hg:c_c c.Secs x with
     | some y=>rw[hg] at hb;cases hb
     | none=>
       rw[hg] at hF
       exact ⟨by simp[Cf.xsOk,←hF],hes'⟩
   · obtain ⟨y,hg⟩:=Option.isSome_iff_exists.1 hb
     rw[hg] at hF
     simp only[hg,Option.getD_some] at hF ⊢
     refine bcn (fun h3=>?_) (fun h3=>?_)
     · rw[if_neg (by simp[h3])] at hF
       exact ⟨by simp[Cf.xsOk,←hF],hes'⟩
     refine hm'.lookI l_7 x (by rw[hfx];rfl) (bcd (fun h2=>?_) (fun h2=>?_))
     · have hin : x ∈ seen := by
         by_cases hin:x ∈ seen
         · exact hin
         · rw[if_neg hin] at h2;exact absurd h2 (by decide)
       rw[if_neg (by simp[hin])] at hF
       exact ⟨by simp[Cf.xsOk,←hF],hes'⟩
     · have hin:x ∉ seen:=fun hin=>h2 (by rw[if_pos hin];decide)
       rw[if_pos ⟨h3,hin⟩] at hF
       have hn:=nx (fun r=>xrun c.Secs r (x::seen) =xrun c.Secs c.Xs []) hF
       refine ⟨⟨x::seen,f',hm',fun z=>?_,hes',hn.1⟩,hn.2⟩
       by_cases hz:z=x
       · subst hz;rw[hfx,if_neg hin];simp;rfl
       · rw[hf' z hz,hf];simp[hz]
 · have hF:=hr.done (by simp) hge
   rw[xrun] at hF
   refine (h s).xs.lenK ⟨?_,hes⟩
   rw[Cf.xsOk,←hF,List.length_map,Bool.true_and]
   congr 4;simp;omega
end
end
section
variable {σ:Store}
def i_1 (σ:Store)(t:TypeId)(rows:List (List D))(r:RV)(σ':Store) :Prop:=σ'=σ∧∃d,r= .a (.one d)∧∀s,At prog s t d rows
theorem r_j {t:TypeId}{d:D}{rows:List (List D)}{s:Store}(h:Own prog σ s t d rows)(hf:∀row ∈ rows,∀x ∈ row,Flat x) :
   ∃r' σ',Ret prog σ s (.a (.one d)) σ' r'∧i_1 σ t rows r' σ':=by
 obtain ⟨d',h1,h2⟩:=y_i h.at_ h.ext h.new hf
 exact ⟨.a (.one d'),σ, .pure h.ext h1,rfl,d',rfl,h2⟩
theorem a_oj (l:List Nd) :∀row ∈ l.map Nd.enc,∀x ∈ row,Flat x:=by
 intro row hrow x hx
 obtain ⟨w,_,rfl⟩:=List.mem_map.1 hrow
 simp[Nd.enc] at hx
 rcases hx with rfl | rfl <;> exact .int _ _
theorem a_hr (l:List Int) :∀row ∈ l.map Go.Fw.encI,∀x ∈ row,Flat x:=by
 intro row hrow x hx
 obtain ⟨w,_,rfl⟩:=List.mem_map.1 hrow
 simp[Go.Fw.encI] at hx
 subst hx;exact .int _ _
theorem a_iu {s:Store}{id:Nat}{t:TypeId}{x y:D}{K:Store→Prop}(hs:s id= .live t [[x]])(hK:∀s',s' id= .live t [[y]]→(∀i,i≠id→s' i=s i)→K s') :a_d [y] s (.osl id 0 1) 0 0 K:=
 ⟨id,0,1,t,[[x]],[x],rfl,by omega,hs,rfl,by simp,hK _ (Store.set_same _ _ _) fun i hi=>Store.set_ne _ _ hi⟩
section
variable {c0 c1 c2 c3 c4:D} {c:Cf} (h:∀s,CfAt s c0 c1 c2 c3 c4 c)
include h
theorem x_0 (a:Int){d:D}{path:List St}(hp:∀s,At prog s a_p d (path.map St.enc))(hpl:path.length≤2 ^ 20) :
   DCalls prog g_d [cfA c0 c1 c2 c3 c4 c,iA a, .one d] σ (i_1 σ a_2 ((c.flank a path).map Nd.enc)):=by
 have hl:=(hp σ).size
 rw[List.length_map] at hl
 refine (r_2 _ _ _ _ _ _ _ _ _ a d σ _ ?_).ret (Q:=fun r s=>∃r' σ',Ret prog σ s r σ' r'∧i_1 σ a_2 ((c.flank a path).map Nd.enc) r' σ') (fun r s h=>h)
 refine (hp σ).lenK ⟨fun d n s=>∃out:List Nd,Own prog σ s a_2 d (out.map Nd.enc)∧out.length≤4 * n.toNat∧Rng path (fun r=>d_1 c a path r out=c.flank a path) n,fun _ n _=>path.length - n.toNat,
   ⟨[], .nil _ (.refl _),by simp, .start rfl⟩,?_⟩
 rintro d1 n s ⟨out,ho,hol,hr⟩
 refine bcd (fun hlt=>?_) (fun hge=>?_)
 · obtain ⟨j,x,rfl,hx,hj,hF,nx⟩:=hr.step (by simp) hl hlt
   refine (hp s).load (a_x hx) e_a rfl ⟨x.Sec,x.In,x.Out,rfl,(e_c (h s) x.Sec).use (w_7 _ ?_)⟩
   rw[d_1] at hF
   refine c_g (fun hb=>?_) (fun hb=>?_)
   · cases hg:c_c c.Secs x.Sec with
     | some y=>rw[hg] at hb;cases hb
     | none=>
       rw[hg] at hF
       have hn:=nx (fun r=>d_1 c a path r out=c.flank a path) hF
       exact ⟨⟨out,ho,by rw[a_m (by omega)];omega,hn.1⟩,hn.2⟩
   · obtain ⟨y,hg⟩:=Option.isSome_iff_exists.1 hb
     rw[hg] at hF
     simp only[hg,Option.getD_some] at hF ⊢
     refine (l_y _).use ⟨_,rfl,?_⟩
     have hne:=w_q y.Kind
     refine ⟨fun d m s'=>∃out':List Nd,Own prog σ s' a_2 d (out'.map Nd.enc)∧0≤m∧m≤c_s y.Kind∧out'.length≤4 * j+m.toNat∧c_t c a path x (c_s y.Kind - m).toNat m out'=c_t c a path x (c_s y.Kind).toNat 0 out,
       fun _ m _=>(c_s y.Kind - m).toNat,⟨out,ho,by omega,hne.1,by simp at hol ⊢;omega,by rw[Int.sub_zero]⟩,?_⟩
     rintro d2 m s' ⟨out',ho',hm0,hm1,hol',hE⟩
     refine bcd (fun hlt'=>?_) (fun hge'=>?_)
     · have hw:w64 (m+1) =m+1:=g_n (by omega) (by omega)
       have hk:(c_s y.Kind - m).toNat=(c_s y.Kind - (m+1)).toNat+1:=by omega
       rw[hk,c_t] at hE
       have leaf : ∀ (out2 : List Nd) (d3 : D) (s2 : Store), d_a c a path x out' m = out2 → Own prog σ s2 a_2 d3 (out2.map Nd.enc) →
           (∃out':List Nd,Own prog σ s2 a_2 d3 (out'.map Nd.enc)∧0≤w64 (m+1)∧w64 (m+1)≤c_s y.Kind∧out'.length≤4 * j+ (w64 (m+1)).toNat∧c_t c a path x (c_s y.Kind - w64 (m+1)).toNat (w64 (m+1)) out'=c_t c a path x (c_s y.Kind).toNat 0 out)∧
           (c_s y.Kind - w64 (m+1)).toNat < (c_s y.Kind - m).toNat:=by
         intro out2 d3 s2 h1 h2
         have hlen:=(o_1 c a path x out' m).2
         rw[hw]
         refine ⟨⟨out2,h2,by omega,by omega,by rw[←h1];omega,by rw[←h1];exact hE⟩,by omega⟩
       intro R hR
       refine bce (fun h1=>⟨trivial,leaf out' d2 s' (by rw[d_a,if_pos (.inl h1)]) ho'⟩) (fun h1=>bce (fun h2=>⟨trivial,leaf out' d2 s' (by rw[d_a,if_pos (.inr h2)]) ho'⟩) (fun h2=>⟨trivial,hR s' ?_⟩))
       have hst:d_a c a path x out' m=match nxt c.Jts x.Sec m with
         | none=>out'
         | some (q,f)=>match c_c c.Secs q with
           | none=>out'
           | some y=>if y.Kind=1∧(1≤f∧f≤2)∧q≠a∧l_l path q=false∧(out'.any fun n=>n.Sec == q) =false then out' ++ [⟨q,3 - f⟩] else out':=by
         rw[d_a,if_neg (by rintro (e | e);exact h1 e;exact h2 e)] <;> rfl
       refine (f_z x.Sec m (h s').jts).use (q_1 _ ?_)
       generalize nxt c.Jts x.Sec m=o at hst
       refine a_n fun id s2 hid _ he hs2=>a_iu hs2 fun s3 hs3 hs3'=>?_
       have he3:Ext s' s3:=fun i hi=>by
         rw[hs3' i (fun e=>hi (by rw[e];exact hid))];exact he i hi
       have ho3:=ho'.ext' he3
       refine ⟨_,a_g hs3,_,rfl,(e_c (h s3) _).use (w_7 _ ?_)⟩
       intro R1 hR1
       refine c_g (fun hb1=>?_) (fun hb1=>?_)
       · cases o with
         | some p=>cases hb1
         | none=>exact ⟨trivial,leaf out' d2 s3 hst ho3⟩
       obtain ⟨⟨q,f⟩,rfl⟩:=Option.isSome_iff_exists.1 hb1
       simp only[Option.getD_some] at hst hR1 hs3 ⊢
       refine c_g (fun hb2=>?_) (fun hb2=>?_)
       · cases hg2:c_c c.Secs q with
         | some p=>rw[hg2] at hb2;cases hb2
         | none=>rw[hg2] at hst;exact ⟨trivial,leaf out' d2 s3 hst ho3⟩
       obtain ⟨y2,hg2⟩:=Option.isSome_iff_exists.1 hb2
       rw[hg2] at hst
       simp only[hg2,Option.getD_some] at hst ⊢
       have no:¬(y2.Kind=1∧(1≤f∧f≤2)∧q≠a∧l_l path q=false∧(out'.any fun n=>n.Sec == q) =false)→d_a c a path x out' m=out':=fun hn=>by rw[hst,if_neg hn]
       refine bcn (fun h3=>⟨trivial,leaf out' d2 s3 (no fun h=>h3 h.1) ho3⟩) (fun h3=>?_)
       refine bcd (fun h4=>⟨trivial,leaf out' d2 s3 (no fun h=>by omega) ho3⟩) (fun h4=>?_)
       refine bcd (fun h5=>⟨trivial,leaf out' d2 s3 (no fun h=>by omega) ho3⟩) (fun h5=>?_)
       refine ⟨_,a_g hs3,q,rfl,bce (fun h6=>⟨trivial,leaf out' d2 s3 (no fun h=>h.2.2.1 h6) ho3⟩) (fun h6=>?_)⟩
       refine ⟨_,a_g hs3,q,rfl,(t_0 q (hp s3)).use ⟨_,rfl,bc (fun h7=>⟨trivial,leaf out' d2 s3 (no fun h=>by rw[h.2.2.2.1] at h7;cases h7) ho3⟩) (fun h7=>?_)⟩⟩
       refine (a_ey ho3.at_ hs3).use ⟨_,rfl,bc (fun h8=>⟨trivial,leaf out' d2 s3 (no fun h=>by rw[h.2.2.2.2] at h8;cases h8) ho3⟩) (fun h8=>⟨trivial,hR1 s3 ?_⟩)⟩
       refine ⟨_,a_g hs3,q,rfl,a_n fun id1 s4 hid1 _ he4 hs4=>?_⟩
       have hw2:w64 (3 - f) =3 - f:=g_n (by omega) (by omega)
       have ho4:=ho3.ext' he4
       refine ho4.append (At.fresh hs4 (by simp) rfl) (by simp;omega) (by simp;omega) fun d4 s5 ho5 _ _=>⟨trivial,leaf (out' ++ [⟨q,3 - f⟩]) d4 s5 (by rw[hst,if_pos ⟨h3,⟨by omega,by omega⟩,h6,h7,h8⟩]) ?_⟩
       rw[hw2] at ho5
       rw[List.map_append]
       exact ho5
     · have hz:(c_s y.Kind - m).toNat=0:=by omega
       rw[hz,c_t] at hE
       rw[←hE] at hF
       have hn:=nx (fun r=>d_1 c a path r out'=c.flank a path) hF
       exact ⟨⟨out',ho',by rw[a_m (by omega)];omega,hn.1⟩,hn.2⟩
 · have hF:=hr.done (by simp) hge
   rw[d_1] at hF
   rw[←hF]
   exact r_j ho (a_oj _)
theorem u_o (r:Rt){d1 d2 d3:D}(hp:∀s,At prog s a_p d1 (r.Path.map St.enc)) :
   DCalls prog e_3 [cfA c0 c1 c2 c3 c4 c,rtA d1 d2 d3 r] σ (i_1 σ a_f ((c.overlap r).map Go.Fw.encI)):=by
 refine (o_v _ _ _ _ _ _ _ _ _ _ _ d1 d2 d3 _ σ _ ?_).ret (Q:=fun r' s=>∃r'' σ',Ret prog σ s r' σ' r''∧i_1 σ a_f ((c.overlap r).map Go.Fw.encI) r'' σ') (fun r s h=>h)
 refine (f_8 (h σ) _).use (a_lq _ ?_)
 intro R hR
 have nil:c.overlap r=[]→∃r'' σ',Ret prog σ σ (.a (.one .nils)) σ' r''∧i_1 σ a_f ((c.overlap r).map Go.Fw.encI) r'' σ':=fun e=>by
   rw[e];exact r_j (.nil _ (.refl _)) (a_hr _)
 refine bc (fun h1=>nil (by rw[Cf.overlap,if_pos h1])) (fun h1=>c_g (fun h2=>nil ?_) (fun h2=>⟨rfl,hR σ ?_⟩))
 · rw[Cf.overlap,if_neg (by rw[h1];simp)]
   cases hg:c_c c.Sigs r.Exit with
   | none=>rfl
   | some x=>rw[hg] at h2;cases h2
 obtain ⟨x,hg⟩:=Option.isSome_iff_exists.1 h2
 simp only[hg,Option.getD_some] at hR ⊢
 have hov:c.overlap r=match nxt c.Jts x.Sec x.End_ with
   | none=> []
   | some (q,_)=>match c_c c.Secs q with
     | none=> []
     | some y=>if y.Line=0∧l_l r.Path q=false∧q≠c.approach r then [q] else []:=by
   rw[Cf.overlap,if_neg (by rw[h1];simp),hg] <;> rfl
 refine (f_z _ _ (h σ).jts).use (q_1 _ ((e_c (h σ) _).use (w_7 _ ?_)))
 generalize nxt c.Jts x.Sec x.End_=o at hov
 refine c_g (fun hb1=>nil ?_) (fun hb1=>?_)
 · cases o with
   | none=>exact hov
   | some p=>cases hb1
 obtain ⟨⟨q,f⟩,rfl⟩:=Option.isSome_iff_exists.1 hb1
 simp only[Option.getD_some] at hov ⊢
 refine c_g (fun hb2=>nil ?_) (fun hb2=>?_)
 · cases hg2:c_c c.Secs q with
   | none=>rw[hg2] at hov;exact hov
   | some p=>rw[hg2] at hb2;cases hb2
 obtain ⟨y,hg2⟩:=Option.isSome_iff_exists.1 hb2
 simp only[hg2,Option.getD_some] at hov ⊢
 have no:¬(y.Line=0∧l_l r.Path q=false∧q≠c.approach r)→c.overlap r=[]:=fun hn=>by rw[hov,if_neg hn]
 refine bcn (fun h3=>nil (no fun h=>h3 h.1)) (fun h3=>(t_0 q (hp σ)).use ⟨_,rfl,bc (fun h4=>nil (no fun h=>by rw[h.2.1] at h4;cases h4)) (fun h4=>(g_r (h σ) r d1 d2 d3).use ⟨_,rfl,bce (fun h5=>nil (no fun h=>h.2.2 h5)) (fun h5=>?_)⟩)⟩)
 refine a_n fun id s2 hid _ he hs2=>?_
 rw[hov,if_pos ⟨h3,h4,h5⟩]
 exact r_j ⟨At.fresh hs2 (by simp) rfl,he,a_bd hid,fun h=>h,by intro e;cases e⟩ (a_hr _)
end
end
section
variable {σ:Store}
section
variable {c0 c1 c2 c3 c4:D} {c:Cf} (h:∀s,CfAt s c0 c1 c2 c3 c4 c)
include h
theorem a_bg (r:Rt){d1 d2 d3:D}(hp:∀s,At prog s a_p d1 (r.Path.map St.enc)) :
   Pure prog g_x [cfA c0 c1 c2 c3 c4 c,rtA d1 d2 d3 r] σ (.a (bA (c.path r))):=by
 have hl:=(hp σ).size
 rw[List.length_map] at hl
 refine .of (s_s _ _ _ _ _ _ _ _ _ _ _ d1 d2 d3 _ σ _ ?_) (v_y _)
 refine (f_8 (h σ) _).use (a_lq _ ((f_8 (h σ) _).use (a_lq _ ?_)))
 intro R hR
 refine c_g (fun h1=>?_) (fun h1=>?_)
 · cases hg:c_c c.Sigs r.Entry with
   | some x=>rw[hg] at h1;cases h1
   | none=>exact ⟨by rw[Cf.path,hg], .refl _⟩
 obtain ⟨a,hg⟩:=Option.isSome_iff_exists.1 h1
 have hpath:c.path r=((decide (r.Exit= -1) || (c_c c.Sigs r.Exit).isSome) && decide (1≤r.Path.length∧r.Path.length≤8) && t_5 c r (c_c c.Sigs r.Exit) r.Path a [a.Sec]):=by rw[Cf.path,hg]
 rw[hg,Option.getD_some] at hR
 generalize hex:c_c c.Sigs r.Exit=ex at hpath hR
 have hlen:decide ((1:Int)≤((r.Path.map St.enc).length:Int)∧((r.Path.map St.enc).length:Int)≤8) =decide (1≤r.Path.length∧r.Path.length≤8):=by
   rw[List.length_map];congr 1;apply propext;omega
 have hgo:decide (1≤r.Path.length∧r.Path.length≤8) =true→(decide (r.Exit= -1) || ex.isSome) =true→R σ:=by
   intro hlen2 hexok
   rw[hlen2,hexok] at hpath
   simp only[Bool.true_and] at hpath
   refine hR σ (a_n fun id s1 hid _ he1 hs1=>(MapAt.new hs1).put l_7 a.Sec fun s2 f2 hm2 hf2 hfx2 hs2 hne2=>?_)
   have he2:Ext σ s2:=fun i hi=>by
     rw[hs2 i (fun e=>hi (by rw[e];exact hid))];exact he1 i hi
   refine (hp s2).lenK ⟨fun m e n s=>∃seen f,MapAt prog a_f iA s id f∧(∀z,f z=if z ∈ seen then some (iA 1) else none)∧Ext σ s∧Rng r.Path (fun q=>t_5 c r ex q ⟨m,e⟩ seen=c.path r) n,fun _ _ n _=>r.Path.length - n.toNat,
     ⟨[a.Sec],f2,hm2,fun z=>?_,he2, .start hpath.symm⟩,?_⟩
   · by_cases hz:z=a.Sec
     · subst hz;rw[hfx2];simp
     · rw[hf2 z hz];simp[hz]
   rintro m e n s ⟨seen,f,hm,hf,hes,hr⟩
   refine bcd (fun hlt=>?_) (fun hge=>?_)
   · obtain ⟨j,x,rfl,hx,hj,hF,nx⟩:=hr.step (by simp) hl hlt
     intro R1 hR1
     refine (hp s).load (a_x hx) e_a rfl ⟨x.Sec,x.In,x.Out,rfl,(f_z m e (h s).jts).use (q_1 _ ((e_c (h s) _).use (w_7 _ ((a_ck _ _ _).use (a_m5 _ ?_)))))⟩
     rw[t_5] at hF
     have bad:y_0 c r ex ⟨m,e⟩ x (r.Path.drop (j+1)).isEmpty seen=false→∀s',Ext σ s'→(RV.a (.one (.bool false)) = .a (bA (c.path r))∧Ext σ s'):=fun hb s' he'=>by
       rw[hb] at hF
       exact ⟨by rw[←hF];rfl,he'⟩
     have good:y_0 c r ex ⟨m,e⟩ x (r.Path.drop (j+1)).isEmpty seen=true→∀s' f',MapAt prog a_f iA s' id f'→(∀z,f' z=if z ∈ x.Sec::seen then some (iA 1) else none)→Ext σ s'→R1 x.Sec x.Out s':=fun hb s' f' hm' hf' he'=>by
       rw[hb,Bool.true_and] at hF
       have hn:=nx (fun q=>t_5 c r ex q ⟨x.Sec,x.Out⟩ (x.Sec::seen) =c.path r) hF
       exact hR1 _ _ _ ⟨rfl,⟨x.Sec::seen,f',hm',hf',he',hn.1⟩,hn.2⟩
     have hst:y_0 c r ex ⟨m,e⟩ x (r.Path.drop (j+1)).isEmpty seen=match nxt c.Jts m e with
       | none=>false
       | some (q,i)=>decide (q=x.Sec) && decide (i=x.In) && (p_j (j_y ((c_c c.Secs q).getD ⟨0,0,0⟩).Kind) x.In x.Out).isSome && decide (q ∉ seen) &&
         (!(c.Sigs.any fun y=>decide (⟨x.Sec,x.Out⟩ =y)) || ((r.Path.drop (j+1)).isEmpty && decide (ex=some ⟨x.Sec,x.Out⟩))) && !(r.Shunt && decide (((c_c c.Secs q).getD ⟨0,0,0⟩).Line≠0)):=rfl
     generalize nxt c.Jts m e=o at hst
     have key:(f (o.getD (0,0)).1).getD (iA 0) =iA (if (o.getD (0,0)).1 ∈ seen then 1 else 0):=by
       rw[hf];split <;> rfl
     refine hm.lookI l_7 _ key (hm.put l_7 _ fun s' f' hm' hf' hfx hs' hne=>?_)
     have hes':Ext σ s':=fun i hi=>by
       rw[hs' i (fun e=>hi (by rw[e];exact hid))];exact hes i hi
     refine (p_r ⟨x.Sec,x.Out⟩ (h s').sigs).use ⟨_,rfl,?_⟩
     intro R2 hR2
     have main:R2 ((r.Path.drop (j+1)).isEmpty && decide (ex=some ⟨x.Sec,x.Out⟩)) s':=by
       refine hR2 _ _ (c_g (fun k1=>bad ?_ s' hes') (fun k1=>?_))
       · cases o with
         | none=>exact hst
         | some p=>cases k1
       obtain ⟨⟨q,i⟩,rfl⟩:=Option.isSome_iff_exists.1 k1
       simp only[Option.getD_some] at hst key hfx hf' ⊢
       refine bcn (fun k2=>bad (by rw[hst];simp[k2]) s' hes') (fun k2=>?_)
       refine bcn (fun k3=>bad (by rw[hst];simp[k3]) s' hes') (fun k3=>?_)
       refine c_g (fun k4=>bad (by rw[hst,k4];simp) s' hes') (fun k4=>?_)
       refine hm'.lookI l_7 q (by rw[hfx];rfl) (bcd (fun k5=>?_) (fun k5=>?_))
       · have hin : q ∈ seen := by
           by_cases hin:q ∈ seen
           · exact hin
           · rw[if_neg hin] at k5;exact absurd k5 (by decide)
         exact bad (by rw[hst];simp[hin]) s' hes'
       have hin:q ∉ seen:=fun hin=>k5 (by rw[if_pos hin];decide)
       have hfin:y_0 c r ex ⟨m,e⟩ x (r.Path.drop (j+1)).isEmpty seen=true→R1 x.Sec x.Out s':=fun hb=>good hb s' f' hm' (fun z=>by
         by_cases hz:z=q
         · subst hz;rw[hfx,if_neg hin,k2];simp;rfl
         · rw[hf' z hz,hf];simp[k2 ▸ hz]) hes'
       have hpre:(decide (q=x.Sec) && decide (i=x.In) && (p_j (j_y ((c_c c.Secs q).getD ⟨0,0,0⟩).Kind) x.In x.Out).isSome && decide (q ∉ seen)) =true:=by
         rw[k4];simp[k2,k3];rw[←k2];exact hin
       rw[hpre,Bool.true_and] at hst
       refine bc (fun k6=>c_g (fun k7=>bad ?_ s' hes') (fun k7=>?_)) (fun k6=>?_)
       · rw[hst,k6,k7];rfl
       · rw[k6,k7] at hst
         refine bc (fun k8=>bcn (fun k9=>bad ?_ s' hes') (fun k9=>⟨trivial,hfin ?_⟩)) (fun k8=>⟨trivial,hfin ?_⟩)
         · rw[hst,k8];simp[k9]
         · rw[hst];simp[k9]
         · rw[hst,k8];rfl
       · rw[k6] at hst
         refine bc (fun k8=>bcn (fun k9=>bad ?_ s' hes') (fun k9=>⟨trivial,hfin ?_⟩)) (fun k8=>⟨trivial,hfin ?_⟩)
         · rw[hst,k8];simp[k9]
         · rw[hst];simp[k9]
         · rw[hst,k8];rfl
     refine (hp s').lenK ?_
     have hw:w64 (((r.Path.map St.enc).length:Int) - 1) =(r.Path.length:Int) - 1:=by rw[List.length_map,g_n (by omega) (by omega)]
     rw[hw]
     refine bce (fun q1=>bc (fun q2=>⟨rfl,?_⟩) (fun q2=>⟨rfl,?_⟩)) (fun q1=>⟨rfl,?_⟩)
     · have hemp:(r.Path.drop (j+1)).isEmpty=true:=by rw[e_j (by omega)];rfl
       obtain ⟨y,rfl⟩:=Option.isSome_iff_exists.1 q2
       rw[hemp,Bool.true_and] at main
       have hd:decide (some y=some (⟨x.Sec,x.Out⟩ :Sg)) =(x.Sec == y.Sec && x.Out == y.End_):=by
         cases y with
         | mk y1 y2=>
           rw[Bool.eq_iff_iff];simp
           exact ⟨fun ⟨a,b⟩=>⟨a.symm,b.symm⟩,fun ⟨a,b⟩=>⟨a.symm,b.symm⟩⟩
       rw[hd] at main
       exact main
     · have hd:ex=none:=by cases ex;rfl;cases q2
       rw[hd] at main
       simpa using main
     · have hemp : (r.Path.drop (j + 1)).isEmpty = false := by
         cases hd:r.Path.drop (j+1) with
         | nil=>rw[List.drop_eq_nil_iff] at hd;omega
         | cons y l=>rfl
       rw[hemp,Bool.false_and] at main
       exact main
   · have hF:(match (generalizing:=false) ex with | some x=>decide ((⟨m,e⟩ :Sg) =x) | none=> !(nxt c.Jts m e).isSome) =c.path r:=hr.done (by simp) hge
     refine bc (fun q2=>?_) (fun q2=>?_)
     · obtain ⟨y,rfl⟩:=Option.isSome_iff_exists.1 q2
       refine ⟨?_,hes⟩
       rw[←hF]
       cases y with
       | mk y1 y2=>
         congr 4;rw[Bool.eq_iff_iff];simp
     · have hd:ex=none:=by cases ex;rfl;cases q2
       subst hd
       refine (f_z m e (h s).jts).use (q_1 _ ⟨?_,hes⟩)
       rw[←hF]
 refine c_g (fun h2=>bcn (fun h3=>⟨?_, .refl _⟩) (fun h3=>(hp σ).lenK ((c_n _ _ _).use ⟨_,rfl,c_g (fun h4=>⟨?_, .refl _⟩) (fun h4=>⟨rfl,hgo ?_ ?_⟩)⟩))) (fun h2=>(hp σ).lenK ((c_n _ _ _).use ⟨_,rfl,c_g (fun h4=>⟨?_, .refl _⟩) (fun h4=>⟨rfl,hgo ?_ ?_⟩)⟩))
 · rw[hpath,h2];simp[h3]
 · rw[hlen] at h4;rw[hpath,h4];simp
 · rw[←hlen];exact h4
 · simp[h3]
 · rw[hlen] at h4;rw[hpath,h4];simp
 · rw[←hlen];exact h4
 · simp[h2]
theorem x_t (r:Rt){d1 d2 d3:D}(hp:∀s,At prog s a_p d1 (r.Path.map St.enc))(hf:∀s,At prog s a_2 d2 (r.Flank.map Nd.enc))(ho:∀s,At prog s a_f d3 (r.Overlap.map Go.Fw.encI)) :
   Pure prog g_h [cfA c0 c1 c2 c3 c4 c,rtA d1 d2 d3 r] σ (.a (iA (c.route r))):=by
 refine r_s _ _ _ _ _ _ _ _ _ _ _ d1 d2 d3 _ σ _ ((a_bg h r hp).use ⟨_,rfl,c_g (fun h1=>⟨by rw[Cf.route,if_pos h1],rfl⟩) (fun h1=>?_)⟩)
 have hpl:r.Path.length≤8:=by
   unfold Cf.path at h1
   split at h1
   · cases h1
   · simp at h1;exact h1.1.2.2
 refine (g_r (h σ) r d1 d2 d3).use ⟨_,rfl,(x_0 h _ hp (by omega)).mono ?_⟩
 rintro r1 s1 ⟨rfl,d,rfl,hd⟩
 refine ⟨d,rfl,(x_n (hf _) (hd _)).use ⟨_,rfl,c_g (fun h2=>⟨?_,rfl⟩) (fun h2=>(u_o h r hp).mono ?_)⟩⟩
 · rw[Cf.route,if_neg (by rw[h1];simp),if_pos (of_decide_eq_false h2)]
 rintro r2 s2 ⟨rfl,d',rfl,hd'⟩
 have e2:=of_decide_eq_true h2
 refine ⟨d',rfl,(a_a2 (ho _) (hd' _)).use ⟨_,rfl,c_g (fun h3=>⟨?_,rfl⟩) (fun h3=>⟨?_,rfl⟩)⟩⟩
 · rw[Cf.route,if_neg (by rw[h1];simp),if_neg (fun hn=>hn e2),if_pos (of_decide_eq_false h3)]
 · rw[Cf.route,if_neg (by rw[h1];simp),if_neg (fun hn=>hn e2),if_neg (fun hn=>hn (of_decide_eq_true h3))]
theorem y_d:Pure prog l_b [cfA c0 c1 c2 c3 c4 c] σ (.a (iA c.check)):=by
 refine a_ax _ _ _ _ _ _ _ _ _ σ _ ((y_c (fun s=>(h s).secs) (fun s=>(h s).jts)).use ⟨_,rfl,?_⟩)
 have e6:(if d_0 c.Secs c.Jts=true then (0:Int) else 6)≠0↔d_0 c.Secs c.Jts=false:=by
   cases d_0 c.Secs c.Jts <;> simp
 refine bcn (fun k1=>⟨by rw[Cf.check,if_pos (e6.1 k1)],rfl⟩) (fun k1=>(u_t h).use ⟨_,rfl,c_g (fun k2=>⟨?_,rfl⟩) (fun k2=>(r_w h).use ⟨_,rfl,c_g (fun k3=>⟨?_,rfl⟩) (fun k3=>?_)⟩)⟩)
 all_goals have k1':¬d_0 c.Secs c.Jts=false:=fun e=>e6.2 e k1
 · rw[Cf.check,if_neg k1',if_pos k2]
 · rw[Cf.check,if_neg k1',if_neg (by rw[k2];simp),if_pos k3]
 have hck:c.check=if c.Rts.length > 12 then 9 else if c.routes c.Rts≠0 then c.routes c.Rts else if c.timing=true then 0 else 12:=by
   rw[Cf.check,if_neg k1',if_neg (by rw[k2];simp),if_neg (by rw[k3];simp)]
 obtain ⟨rows,hat,hlen,hrow⟩:=w_6 fun s=>(h s).rts
 have hl:=(hat σ).size
 refine (hat σ).lenK (bcd (fun k4=>⟨by rw[hck,if_pos (by omega)],rfl⟩) (fun k4=>(hat σ).lenK ?_))
 rw[if_neg (by omega)] at hck
 refine ⟨fun n s=>s=σ∧Rng c.Rts (fun l=>c.routes l=c.routes c.Rts) n,fun n _=>c.Rts.length - n.toNat,⟨rfl, .start rfl⟩,?_⟩
 rintro n τ ⟨rfl,hr⟩
 refine bcd (fun hlt=>?_) (fun hge=>?_)
 · obtain ⟨j,x,rfl,hx,hj,hF,nx⟩:=hr.step hlen (by omega) hlt
   obtain ⟨row,hrw⟩:=a_r (l:=rows) (j:=j) (by omega)
   obtain ⟨d1,d2,d3,rfl,q1,q2,q3⟩:=hrow j row x hrw hx
   refine (hat τ).load hrw b_k rfl ⟨_,_,d1,d2,d3,_,rfl,(x_t h x q1 q2 q3).use ⟨_,rfl,?_⟩⟩
   rw[Cf.routes] at hF
   refine bcn (fun k5=>⟨?_,rfl⟩) (fun k5=>?_)
   · rw[if_pos k5] at hF
     rw[hck,←hF,if_pos k5]
   · rw[if_neg (by simp[k5])] at hF
     exact ⟨rfl,r_q rfl (nx _ hF)⟩
 · have hF:0=c.routes c.Rts:=hr.done hlen hge
   rw[←hF,if_neg (by simp)] at hck
   have hpos:c.timing=(decide (1≤c.Age∧c.Age≤8) && decide (0≤c.Brake∧c.Brake≤8) && decide (c.Age+c.Brake+1≤c.Hold∧c.Hold≤40) && decide (1≤c.Budget∧c.Budget≤1000000)):=rfl
   refine (c_n _ _ _).use ⟨_,rfl,c_g (fun k5=>⟨?_,rfl⟩) (fun k5=>(c_n _ _ _).use ⟨_,rfl,c_g (fun k6=>⟨?_,rfl⟩) (fun k6=>(c_n _ _ _).use ⟨_,rfl,?_⟩)⟩)⟩
   · rw[hck,hpos,k5];simp
   · rw[hck,hpos,k6];simp
   have a5:=of_decide_eq_true k5
   have a6:=of_decide_eq_true k6
   rw[g_n (n:=c.Age+c.Brake) (by omega) (by omega),g_n (n:=c.Age+c.Brake+1) (by omega) (by omega)]
   refine c_g (fun k7=>⟨?_,rfl⟩) (fun k7=>(c_n _ _ _).use ⟨_,rfl,c_g (fun k8=>⟨?_,rfl⟩) (fun k8=>⟨?_,rfl⟩)⟩)
   · rw[hck,hpos,k7];simp
   · rw[hck,hpos,k8];simp
   · rw[hck,hpos,k5,k6,k7,k8];rfl
end
end
end Go.Proofs.YtfdffboelecgoaaGreatDoor
namespace Go.Proofs.YtfdffboelecgoaaGreatDoor
open Go.Shelf Go.Proofs
open Go.Proofs.Tryz (prog)
section
def x_y:Go.Shelf.Ren:=⟨fun | 143=>111 | 219=>138 | 217=>157 | 225=>158 | 224=>159 | 267=>160 | 266=>169 | 314=>170 | n=>n,fun | 9=>9 | 3=>3 | 4=>4 | 5=>5 | 46=>40 | 146=>220 | 51=>175 | n=>n,fun | 1=>2 | n=>n⟩
theorem z_p:Go.Proofs.Lays.n143 prog x_y:= {
 mixed:=by kernel_rfl
 f143:=Tryz.func111.trans (congrArg some (by kernel_rfl))
 f217:=Tryz.func157.trans (congrArg some (by kernel_rfl))
 f219:=Tryz.func138.trans (congrArg some (by kernel_rfl))
 f224:=Tryz.func159.trans (congrArg some (by kernel_rfl))
 f225:=Tryz.func158.trans (congrArg some (by kernel_rfl))
 f266:=Tryz.func169.trans (congrArg some (by kernel_rfl))
 f267:=Tryz.func160.trans (congrArg some (by kernel_rfl))
 f314:=Tryz.func170.trans (congrArg some (by kernel_rfl))
 t3:=Tryz.underlying3
 a3:=Tryz.isAgg3
 z3:=Tryz.sizeOf3
 v3:=Tryz.zeroValue3
 t4:=Tryz.underlying4
 a4:=Tryz.isAgg4
 z4:=Tryz.sizeOf4
 v4:=Tryz.zeroValue4
 t5:=Tryz.underlying5
 a5:=Tryz.isAgg5
 z5:=Tryz.sizeOf5
 v5:=Tryz.zeroValue5
 t9:=Tryz.underlying9
 a9:=Tryz.isAgg9
 z9:=Tryz.sizeOf9
 v9:=Tryz.zeroValue9
 t46:=Tryz.underlying40
 a46:=Tryz.isAgg40
 z46:=Tryz.sizeOf40
 v46:=Tryz.zeroValue40
 t51:=Tryz.underlying175
 a51:=Tryz.isAgg175
 z51:=Tryz.sizeOf175
 v51:=Tryz.zeroValue175
 t146:=Tryz.underlying220
 a146:=Tryz.isAgg220
 z146:=Tryz.sizeOf220
 v146:=Tryz.zeroValue220
 g1:=by kernel_rfl }
end
section
def splitLays_ren:Go.Shelf.Ren:=⟨fun | 221=>88 | 268=>112 | 138=>113 | 143=>111 | 195=>139 | 197=>110 | 218=>140 | 219=>138 | 260=>137 | 217=>157 | 225=>158 | 224=>159 | 267=>160 | 266=>169 | 314=>170 | n=>n,fun | 9=>9 | 3=>3 | 31=>95 | 4=>4 | 0=>0 | 105=>160 | 21=>21 | 5=>5 | 46=>40 | 119=>204 | 139=>207 | 138=>206 | 146=>220 | 51=>175 | n=>n,fun | 1=>2 | 3=>0 | 4=>1 | n=>n⟩
theorem a_i5:Go.Proofs.Lays.n221 prog splitLays_ren:= {
 mixed:=by kernel_rfl
 f138:=Tryz.func113.trans (congrArg some (by kernel_rfl))
 f143:=Tryz.func111.trans (congrArg some (by kernel_rfl))
 f195:=Tryz.func139.trans (congrArg some (by kernel_rfl))
 f197:=Tryz.func110.trans (congrArg some (by kernel_rfl))
 f217:=Tryz.func157.trans (congrArg some (by kernel_rfl))
 f218:=Tryz.func140.trans (congrArg some (by kernel_rfl))
 f219:=Tryz.func138.trans (congrArg some (by kernel_rfl))
 f221:=Tryz.func88.trans (congrArg some (by kernel_rfl))
 f224:=Tryz.func159.trans (congrArg some (by kernel_rfl))
 f225:=Tryz.func158.trans (congrArg some (by kernel_rfl))
 f260:=Tryz.func137.trans (congrArg some (by kernel_rfl))
 f266:=Tryz.func169.trans (congrArg some (by kernel_rfl))
 f267:=Tryz.func160.trans (congrArg some (by kernel_rfl))
 f268:=Tryz.func112.trans (congrArg some (by kernel_rfl))
 f314:=Tryz.func170.trans (congrArg some (by kernel_rfl))
 t0:=Tryz.underlying0
 a0:=Tryz.isAgg0
 z0:=Tryz.sizeOf0
 v0:=Tryz.zeroValue0
 t3:=Tryz.underlying3
 a3:=Tryz.isAgg3
 z3:=Tryz.sizeOf3
 v3:=Tryz.zeroValue3
 t4:=Tryz.underlying4
 a4:=Tryz.isAgg4
 z4:=Tryz.sizeOf4
 v4:=Tryz.zeroValue4
 t5:=Tryz.underlying5
 a5:=Tryz.isAgg5
 z5:=Tryz.sizeOf5
 v5:=Tryz.zeroValue5
 t9:=Tryz.underlying9
 a9:=Tryz.isAgg9
 z9:=Tryz.sizeOf9
 v9:=Tryz.zeroValue9
 t21:=Tryz.underlying21
 a21:=Tryz.isAgg21
 z21:=Tryz.sizeOf21
 v21:=Tryz.zeroValue21
 t31:=Tryz.underlying95
 a31:=Tryz.isAgg95
 z31:=Tryz.sizeOf95
 v31:=Tryz.zeroValue95
 t46:=Tryz.underlying40
 a46:=Tryz.isAgg40
 z46:=Tryz.sizeOf40
 v46:=Tryz.zeroValue40
 t51:=Tryz.underlying175
 a51:=Tryz.isAgg175
 z51:=Tryz.sizeOf175
 v51:=Tryz.zeroValue175
 t105:=Tryz.underlying160
 a105:=Tryz.isAgg160
 z105:=Tryz.sizeOf160
 v105:=Tryz.zeroValue160
 t119:=Tryz.underlying204
 a119:=Tryz.isAgg204
 z119:=Tryz.sizeOf204
 t138:=Tryz.underlying206
 a138:=Tryz.isAgg206
 z138:=Tryz.sizeOf206
 v138:=Tryz.zeroValue206
 t139:=Tryz.underlying207
 a139:=Tryz.isAgg207
 z139:=Tryz.sizeOf207
 v139:=Tryz.zeroValue207
 t146:=Tryz.underlying220
 a146:=Tryz.isAgg220
 z146:=Tryz.sizeOf220
 v146:=Tryz.zeroValue220
 g1:=by kernel_rfl
 g3:=by kernel_rfl
 g4:=by kernel_rfl }
end
section
def z_v:Go.Shelf.Ren:=⟨fun | 172=>92 | 244=>118 | 245=>119 | 247=>141 | 279=>142 | 280=>143 | 281=>144 | 282=>145 | 287=>161 | 316=>162 | 171=>76 | 205=>163 | 321=>171 | 322=>172 | 243=>104 | 246=>134 | 283=>153 | 284=>154 | 285=>155 | 286=>156 | 129=>130 | 317=>165 | 318=>166 | 319=>167 | 320=>168 | 337=>173 | 338=>174 | n=>n,fun | 9=>9 | 3=>3 | 75=>136 | 76=>142 | 4=>4 | 5=>5 | 167=>187 | 37=>72 | 0=>0 | 85=>188 | 2=>2 | 168=>190 | 53=>177 | 175=>208 | 46=>40 | 210=>212 | 127=>138 | 145=>225 | 143=>223 | 21=>21 | 171=>200 | 173=>202 | 212=>218 | 51=>175 | 20=>20 | 213=>219 | 232=>226 | 233=>227 | 80=>88 | n=>n,fun | 15=>3 | 16=>4 | 17=>5 | 18=>6 | 19=>7 | n=>n⟩
theorem a_k5:Go.Proofs.LaysC.n172 prog z_v:= {
 mixed:=by kernel_rfl
 f129:=Tryz.func130.trans (congrArg some (by kernel_rfl))
 f171:=Tryz.func76.trans (congrArg some (by kernel_rfl))
 f172:=Tryz.func92.trans (congrArg some (by kernel_rfl))
 f205:=Tryz.func163.trans (congrArg some (by kernel_rfl))
 f243:=Tryz.func104.trans (congrArg some (by kernel_rfl))
 f244:=Tryz.func118.trans (congrArg some (by kernel_rfl))
 f245:=Tryz.func119.trans (congrArg some (by kernel_rfl))
 f246:=Tryz.func134.trans (congrArg some (by kernel_rfl))
 f247:=Tryz.func141.trans (congrArg some (by kernel_rfl))
 f279:=Tryz.func142.trans (congrArg some (by kernel_rfl))
 f280:=Tryz.func143.trans (congrArg some (by kernel_rfl))
 f281:=Tryz.func144.trans (congrArg some (by kernel_rfl))
 f282:=Tryz.func145.trans (congrArg some (by kernel_rfl))
 f283:=Tryz.func153.trans (congrArg some (by kernel_rfl))
 f284:=Tryz.func154.trans (congrArg some (by kernel_rfl))
 f285:=Tryz.func155.trans (congrArg some (by kernel_rfl))
 f286:=Tryz.func156.trans (congrArg some (by kernel_rfl))
 f287:=Tryz.func161.trans (congrArg some (by kernel_rfl))
 f316:=Tryz.func162.trans (congrArg some (by kernel_rfl))
 f317:=Tryz.func165.trans (congrArg some (by kernel_rfl))
 f318:=Tryz.func166.trans (congrArg some (by kernel_rfl))
 f319:=Tryz.func167.trans (congrArg some (by kernel_rfl))
 f320:=Tryz.func168.trans (congrArg some (by kernel_rfl))
 f321:=Tryz.func171.trans (congrArg some (by kernel_rfl))
 f322:=Tryz.func172.trans (congrArg some (by kernel_rfl))
 f337:=Tryz.func173.trans (congrArg some (by kernel_rfl))
 f338:=Tryz.func174.trans (congrArg some (by kernel_rfl))
 t0:=Tryz.underlying0
 a0:=Tryz.isAgg0
 z0:=Tryz.sizeOf0
 v0:=Tryz.zeroValue0
 t2:=Tryz.underlying2
 a2:=Tryz.isAgg2
 z2:=Tryz.sizeOf2
 v2:=Tryz.zeroValue2
 t3:=Tryz.underlying3
 a3:=Tryz.isAgg3
 z3:=Tryz.sizeOf3
 v3:=Tryz.zeroValue3
 t4:=Tryz.underlying4
 a4:=Tryz.isAgg4
 z4:=Tryz.sizeOf4
 v4:=Tryz.zeroValue4
 t5:=Tryz.underlying5
 a5:=Tryz.isAgg5
 z5:=Tryz.sizeOf5
 v5:=Tryz.zeroValue5
 t9:=Tryz.underlying9
 a9:=Tryz.isAgg9
 z9:=Tryz.sizeOf9
 v9:=Tryz.zeroValue9
 t20:=Tryz.underlying20
 a20:=Tryz.isAgg20
 z20:=Tryz.sizeOf20
 v20:=Tryz.zeroValue20
 t21:=Tryz.underlying21
 a21:=Tryz.isAgg21
 z21:=Tryz.sizeOf21
 v21:=Tryz.zeroValue21
 t37:=Tryz.underlying72
 a37:=Tryz.isAgg72
 z37:=Tryz.sizeOf72
 v37:=Tryz.zeroValue72
 t46:=Tryz.underlying40
 a46:=Tryz.isAgg40
 z46:=Tryz.sizeOf40
 v46:=Tryz.zeroValue40
 t51:=Tryz.underlying175
 a51:=Tryz.isAgg175
 z51:=Tryz.sizeOf175
 v51:=Tryz.zeroValue175
 t53:=Tryz.underlying177
 a53:=Tryz.isAgg177
 z53:=Tryz.sizeOf177
 v53:=Tryz.zeroValue177
 t75:=Tryz.underlying136
 a75:=Tryz.isAgg136
 z75:=Tryz.sizeOf136
 v75:=Tryz.zeroValue136
 t76:=Tryz.underlying142
 a76:=Tryz.isAgg142
 z76:=Tryz.sizeOf142
 v76:=Tryz.zeroValue142
 t85:=Tryz.underlying188
 a85:=Tryz.isAgg188
 z85:=Tryz.sizeOf188
 v85:=Tryz.zeroValue188
 t127:=Tryz.underlying138
 a127:=Tryz.isAgg138
 z127:=Tryz.sizeOf138
 v127:=Tryz.zeroValue138
 t143:=Tryz.underlying223
 a143:=Tryz.isAgg223
 z143:=Tryz.sizeOf223
 v143:=Tryz.zeroValue223
 t145:=Tryz.underlying225
 a145:=Tryz.isAgg225
 z145:=Tryz.sizeOf225
 v145:=Tryz.zeroValue225
 t167:=Tryz.underlying187
 a167:=Tryz.isAgg187
 z167:=Tryz.sizeOf187
 v167:=Tryz.zeroValue187
 t168:=Tryz.underlying190
 a168:=Tryz.isAgg190
 z168:=Tryz.sizeOf190
 v168:=Tryz.zeroValue190
 t171:=Tryz.underlying200
 a171:=Tryz.isAgg200
 z171:=Tryz.sizeOf200
 v171:=Tryz.zeroValue200
 t173:=Tryz.underlying202
 a173:=Tryz.isAgg202
 z173:=Tryz.sizeOf202
 v173:=Tryz.zeroValue202
 t175:=Tryz.underlying208
 a175:=Tryz.isAgg208
 z175:=Tryz.sizeOf208
 v175:=Tryz.zeroValue208
 t210:=Tryz.underlying212
 a210:=Tryz.isAgg212
 z210:=Tryz.sizeOf212
 v210:=Tryz.zeroValue212
 t212:=Tryz.underlying218
 a212:=Tryz.isAgg218
 z212:=Tryz.sizeOf218
 v212:=Tryz.zeroValue218
 t213:=Tryz.underlying219
 a213:=Tryz.isAgg219
 z213:=Tryz.sizeOf219
 t232:=Tryz.underlying226
 a232:=Tryz.isAgg226
 z232:=Tryz.sizeOf226
 v232:=Tryz.zeroValue226
 t233:=Tryz.underlying227
 a233:=Tryz.isAgg227
 z233:=Tryz.sizeOf227
 v233:=Tryz.zeroValue227
 g15:=by kernel_rfl
 g16:=by kernel_rfl
 g17:=by kernel_rfl
 g18:=by kernel_rfl
 g19:=by kernel_rfl
 t80:=Tryz.underlying88
 a80:=Tryz.isAgg88
 z80:=Tryz.sizeOf88
 v80:=Tryz.zeroValue88
 i0:=by kernel_rfl
 i2:=by kernel_rfl
 i3:=by kernel_rfl
 i4:=by kernel_rfl
 i5:=by kernel_rfl
 i9:=by kernel_rfl
 i20:=by kernel_rfl
 i21:=by kernel_rfl
 i37:=by kernel_rfl
 i46:=by kernel_rfl
 i51:=by kernel_rfl
 i53:=by kernel_rfl
 i75:=by kernel_rfl
 i76:=by kernel_rfl
 i80:=by kernel_rfl
 i85:=by kernel_rfl
 i127:=by kernel_rfl
 i143:=by kernel_rfl
 i145:=by kernel_rfl
 i167:=by kernel_rfl
 i168:=by kernel_rfl
 i171:=by kernel_rfl
 i173:=by kernel_rfl
 i175:=by kernel_rfl
 i210:=by kernel_rfl
 i212:=by kernel_rfl
 i232:=by kernel_rfl
 i233:=by kernel_rfl
 m15:=by kernel_rfl
 m16:=by kernel_rfl
 m17:=by kernel_rfl
 m18:=by kernel_rfl
 m19:=by kernel_rfl
 c0:=by kernel_rfl
 c2:=by kernel_rfl
 c3:=by kernel_rfl
 c4:=by kernel_rfl
 c5:=by kernel_rfl
 c9:=by kernel_rfl
 c20:=by kernel_rfl
 c21:=by kernel_rfl
 c37:=by kernel_rfl
 c46:=by kernel_rfl
 c51:=by kernel_rfl
 c53:=by kernel_rfl
 c75:=by kernel_rfl
 c76:=by kernel_rfl
 c80:=by kernel_rfl
 c85:=by kernel_rfl
 c127:=by kernel_rfl
 c143:=by kernel_rfl
 c145:=by kernel_rfl
 c167:=by kernel_rfl
 c168:=by kernel_rfl
 c171:=by kernel_rfl
 c173:=by kernel_rfl
 c175:=by kernel_rfl
 c210:=by kernel_rfl
 c212:=by kernel_rfl
 c213:=by kernel_rfl
 c232:=by kernel_rfl
 c233:=by kernel_rfl }
end
section
def a_ba:Go.Shelf.Ren:=⟨fun | 171=>76 | 243=>104 | 246=>134 | 283=>153 | 284=>154 | 285=>155 | 286=>156 | 129=>130 | 317=>165 | 318=>166 | 319=>167 | 320=>168 | 337=>173 | 338=>174 | n=>n,fun | 3=>3 | 9=>9 | 2=>2 | 4=>4 | 171=>200 | 0=>0 | 53=>177 | 37=>72 | 5=>5 | 173=>202 | 212=>218 | 51=>175 | 20=>20 | 213=>219 | 46=>40 | 232=>226 | 233=>227 | n=>n,fun | 17=>5 | 18=>6 | 19=>7 | n=>n⟩
theorem a_ki:Go.Proofs.LaysM.n171 prog a_ba:= {
 mixed:=by kernel_rfl
 f129:=Tryz.func130.trans (congrArg some (by kernel_rfl))
 f171:=Tryz.func76.trans (congrArg some (by kernel_rfl))
 f243:=Tryz.func104.trans (congrArg some (by kernel_rfl))
 f246:=Tryz.func134.trans (congrArg some (by kernel_rfl))
 f283:=Tryz.func153.trans (congrArg some (by kernel_rfl))
 f284:=Tryz.func154.trans (congrArg some (by kernel_rfl))
 f285:=Tryz.func155.trans (congrArg some (by kernel_rfl))
 f286:=Tryz.func156.trans (congrArg some (by kernel_rfl))
 f317:=Tryz.func165.trans (congrArg some (by kernel_rfl))
 f318:=Tryz.func166.trans (congrArg some (by kernel_rfl))
 f319:=Tryz.func167.trans (congrArg some (by kernel_rfl))
 f320:=Tryz.func168.trans (congrArg some (by kernel_rfl))
 f337:=Tryz.func173.trans (congrArg some (by kernel_rfl))
 f338:=Tryz.func174.trans (congrArg some (by kernel_rfl))
 t0:=Tryz.underlying0
 a0:=Tryz.isAgg0
 z0:=Tryz.sizeOf0
 v0:=Tryz.zeroValue0
 t2:=Tryz.underlying2
 a2:=Tryz.isAgg2
 z2:=Tryz.sizeOf2
 v2:=Tryz.zeroValue2
 t3:=Tryz.underlying3
 a3:=Tryz.isAgg3
 z3:=Tryz.sizeOf3
 v3:=Tryz.zeroValue3
 t4:=Tryz.underlying4
 a4:=Tryz.isAgg4
 z4:=Tryz.sizeOf4
 v4:=Tryz.zeroValue4
 t5:=Tryz.underlying5
 a5:=Tryz.isAgg5
 z5:=Tryz.sizeOf5
 v5:=Tryz.zeroValue5
 t9:=Tryz.underlying9
 a9:=Tryz.isAgg9
 z9:=Tryz.sizeOf9
 v9:=Tryz.zeroValue9
 t20:=Tryz.underlying20
 a20:=Tryz.isAgg20
 z20:=Tryz.sizeOf20
 v20:=Tryz.zeroValue20
 t37:=Tryz.underlying72
 a37:=Tryz.isAgg72
 z37:=Tryz.sizeOf72
 v37:=Tryz.zeroValue72
 t46:=Tryz.underlying40
 a46:=Tryz.isAgg40
 z46:=Tryz.sizeOf40
 v46:=Tryz.zeroValue40
 t51:=Tryz.underlying175
 a51:=Tryz.isAgg175
 z51:=Tryz.sizeOf175
 v51:=Tryz.zeroValue175
 t53:=Tryz.underlying177
 a53:=Tryz.isAgg177
 z53:=Tryz.sizeOf177
 v53:=Tryz.zeroValue177
 t171:=Tryz.underlying200
 a171:=Tryz.isAgg200
 z171:=Tryz.sizeOf200
 v171:=Tryz.zeroValue200
 t173:=Tryz.underlying202
 a173:=Tryz.isAgg202
 z173:=Tryz.sizeOf202
 v173:=Tryz.zeroValue202
 t212:=Tryz.underlying218
 a212:=Tryz.isAgg218
 z212:=Tryz.sizeOf218
 v212:=Tryz.zeroValue218
 t213:=Tryz.underlying219
 a213:=Tryz.isAgg219
 z213:=Tryz.sizeOf219
 t232:=Tryz.underlying226
 a232:=Tryz.isAgg226
 z232:=Tryz.sizeOf226
 v232:=Tryz.zeroValue226
 t233:=Tryz.underlying227
 a233:=Tryz.isAgg227
 z233:=Tryz.sizeOf227
 v233:=Tryz.zeroValue227
 g17:=by kernel_rfl
 g18:=by kernel_rfl
 g19:=by kernel_rfl
 i0:=by kernel_rfl
 i2:=by kernel_rfl
 i3:=by kernel_rfl
 i4:=by kernel_rfl
 i5:=by kernel_rfl
 i9:=by kernel_rfl
 i20:=by kernel_rfl
 i37:=by kernel_rfl
 i46:=by kernel_rfl
 i51:=by kernel_rfl
 i53:=by kernel_rfl
 i171:=by kernel_rfl
 i173:=by kernel_rfl
 i212:=by kernel_rfl
 i232:=by kernel_rfl
 i233:=by kernel_rfl
 m17:=by kernel_rfl
 m18:=by kernel_rfl
 m19:=by kernel_rfl }
end
end Go.Proofs.YtfdffboelecgoaaGreatDoor
namespace Go.Fw
section
section
variable {P:Program} {l n:Nat} {o:Oper} {a:Act} {W:World} {next:Act→World→Prop} {Q:Exit→Act→World→Prop} {ops:Array Oper}
abbrev Rd (l:Nat) :Fence:=Fence.wide.inRound l
def j_l:Code→Bool
 | .region _ ops _=>ops.toList.all fun o=>match o.op with | .defer _=>false | _=>true
 | .cond _ x y=>j_l x && j_l y
 | .seq x y=>j_l x && j_l y
 | .block _ c=>j_l c
 | .loop c=>j_l c
 | _=>true
theorem a_mt (hd:∀c,o.op≠ .defer c)(hq:∀a w,¬Q .outgrown a w)(h:o.wp P a W next Q) :o.wpIn (Rd l) n P a W next Q:=by
 refine ⟨fun _ _=>trivial,?_⟩
 rw[Oper.semAt_eq _ _ _ hd]
 unfold Oper.wp at h
 cases hr:(execOp a.eval o).run P W with
 | halt x w'=>
   rw[hr] at h
   cases x <;> first | exact h | exact h.elim
 | ok x w'=>
   rw[hr] at h
   cases x with
   | value v=>exact h
   | skip=>exact h
   | defer d=>exact h
   | enter f args=>
     refine ⟨fun h=>(by cases h),?_⟩
     have h:Calls P f args w' _:=h
     refine CallsIn.mono (F:=Rd l) (show CallsIn (Rd l) (n - 1) P f args w' _ from callsIn_wide.2 h) fun e w'' he=>?_
     cases e with
     | returned v=>exact he
     | panicked ch=>exact he
     | outgrown=>exact he
   | row r args=>
     refine ⟨fun h=>(by cases h),?_⟩
     have h:Go.Rows P r args w' _:=h
     intro c cs _
     obtain ⟨v,w'',h1,h2⟩:=h c cs
     exact ⟨v,w'',h1,stepsIn_wide.2 h2⟩
   | _=>exact h.elim
theorem v_l (hops:∀o ∈ ops.toList,∀c,o.op≠ .defer c)(hq:∀a w,¬Q .outgrown a w) :∀(L:List Nat) (a:Act) (W:World),wpOps P ops Q L a W→wpOpsIn (Rd l) n P ops Q L a W
 | [],a,W,h=>h
 | i::r,a,W,h=>by
   unfold wpOps at h
   unfold wpOpsIn
   cases ho:ops[i]? with
   | none=>rw[ho] at h;exact v_l hops hq r a W h
   | some o=>
     rw[ho] at h
     have hd:=hops o (Array.mem_toList_iff.2 (Array.mem_of_getElem? ho))
     simp only at h ⊢
     split at h
     · rename_i hw
       rw[if_pos hw]
       rcases h with h | ⟨_,a',w',hx⟩
       · exact a_mt hd hq (Oper.wp_mono (fun a w=>v_l hops hq r a w) h)
       · exact absurd hx (hq _ _)
     · rename_i hw
       rw[if_neg hw]
       exact ⟨fun _ _=>trivial,v_l hops hq r _ _ h⟩
theorem y_5 {id:Nat}{b:Bool}(h:j_l (.region id ops b) =true) :∀o ∈ ops.toList,∀c,o.op≠ .defer c:=by
 intro o ho c hc
 have:=List.all_eq_true.1 h o ho
 rw[hc] at this
 cases this
def wpR (P:Program)(n l:Nat)(c:Code)(Q:Exit→Act→World→Prop)(a:Act)(w:World) :Prop:=
 j_l c=true→(∀a w,¬Q .outgrown a w)→c.wpIn (Rd l) n P Q a w
theorem a_dm (hm:P.follows .mixedOrders=true)(n l:Nat) :WL P (wpR P n l) where
 mono h h2 hd hq:=wpIn_mono (h2 hd fun a w hx=>hq a w (h _ _ _ hx)) h
 skip h _ _:=wpIn_skip h
 label h _ _:=wpIn_label h
 exit h _ _:=wpIn_exit h
 ret h _ _:=wpIn_ret h
 condT hc h hd hq:=wpIn_cond_true hc (h (Bool.and_eq_true _ _ ▸ hd).1 hq)
 condF hc h hd hq:=wpIn_cond_false hc (h (Bool.and_eq_true _ _ ▸ hd).2 hq)
 block h hd hq:=wpIn_block (h hd hq)
 seq h hd hq:=by
   have hd:=(Bool.and_eq_true _ _).mp hd
   refine wpIn_seq (wpIn_mono (h hd.1 hq) fun e a w he=>?_)
   cases e with
   | normal=>exact he hd.2 hq
   | _=>exact he
 loop I n₀ h0 h hd hq:=by
   refine wpIn_loop (fun a w=>∃n,I n a w) (fun a w=>leastOf (fun n=>I n a w)) ⟨n₀,h0⟩ fun a w hI=>?_
   refine wpIn_mono (h _ a w (leastOf_spec hI).1 hd hq) fun e a' w' he=>?_
   cases e with
   | normal=>
     obtain ⟨n',hlt,hI'⟩:=he
     exact ⟨⟨n',hI'⟩,Nat.lt_of_le_of_lt ((leastOf_spec ⟨n',hI'⟩).2 n' hI') hlt⟩
   | _=>exact he
 region h hd hq:=by
   refine wpIn_region (v_l (y_5 hd) hq _ _ _ ?_)
   rw[List.range_eq_range',←Array.length_toList,wpOps_eq_wpList _ 0 (by simp)]
   exact h
 draw {id ops Q a w} h hd hq:=by
   refine wpIn_region_draw fun t=>v_l (y_5 hd) hq _ _ _ ?_
   simp only[Region.schedule,hm,Bool.true_or,if_true]
   refine h _ (z_f _ _ _ ?_)
   exact Nat.le_trans List.countP_le_length (by simp)
end
section
variable {P:Program} {k k' k0:Nat→Prop} {β β' β0:Bk} {σ σ' σ0 σd:Store} {W W' W'' W0:World} {B B':Nat→Prop} {b n:Nat} {γ:Nat→Nat} {env:Env} {a:Act}
def Off (k:Nat→Prop)(β:Bk)(σ:Store)(b:Nat) :Prop:=¬k b∧∀i bi,β i=some bi→σ i≠ .dead→bi.blk≠b
theorem Off.ghost (h:Off k β σ b)(hb:b < W.heap.size)(g:Ghost k β σ W k' β' σ') :Off k' β' σ' b:=by
 refine ⟨fun hk=>?_,fun i bi hi hl he=>?_⟩
 · rcases g.kn b hk with h1 | h1 | ⟨i,bi,h1,h2,h3⟩
   · exact h.1 h1
   · omega
   · exact h.2 i bi h1 h2 h3
 · rcases g.bn i bi hi with h1 | h1 | ⟨j,bj,h1,h2,h3⟩
   · exact h.2 i bi h1 (fun hd=>hl (g.dd i hd)) he
   · omega
   · exact h.2 j bj h1 h2 (h3.trans he)
theorem Off.new (hs:SRel P k β W σ)(hb:W.heap.size≤b) :Off k β σ b:=
 ⟨fun hk=>by have:=hs.klt b hk;omega,fun i bi hi _ he=>by have:=hs.blt i bi hi;omega⟩
structure Idle (B:Nat→Prop) (W W':World) :Prop where
 os:W'.os=W.os
 tape:W'.tape=W.tape
 output:W'.output=W.output
 size:W.heap.size≤W'.heap.size
 block:∀b,b < W.heap.size→¬B b→W'.heap[b]? =W.heap[b]?
theorem Idle.refl (B:Nat→Prop)(W:World) :Idle B W W:=⟨rfl,rfl,rfl,Nat.le_refl _,fun _ _ _=>rfl⟩
theorem Idle.trans (h:Idle B W W')(h':Idle B W' W'') :Idle B W W'':=
 ⟨h'.os.trans h.os,h'.tape.trans h.tape,h'.output.trans h.output,Nat.le_trans h.size h'.size,fun b hb hn=>(h'.block b (Nat.lt_of_lt_of_le hb h.size) hn).trans (h.block b hb hn)⟩
theorem Idle.put (W:World)(b:Nat)(o:Obj) :Idle (fun x=>x=b) W (W.putObj b o):=
 ⟨rfl,rfl,rfl,by simp,fun x _ hx=>World.putObj_heap_other hx⟩
theorem Idle.alloc (B:Nat→Prop)(W:World)(o:Obj) :Idle B W (W.alloc o):=
 ⟨rfl,rfl,rfl,by show W.heap.size≤(W.heap.push o).size;simp,fun b hb _=>by
   show (W.heap.push o)[b]? =_
   simp[Array.getElem?_push,Nat.ne_of_lt hb]⟩
theorem Idle.keep (h:Idle B W W')(hs:SRel P k β W σ)(ho:∀b,B b→¬k b) :Keep k W W':=fun b hb=>h.block b (hs.klt b hb) fun hB=>ho b hB hb
theorem SRel.idle (h:SRel P k β W σ)(g:Idle B W W')(ho:∀b,B b→Off k β σ b) :SRel P k β W' σ where
 gl:=h.gl.mono (fun _ h=>h) (g.keep h fun b hb=>(ho b hb).1)
 fin:=h.fin
 dom:=h.dom
 klt b hb:=Nat.lt_of_lt_of_le (h.klt b hb) g.size
 blt i bi hi:=Nat.lt_of_lt_of_le (h.blt i bi hi) g.size
 inj:=h.inj
 notk:=h.notk
 obj i bi t rows hb hs:=by
   have hk:=g.keep h fun b hb=>(ho b hb).1
   have hnd:σ i≠ .dead:=by rw[hs];intro e;cases e
   obtain ⟨arr,h1,h2,h3,h4,h5,h6,h7⟩:=h.obj i bi t rows hb hs
   refine ⟨arr,(g.block _ (h.blt i bi hb) fun hB=>(ho _ hB).2 i bi hb hnd rfl).trans h1,h2,h3,h4,h5,h6,fun r row j d hr hj=>?_⟩
   obtain ⟨v,hv,hV⟩:=h7 r row j d hr hj
   exact ⟨v,hv,hV.mono (fun _ h=>h) (fun _ _ h=>h) hk⟩
 omap i bi clock es hb hs:=by
   have hk:=g.keep h fun b hb=>(ho b hb).1
   have hnd:σ i≠ .dead:=by rw[hs];intro e;cases e
   obtain ⟨ents,h1,h2,h3,h4,h5⟩:=h.omap i bi clock es hb hs
   refine ⟨ents,(g.block _ (h.blt i bi hb) fun hB=>(ho _ hB).2 i bi hb hnd rfl).trans h1,h2,h3,h4,fun r e b ks vs hr he=>?_⟩
   obtain ⟨hbo,ha,hv⟩:=h5 r e b ks vs hr he
   exact ⟨hbo,ha.mono (fun _ h=>h) (fun _ _ h=>h) hk,hv.mono (fun _ h=>h) (fun _ _ h=>h) hk⟩
theorem Frm.idle (h:Frm β σ W W')(g:Idle B W' W'')(hB:∀b,B b→b < W.heap.size→∃i bi,β i=some bi∧σ i≠ .dead∧bi.blk=b) :Frm β σ W W'':=
 ⟨g.os.trans h.os,g.tape.trans h.tape,g.output.trans h.output,Nat.le_trans h.size g.size,fun b hb hn=>(g.block b (Nat.lt_of_lt_of_le hb h.size) fun hx=>by
   obtain ⟨i,bi,h1,h2,h3⟩:=hB b hx hb
   exact hn i bi h1 h2 h3).trans (h.block b hb hn)⟩
def Turned (β:Bk)(σ σd:Store)(b:Nat) :Prop:=∃i bi,β i=some bi∧σ i≠ .dead∧σd i= .dead∧bi.blk=b
def Given (σ σd:Store) :Prop:=∀i,σd i=σ i∨(σ i≠ .dead∧σ i≠ .free∧σd i= .dead)
theorem Given.live (h:Given σ σd){i:Nat}(hl:σd i≠ .dead) :σd i=σ i:=(h i).elim id fun h=>absurd h.2.2 hl
theorem SRel.give (h:SRel P k β W σ)(g:Given σ σd) :SRel P k β W σd where
 gl:=h.gl
 fin:=by
   obtain ⟨N,hN⟩:=h.fin
   refine ⟨N,fun i hi=>?_⟩
   rcases g i with h1 | ⟨_,h1,_⟩
   · rw[h1,hN i hi]
   · exact absurd (hN i hi) h1
 dom i:=by
   rcases g i with h1 | ⟨h0,h1,h2⟩
   · rw[h1];exact h.dom i
   · rw[h2];exact ⟨fun _ e=>(by cases e),fun _=>(h.dom i).2 h1⟩
 klt:=h.klt
 blt:=h.blt
 inj i j bi bj hi hj h1 h2:=h.inj i j bi bj hi hj (by rw[←g.live h1];exact h1) (by rw[←g.live h2];exact h2)
 notk i bi hi h1:=h.notk i bi hi (by rw[←g.live h1];exact h1)
 obj i bi t rows hb hs:=h.obj i bi t rows hb (by rw[←g.live (by rw[hs];intro e;cases e)];exact hs)
 omap i bi c es hb hs:=h.omap i bi c es hb (by rw[←g.live (by rw[hs];intro e;cases e)];exact hs)
theorem Turned.off (h:SRel P k β W σ)(g:Given σ σd)(hb:Turned β σ σd b) :Off k β σd b:=by
 obtain ⟨i,bi,h1,h2,h3,rfl⟩:=hb
 refine ⟨h.notk i bi h1 h2,fun j bj hj hl he=>?_⟩
 have:=h.inj j i bj bi hj h1 (by rw[←g.live hl];exact hl) h2 he
 subst this
 exact hl h3
def a_g0 (P:Program)(f:FuncId)(caps:List (Bool × List D))(σ σd:Store)(xs:List ByteArray) :Prop:=
 g_s P f=true∧Given σ σd∧
 ∀(n l:Nat) (k:Nat→Prop) (β:Bk) (W:World) (lb:Array Value) (J:Nat→World→Prop) (Jx:World→Prop),
   SRel P k β W σ→V k β W (.func (.func f) #[] lb) (.fn f [] caps)→
   (∀i W1 W2,J i W1→Idle (Turned β σ σd) W1 W2→J i W2)→(∀W1 W2,Jx W1→Idle (Turned β σ σd) W1 W2→Jx W2)→
   (∀m i s W1,xs[i]? =some s→J i W1→YieldAt Fence.wide m P l #[.string s] W1 fun e W'=>
     ((e= .returned (.bool true)∧J (i+1) W')∨(e= .returned (.bool false)∧Jx W'))∧W1.heap.size≤W'.heap.size∧∀b,Turned β σ σd b→W'.heap[b]? =W1.heap[b]?)→
   J 0 W→CallsIn Fence.wide n P f (#[.func (.yield l) #[] #[]] ++ lb) W fun e W'=>(∃v,e= .returned v)∧(J xs.length W'∨Jx W')
structure Jl (P:Program) (k:Nat→Prop) (β:Bk) (σ:Store) (W:World) (σd:Store) (rec:Loop) (k':Nat→Prop) (β':Bk) (σ':Store) (W1:World) :Prop where
 srel:SRel P k' β' W1 σ'
 ghost:Ghost k β σ W k' β' σ'
 frm:Frm β σ W W1
 turned:∀b,Turned β σ σd b→Off k' β' σ' b
 own:∀b,b=W.heap.size∨b=W.heap.size+1→Off k' β' σ' b
 loop:W1.heap[W.heap.size+1]? =some (.loop rec)
 dfr:W1.heap[W.heap.size]? =some (.deferred (some []))
variable {rec rec':Loop} {W1 W2:World} {k2:Nat→Prop} {β2:Bk} {σ2:Store}
theorem Jl.lt (h:Jl P k β σ W σd rec k' β' σ' W1) :W.heap.size+1 < W1.heap.size:=(Array.getElem?_eq_some_iff.1 h.loop).1
theorem Turned.lt (hs:SRel P k β W σ)(h:Turned β σ σd b) :b < W.heap.size:=by
 obtain ⟨i,bi,h1,_,_,rfl⟩:=h
 exact hs.blt i bi h1
theorem Jl.go (h:Jl P k β σ W σd rec k' β' σ' W1)(hs:SRel P k β W σ)(s2:SRel P k2 β2 W2 σ2)(g:Ghost k' β' σ' W1 k2 β2 σ2)(f:Frm β' σ' W1 W2) :Jl P k β σ W σd rec k2 β2 σ2 W2 where
 srel:=s2
 ghost:=h.ghost.trans h.frm.size g
 frm:=h.frm.trans h.ghost f
 turned b hb:=(h.turned b hb).ghost (by have:=h.lt;have:=Turned.lt hs hb;omega) g
 own b hb:=(h.own b hb).ghost (by have:=h.lt;omega) g
 loop:=(f.block _ h.lt (h.own _ (.inr rfl)).2).trans h.loop
 dfr:=(f.block _ (by have:=h.lt;omega) (h.own _ (.inl rfl)).2).trans h.dfr
theorem Jl.put (h:Jl P k β σ W σd rec k' β' σ' W1) :Jl P k β σ W σd rec' k' β' σ' (W1.putObj (W.heap.size+1) (.loop rec')) where
 srel:=h.srel.idle (Idle.put _ _ _) fun b hb=>by subst hb;exact h.own _ (.inr rfl)
 ghost:=h.ghost
 frm:=h.frm.idle (Idle.put _ _ _) fun b hb hlt=>by subst hb;omega
 turned:=h.turned
 own:=h.own
 loop:=World.putObj_heap_same h.lt
 dfr:=(World.putObj_heap_other (by omega)).trans h.dfr
theorem Jl.idle (h:Jl P k β σ W σd rec k' β' σ' W1)(hs:SRel P k β W σ)(g:Idle (Turned β σ σd) W1 W2) :Jl P k β σ W σd rec k' β' σ' W2 where
 srel:=h.srel.idle g h.turned
 ghost:=h.ghost
 frm:=h.frm.idle g fun b hb _=>by obtain ⟨i,bi,h1,h2,_,h4⟩:=hb;exact ⟨i,bi,h1,h2,h4⟩
 turned:=h.turned
 own:=h.own
 loop:=(g.block _ h.lt fun hb=>by have:=Turned.lt hs hb;omega).trans h.loop
 dfr:=(g.block _ (by have:=h.lt;omega) fun hb=>by have:=Turned.lt hs hb;omega).trans h.dfr
abbrev NoBx (env:Env) :Prop:=∀s cs,¬f_c (get env s) cs
def clE (env:Env) :Env:=fun s=>match env s with
 | .val x=> .val x
 | .el d i off=> .el d i off
 | .tup xs=> .tup xs
 | _=> .undef
theorem k_3 (env:Env) :NoBx (clE env):=by
 intro s cs hb
 unfold get clE at hb
 split at hb <;> rcases hb with hb | hb <;> cases hb
theorem a_e3 (env:Env) :ND (clE env):=by
 intro s d off hg
 unfold get clE at hg
 split at hg <;> cases hg
theorem RelX.clean {tmps:Array Value}(h:RelX P k0 β0 σ0 W0 n k β γ tmps W env σ) :RelX P k0 β0 σ0 W0 n k β γ tmps W (clE env) σ where
 srel:=h.srel
 slot s:=by
   have hs:=h.slot s
   unfold get at hs ⊢
   unfold clE
   cases he:env s <;> rw[he] at hs <;> first | exact hs | trivial
 box s cs hb:=absurd hb (k_3 env s cs)
 inj s s' cs cs' hb:=absurd hb (k_3 env s cs)
 ghost:=h.ghost
 frm:=h.frm
 size:=h.size
theorem RelX.anew {tmps:Array Value}(h:RelX P k0 β0 σ0 W0 n k β γ tmps W env σ)(hnb:NoBx env)(s2:SRel P k2 β2 W2 σ2)(g:Ghost k β σ W k2 β2 σ2)(hk:Keep k W W2) :RelX P k2 β2 σ2 W2 n k2 β2 γ tmps W2 env σ2 where
 srel:=s2
 slot s:=(h.slot s).mono g.kk g.bb hk
 box s cs hb:=absurd hb (hnb s cs)
 inj s s' cs cs' hb:=absurd hb (hnb s cs)
 ghost:=Ghost.refl _ _ _ _
 frm:=Frm.refl _ _ _
 size:=h.size
theorem ND.put_val (h:ND env)(hnb:NoBx env)(p:Nat)(x:A) :ND (a_t env p (.val x)):=by
 intro s d off hg
 by_cases hs:s=p
 · subst hs;rw[b_n] at hg;cases hg
 · rw[a_1 _ _ hs] at hg
   have hb:=h s d off hg
   exfalso
   cases hd:get env d with
   | bx cs=>exact hnb d cs (.inl hd)
   | cb cs=>exact hnb d cs (.inr hd)
   | _=>rw[hd] at hb;cases hb
theorem a_k0 (hm:P.follows .mixedOrders=true)(an:Ann){p m fn:Nat}{tmps:Array Value}{assign body:Code}{s:ByteArray}{I J X:Store→Prop}(h:RelX P k0 β0 σ0 W0 n k β γ tmps W env σ)(hnd:ND env)(hnb:NoBx env)
   (hp:p < n) (hd1:∀d ∈ f_g assign,d < n) (hd2:∀d ∈ f_g body,d < n) (hn1:j_l assign=true) (hn2:j_l body=true)
   (hj:Jl P k β σ W σd { state:= .ready,pending:=none,fn,tmps,params:= #[p],assign,body,defers:=W.heap.size } k' β' σ' W1)
   (hr:dwp P an assign (fun e env1 s1=>match e with
     | .normal=>dwp P an body (fun e _ s2=>match e with | .normal=>J s2 | .ret=>X s2 | _=>False) (clE env1) s1
     | _=>False) (a_t env p (.val (.one (.str s)))) σ') :
   YieldAt Fence.wide m P (W.heap.size+1) #[.string s] W1 fun e W'=>
     ((e= .returned (.bool true)∧∃k2 β2 σ2,Jl P k β σ W σd { state:= .ready,pending:=none,fn,tmps,params:= #[p],assign,body,defers:=W.heap.size } k2 β2 σ2 W'∧J σ2)∨
      (e= .returned (.bool false)∧∃k2 β2 σ2,Jl P k β σ W σd { state:= .done,pending:=some .ret,fn,tmps,params:= #[p],assign,body,defers:=W.heap.size } k2 β2 σ2 W'∧X σ2))∧
     W1.heap.size≤W'.heap.size∧∀b,Turned β σ σd b→W'.heap[b]? =W1.heap[b]? :=by
 have hs:=h.srel
 have hlt:∀b,Turned β σ σd b→b < W1.heap.size:=fun b hb=>by have:=hj.lt;have:=Turned.lt hs hb;omega
 refine ⟨fn,_,assign,body,run_yield hj.loop rfl,roundIn_of_wpIn trivial ?_⟩
 have hX:=(h.anew hnb hj.srel hj.ghost (hj.frm.keep hs)).put hp (v:= .string s) (e:= .val (.one (.str s))) (by rintro cs (e | e) <;> cases e) (V.str s)
 have hA:=h_1 (df:= []) (a_dm hm m (W.heap.size+1)) an assign _ { tmps:=tmps.setIfInBounds p (.string s),defers:= [] } W1 _ _ hd1 ⟨⟨rfl,_,_,_,hX⟩,hnd.put_val hnb p _⟩ hr
 have ez:((#[p]:Array Tmp).zip #[Value.string s]).foldl (fun t (x:Tmp × Value)=>t.setIfInBounds x.1 x.2) tmps=tmps.setIfInBounds p (.string s):=by simp
 show assign.wpIn (Rd (W.heap.size+1)) m P _ { tmps:=((#[p]:Array Tmp).zip #[Value.string s]).foldl (fun t (x:Tmp × Value)=>t.setIfInBounds x.1 x.2) tmps,defers:= [] } W1
 rw[ez]
 refine wpIn_mono (hA hn1 fun a w hx=>hx.elim fun _ h=>h.elim fun _ h=>h.1.elim) fun e a1 W2 he=>?_
 obtain ⟨env1,σ1,q1,⟨⟨hdf,k1,β1,γ1,hX1⟩,hnd1⟩,_⟩:=he
 cases e with
 | normal=>
   have hnb1:=k_3 env1
   have hnd1:=a_e3 env1
   have hX1:=hX1.clean
   have j1:=hj.go hs hX1.srel hX1.ghost hX1.frm
   refine ⟨_,run_beginRound j1.loop rfl,?_⟩
   have j2:=j1.put (rec':= { state:= .busy,pending:=none,fn,tmps,params:= #[p],assign,body,defers:=W.heap.size })
   have hk2:Keep k1 W2 (W2.putObj (W.heap.size+1) (.loop { state:= .busy,pending:=none,fn,tmps,params:= #[p],assign,body,defers:=W.heap.size })):=
     (Idle.put _ _ _).keep hX1.srel fun b hb=>by subst hb;exact (j1.own _ (.inr rfl)).1
   have hX2:=hX1.anew hnb1 j2.srel (Ghost.refl _ _ _ _) hk2
   have hB:=h_1 (df:= []) (a_dm hm m (W.heap.size+1)) an body _ a1 _ (clE env1) σ1 hd2 ⟨⟨hdf,_,_,_,hX2⟩,hnd1⟩ q1
   have hsz2:W1.heap.size≤(W2.putObj (W.heap.size+1) (.loop { state:= .busy,pending:=none,fn,tmps,params:= #[p],assign,body,defers:=W.heap.size })).heap.size:=by
     rw[World.putObj_size];exact hX1.frm.size
   have ht2:∀b,Turned β σ σd b→(W2.putObj (W.heap.size+1) (.loop { state:= .busy,pending:=none,fn,tmps,params:= #[p],assign,body,defers:=W.heap.size })).heap[b]? =W1.heap[b]? :=fun b hb=>by
     have:=Turned.lt hs hb
     rw[World.putObj_heap_other (by omega)]
     exact hX1.frm.block b (hlt b hb) (hj.turned b hb).2
   generalize hW3:W2.putObj (W.heap.size+1) (.loop { state:= .busy,pending:=none,fn,tmps,params:= #[p],assign,body,defers:=W.heap.size }) =W3 at *
   refine wpIn_mono (hB hn2 fun a w hx=>hx.elim fun _ h=>h.elim fun _ h=>h.1.elim) fun e a3 W4 he=>?_
   obtain ⟨env3,σ3,q3,⟨⟨_,k3,β3,γ3,hX3⟩,_⟩,_⟩:=he
   have j3:=j2.go hs hX3.srel hX3.ghost hX3.frm
   have hsz:W1.heap.size≤W4.heap.size:=Nat.le_trans hsz2 hX3.frm.size
   have ht:∀b,Turned β σ σd b→W4.heap[b]? =W1.heap[b]? :=fun b hb=>
     (hX3.frm.block b (Nat.lt_of_lt_of_le (hlt b hb) hsz2) (j2.turned b hb).2).trans (ht2 b hb)
   have fin:∀(o:Obj),W1.heap.size≤(W4.putObj (W.heap.size+1) o).heap.size∧∀b,Turned β σ σd b→(W4.putObj (W.heap.size+1) o).heap[b]? =W1.heap[b]? :=fun o=>
     ⟨by rw[World.putObj_size];exact hsz,fun b hb=>by
       have:=Turned.lt hs hb
       rw[World.putObj_heap_other (by omega)];exact ht b hb⟩
   cases e with
   | normal=>exact ⟨_,_,run_endRound none j3.loop, .inl ⟨rfl,_,_,_,j3.put,q3⟩,fin _⟩
   | ret=>exact ⟨_,_,run_endRound (some .ret) j3.loop, .inr ⟨rfl,_,_,_,j3.put,q3⟩,fin _⟩
   | _=>exact q3.elim
 | _=>exact q1.elim
def a_hm (P:Program)(k0:Nat→Prop)(β0:Bk)(σ0:Store)(W0:World)(n:Nat)(γ:Nat→Nat)(env:Env)(a:Act)(Y:Store→Prop)(a':Act)(W':World) :Prop:=
 ∃D k' β' σ',a'= { a with defers:= [{ target:= .collected D,args:= #[] }] }∧RelX P k0 β0 σ0 W0 n k' β' γ a.tmps W' env σ'∧W0.heap.size≤D∧W'.heap[D]? =some (.deferred (some []))∧Off k' β' σ' D∧Y σ'
theorem a_jh (hm:P.follows .mixedOrders=true)(an:Ann){gt p m:Nat}{assign body:Code}{Q:Exit→Act→World→Prop}{f:FuncId}{caps:List (Bool × List D)}{xs:List ByteArray}{I:Nat→Store→Prop}{X:Store→Prop}
   (h:RelX P k0 β0 σ0 W0 n k β γ a.tmps W env σ) (hnd:ND env) (hnb:NoBx env) (hdf:a.defers=[])
   (hp:p < n) (hd1:∀d ∈ f_g assign,d < n) (hd2:∀d ∈ f_g body,d < n) (hn1:j_l assign=true) (hn2:j_l body=true)
   (hg:get env gt= .val (.one (.fn f [] caps))) (hseq:a_g0 P f caps σ σd xs) (h0:I 0 σd)
   (hr:∀i s s0,xs[i]? =some s→I i s0→dwp P an assign (fun e env1 s1=>match e with
     | .normal=>dwp P an body (fun e _ s2=>match e with | .normal=>I (i+1) s2 | .ret=>X s2 | _=>False) (clE env1) s1
     | _=>False) (a_t env p (.val (.one (.str s)))) s0)
   (hq1:∀a' W',a_hm P k0 β0 σ0 W0 n γ env a (I xs.length) a' W'→Q .normal a' W')
   (hq2:∀a' W',a_hm P k0 β0 σ0 W0 n γ env a X a' W'→Q .ret a' W') :
   (Code.rangeFunc (.tmp gt) #[p] assign body).wpIn Fence.wide m P Q a W:=by
 obtain ⟨hcall,hgv,hit⟩:=hseq
 have hs:=h.srel
 have hv:=h.slot gt
 rw[hg] at hv
 have hv:V k β W (a.tmps.getD gt undef) (.fn f [] caps):=hv
 obtain ⟨lb,hlb⟩ :∃lb,a.tmps.getD gt undef= .func (.func f) #[] lb:=by
   generalize a.tmps.getD gt undef=u at hv
   cases hv with
   | fn _ first lb _ _ _ _ h1=>exact ⟨lb,by rw[h1];rfl⟩
 have hev:a.eval (.tmp gt) = .func (.func f) #[] lb:=hlb
 refine wpIn_rangeFunc fun fn _=>?_
 obtain ⟨rec,hrec⟩ :∃rec:LoopState→Option Code→Loop,rec=fun st pe=> { state:=st,pending:=pe,fn,tmps:=a.tmps,params:= #[p],assign,body,defers:=W.heap.size } :=⟨_,rfl⟩
 obtain ⟨W1,hW1⟩ :∃W1,(W.alloc (.deferred (some []))).alloc (.loop (rec .ready none)) =W1:=⟨_,rfl⟩
 have hL1:W1.heap[W.heap.size+1]? =some (.loop (rec .ready none)):=by
   rw[←hW1];have:=World.alloc_heap_new (W.alloc (.deferred (some []))) (.loop (rec .ready none));rwa [World.size_alloc] at this
 have hid:Idle (fun _=>False) W W1:=by rw[←hW1];exact (Idle.alloc _ _ _).trans (Idle.alloc _ _ _)
 have hK1:W1.heap[W.heap.size]? =some (.deferred (some [])):=by
   rw[←hW1]
   refine ((Idle.alloc (fun _=>False) (W.alloc (.deferred (some []))) (.loop (rec .ready none))).block _ (by simp) id).trans (World.alloc_heap_new W _)
 have hs1:SRel P k β W1 σ:=hs.idle hid fun b hb=>hb.elim
 have j0:Jl P k β σ W σd (rec .ready none) k β σd W1:= {
   srel:=hs1.give hgv
   ghost:=⟨fun _ h=>h,fun _ h=> .inl h,fun _ _ h=>h,fun _ _ h=> .inl h,fun i hi=>by
     rcases hgv i with e | ⟨e,_,_⟩
     · rw[e];exact hi
     · exact absurd hi e⟩
   frm:=⟨hid.os,hid.tape,hid.output,hid.size,fun b hb _=>hid.block b hb id⟩
   turned:=fun b hb=>Turned.off hs hgv hb
   own:=fun b hb=>Off.new (hs.give hgv) (by omega)
   loop:=hL1
   dfr:=hK1 }
 refine ⟨W.heap.size+1,[{ target:= .collected W.heap.size,args:= #[] }],W1,{ target:= .fn (.func f) lb,args:= #[.func (.yield (W.heap.size+1)) #[] #[]] },W1,f,
   #[.func (.yield (W.heap.size + 1)) #[] #[]] ++ lb, W1, ?_, ?_, fun _ _ => trivial, ?_, fun h => (by cases h), ?_⟩
 · rw[←hW1,hrec];exact run_enterLoop_outer _ _ _ _ _
 · simp only[resolve,hev]
   simp[go_sem]
 · simp[invoke,go_sem,l_d hcall]
 · refine (hit (m - 1) (W.heap.size+1) k β W1 lb (fun i W2=>∃k2 β2 σ2,Jl P k β σ W σd (rec .ready none) k2 β2 σ2 W2∧I i σ2) (fun W2=>∃k2 β2 σ2,Jl P k β σ W σd (rec .done (some .ret)) k2 β2 σ2 W2∧X σ2) hs1 ?_ ?_ ?_ ?_ ⟨_,_,_,j0,h0⟩).mono ?_
   · rw[←hlb];exact V.mono (fun _ h=>h) (fun _ _ h=>h) (hid.keep hs fun b hb=>hb.elim) hv
   · rintro i A B ⟨k2,β2,σ2,hj,hi⟩ hAB
     exact ⟨k2,β2,σ2,hj.idle hs hAB,hi⟩
   · rintro A B ⟨k2,β2,σ2,hj,hi⟩ hAB
     exact ⟨k2,β2,σ2,hj.idle hs hAB,hi⟩
   · rintro mm i s W2 hx ⟨k2,β2,σ2,hj,hi⟩
     rw[hrec] at hj ⊢
     exact a_k0 (I:=I i) hm an h hnd hnb hp hd1 hd2 hn1 hn2 hj (hr i s σ2 hx hi)
   · have key : ∀ (W2 : World) k2 β2 σ2 st pe (Y : Store → Prop), Jl P k β σ W σd (rec st pe) k2 β2 σ2 W2 → Y σ2 →
         a_hm P k0 β0 σ0 W0 n γ env a Y { a with defers:= [{ target:= .collected W.heap.size,args:= #[] }] } (W2.putObj (W.heap.size+1) (.loop (rec .exhausted pe))):=fun W2 k2 β2 σ2 st pe Y hj hy=>by
       have j2:=hj.put (rec':=rec .exhausted pe)
       exact ⟨W.heap.size,k2,β2,σ2,rfl,h.step j2.srel j2.ghost j2.frm,h.frm.size,j2.dfr,j2.own _ (.inl rfl),hy⟩
     rintro e W2 ⟨⟨v,rfl⟩,⟨k2,β2,σ2,hj,hi⟩ | ⟨k2,β2,σ2,hj,hx⟩⟩
     · have hrun:=run_endLoop (P:=P) hj.loop (by rw[hrec];simp)
       have hk:=key W2 k2 β2 σ2 _ _ _ hj hi
       rw[hrec] at hrun hk
       refine ⟨_,_,hrun,?_⟩
       rw[hdf]
       exact hq1 _ _ hk
     · have hrun:=run_endLoop (P:=P) hj.loop (by rw[hrec];simp)
       have hk:=key W2 k2 β2 σ2 _ _ _ hj hx
       rw[hrec] at hrun hk
       refine ⟨_,_,hrun,?_⟩
       rw[hdf]
       exact wpIn_ret (hq2 _ _ hk)
end
end
end Go.Fw
namespace Go.Proofs.YtfdffboelecgoaaGreatDoor
open Go.Proofs Go.RowKit Go.Shelf
open Go.Proofs.Tryz (prog)
section
theorem a_gv:(prog.info? 83).map (·.size) =some 2:=by kernel_rfl
theorem a_fc {P:Program}{fits:TypeId→Bool}{d e c c' off n:Nat}(h:c≤c')(hr:rowAt P fits d e c off n=true) :rowAt P fits d e c' off n=true:=by
 cases d with
 | zero=>exact hr
 | succ d=>
   unfold rowAt at hr ⊢
   simp only at hr ⊢
   split at hr
   · cases hr
   · rename_i hs
     rw[if_neg hs]
     rw[Bool.or_eq_true] at hr ⊢
     rcases hr with hr | hr
     · left
       simp only[Bool.and_eq_true] at hr ⊢
       exact ⟨⟨hr.1.1,decide_eq_true (Nat.le_trans (of_decide_eq_true hr.1.2) h)⟩,hr.2⟩
     · right
       rw[Bool.and_eq_true] at hr ⊢
       exact ⟨decide_eq_true (Nat.lt_of_lt_of_le (of_decide_eq_true hr.1) h),hr.2⟩
theorem t_3 {P:Program}{e c c' off:Nat}(h:c≤c') :∀{d u n:Nat},liesAt P d e c off u n=true→liesAt P d e c' off u n=true
 | 0,_,_,hr=>hr
 | d+1,u,n,hr=>by
   unfold liesAt at hr ⊢
   rw[Bool.or_eq_true] at hr ⊢
   rcases hr with hr | hr
   · exact .inl (a_fc h hr)
   · right
     split at hr
     · exact t_3 h hr
     · cases hr
theorem v_p:prog.cellsOf 85=2:=by kernel_rfl
theorem a_mz {n:Nat}(h:2≤n) :liesAt prog prog.depth 85 (n / prog.cellsOf 85) 0 83 1=true:=by
 rw[v_p]
 exact t_3 (show 1≤n / 2 by omega) (by kernel_rfl)
set_option maxHeartbeats 1000000 in
set_option maxRecDepth 100000 in
theorem v_t (b:Nat)(w:World)(h0:w.cell? ⟨b,0,none⟩ =some (.pointer (some ⟨b,0,none⟩))) :
   Calls prog 107 #[.pointer (some ⟨b,0,none⟩)] w fun e w'=>e= .returned (.tuple #[])∧w'=w:=by
 obtain ⟨j,hj,_⟩:=Option.map_eq_some_iff.1 a_gv
 go_enter Tryz.func107,Tryz.ntmps107
 go_wp2
 rw[Lib.run_neq_ptr_same w _ Tryz.underlying81 hj]
 go_wp2
 go_end0
 exact ⟨rfl,rfl⟩
set_option maxHeartbeats 1000000 in
set_option maxRecDepth 100000 in
theorem u_r (b:Nat)(w:World)(h0:w.cell? ⟨b,0,none⟩ =some (.pointer none)){n:Nat}(hn:2≤n)(hsh:w.shape? b=some (85,n))(hfz:w.frozen? ⟨b,0,none⟩ =false) :
   Calls prog 107 #[.pointer (some ⟨b,0,none⟩)] w fun e w'=>e= .returned (.tuple #[])∧w'=w.setCell ⟨b,0,none⟩ (.pointer (some ⟨b,0,none⟩)):=by
 obtain ⟨j,hj,hjs⟩:=Option.map_eq_some_iff.1 a_gv
 go_enter Tryz.func107,Tryz.ntmps107
 go_wp2
 rw[Lib.run_to_unsafe w ⟨b,0,none⟩ Tryz.underlying81 Tryz.underlying183 hj (by rw[hjs];decide) hsh (show 0 < n by omega)]
 simp only[Result.andThen]
 rw[Oper.upon_value]
 go_wp2
 rw[run_callFunc_extern Tryz.func136 (by kernel_rfl) (by kernel_rfl) (by kernel_rfl) (e:=Extern.AbiNoEscape.same) (by kernel_rfl)]
 rw[Lib.run_noEscape]
 simp only[Result.andThen]
 rw[Oper.upon_value]
 go_wp2
 rw[Lib.run_from_unsafe w ⟨b,0,none⟩ Tryz.underlying183 Tryz.underlying81 hj hsh (a_mz hn)]
 simp only[Result.andThen]
 rw[Oper.upon_value]
 go_wp2
 go_end0
 exact ⟨rfl,rfl⟩
open Go.Fw
variable {σ:Store}
theorem a_dl {W:World}{b:Nat}{arr:Array Value}{t:TypeId}{fz:Nat × Nat}(h:W.heap[b]? =some (.cells arr t fz))(h0:0 < arr.size){v:Value}{m:Nat} :
   W.setCell ⟨b,0,none⟩ v=W.setRow b (arr.toList.take (0 * m+0) ++ [v] ++ arr.toList.drop (0 * m+0+ [v].length)).toArray:=by
 have e1:(arr.toList.take (0 * m+0) ++ [v] ++ arr.toList.drop (0 * m+0+ [v].length)).toArray=arr.setIfInBounds 0 v:=by
   apply Array.toList_inj.1
   obtain ⟨l⟩:=arr
   cases l with
   | nil=>exact absurd h0 (by simp)
   | cons x r=>simp only[Nat.zero_mul,Nat.zero_add,List.take_zero,List.nil_append,List.length_singleton,List.drop_succ_cons,List.drop_zero,Array.toList_setIfInBounds,List.set_cons_zero,List.singleton_append]
 rw[e1]
 have hlt:b < W.heap.size:=(Array.getElem?_eq_some_iff.1 h).1
 have hv:W.heap[b]= .cells arr t fz:=(Array.getElem?_eq_some_iff.1 h).2
 have e2:(W.setCell ⟨b,0,none⟩ v).heap=(W.setRow b (arr.setIfInBounds 0 v)).heap:=by
   apply Array.ext_getElem?
   intro m
   simp only[World.setCell,World.setRow,Array.getElem?_modify]
   by_cases e:b=m
   · rw[if_pos e,if_pos e,←e,Array.getElem?_eq_getElem hlt,hv]
     rfl
   · rw[if_neg e,if_neg e]
 exact congrArg (fun x=>({ W with heap:=x } :World)) e2
theorem z_4 {id:Nat}{p d:D}(h:σ id= .live b_9 [[p,d]])(hp:p= .nilp∨p= .el (.osl id 0 1) 0 0) :
   DCalls prog c_e [.one (.el (.osl id 0 1) 0 0)] σ fun r σ'=>r= .tup []∧σ'=σ.set id (.live b_9 [[.el (.osl id 0 1) 0 0,d]]):=by
 refine ⟨by kernel_rfl,fun k β W vs hS hsz hv=>?_⟩
 obtain ⟨v,rfl,hV⟩:=o_c hsz hv
 have hV:V k β W v (.el (.osl id 0 1) 0 0):=hV
 cases hV with
 | elosl _ _ _ _ _ bi hb hi=>
   obtain ⟨arr,g1,g2,g3,g4,g5,g6,g7⟩:=hS.obj id bi _ _ hb h
   have hes:bi.es=2:=by rw[←g3];exact v_p
   obtain ⟨v0,hv0,hV0⟩:=g7 0 [p,d] 0 p rfl rfl
   obtain ⟨v1,hv1,hV1⟩:=g7 0 [p,d] 1 d rfl rfl
   have hsz2:2≤arr.size:=by rw[hes] at g4;simpa using g4
   have c0:W.cell? ⟨bi.blk,0,none⟩ =some v0:=by rw[cell_of_heap g1];simpa using hv0
   have e0:(0+0) * bi.es+0=0:=by simp
   rw[e0]
   have hself:V k β W (.pointer (some ⟨bi.blk,0,none⟩)) (.el (.osl id 0 1) 0 0):=by
     have:=V.elosl (k:=k) (W:=W) id 0 1 0 0 bi hb (by omega)
     rwa [e0] at this
   rcases hp with rfl | rfl
   · cases hV0
     have hw:W.setCell ⟨bi.blk,0,none⟩ (.pointer (some ⟨bi.blk,0,none⟩)) =W.setRow bi.blk (arr.toList.take (0 * bi.es+0) ++ [Value.pointer (some ⟨bi.blk,0,none⟩)] ++ arr.toList.drop (0 * bi.es+0+ [Value.pointer (some ⟨bi.blk,0,none⟩)].length)).toArray:=
       a_dl g1 (by omega)
     refine (u_r bi.blk W c0 hsz2 (by simp[World.shape?,g1]) (by simp[World.frozen?,g1])).mono ?_
     rintro e W' ⟨rfl,rfl⟩
     rw[hw]
     have hS2:=hS.setRow hb h (r:=0) (row:= [.nilp,d]) rfl (off:=0) (us:= [.pointer (some ⟨bi.blk,0,none⟩)]) (ys:= [.el (.osl id 0 1) 0 0]) ⟨rfl,fun i v d hv hd=>by
       match i,hv,hd with
       | 0,hv,hd=>cases hv;cases hd;exact hself
       | i+1,hv,hd=>simp at hv⟩ (by simp) g1
     have hne:σ id≠ .dead:=by rw[h];intro e;cases e
     refine ⟨.tuple #[], .tup [],_,k,β,rfl,⟨rfl,rfl⟩,⟨#[],rfl,rfl,fun i u x hu=>by simp at hu⟩,hS2,⟨fun _ h=>h,fun _ h=> .inl h,fun _ _ h=>h,fun _ _ h=> .inl h,fun i hi=>?_⟩,⟨rfl,rfl,rfl,by rw[setRow_size];exact Nat.le_refl _,fun b hb' hn=>a_4 _ _ _ _ fun e=>hn id bi hb hne e.symm⟩⟩
     rw[Store.set_ne _ _ (by intro e;subst e;exact hne hi)];exact hi
   · have : v0 = .pointer (some ⟨bi.blk, 0, none⟩) := by
       cases hV0 with
       | elosl _ _ _ _ _ bi' hb' _=>
         rw[hb] at hb';cases hb'
         simp
     subst this
     refine (v_t bi.blk W c0).mono ?_
     rintro e W' ⟨rfl,rfl⟩
     refine ⟨.tuple #[], .tup [],σ,k,β,rfl,⟨rfl,?_⟩,⟨#[],rfl,rfl,fun i u x hu=>by simp at hu⟩,hS,Ghost.refl _ _ _ _,Frm.refl _ _ _⟩
     funext i
     unfold Store.set
     split
     · rename_i hi;rw[hi,h]
     · rfl
end
section
theorem a_c5 (w:World)(g n:Nat) :Fw.Idle (fun x=>x=g) w (w.drew.freeze ⟨g,0,none⟩ n):=by
 unfold World.freeze
 split
 · exact ⟨rfl,rfl,rfl,Nat.le_refl _,fun _ _ _=>rfl⟩
 · refine ⟨rfl,rfl,rfl,by simp,fun x hx hn=>?_⟩
   simp only[Array.getElem?_modify]
   rw[if_neg (show ¬g=x from fun e=>hn e.symm)]
   rfl
set_option maxHeartbeats 1000000 in
set_option maxRecDepth 100000 in
theorem a_h2 (b g cap:Nat)(w:World)(l:List UInt8)(cur:Array Value)(h0:l≠[])(hb:w.cell? ⟨b,1,none⟩ =some (.slice (some ⟨g,0,none⟩) l.length cap))(hg:w.heap[g]? =some (.cells cur 5 (0,0)))
   (hc:∀(j:Nat) x,l[j]? =some x→cur[j]? =some (.int .u8 x.toNat)) (hcs:l.length≤cur.size) (hlc:l.length≤cap) (hsz:l.length≤140737488355328) :
   Calls prog 49 #[.pointer (some ⟨b,0,none⟩)] w fun e w'=>e= .returned (.string ⟨l.toArray⟩)∧Fw.Idle (fun x=>x=g) w w':=by
 have hl0:l.length≠0:=by simpa using h0
 have c1:w.drew.cell? ⟨b,1,none⟩ =some (.slice (some ⟨g,0,none⟩) l.length cap):=hb
 have hSD:(Builtin.unsafeSliceData_ #[72] 138 #[.slice (some ⟨g,0,none⟩) l.length cap]).run prog w.drew= .ok (.pointer (some ⟨g,0,none⟩)) w.drew:=
   Lib.run_unsafeSliceData_row _ _ _ _ _ _ (by omega)
 have hUS:(Builtin.unsafeString_ #[138,3] 9 #[.pointer (some ⟨g,0,none⟩), .int .i64 l.length]).run prog w.drew= .ok (.string ⟨l.toArray⟩) (w.drew.freeze ⟨g,0,none⟩ l.length):=by
   refine Lib.run_unsafeString_row w.drew 138 3 9 5 Tryz.underlying138 (by kernel_rfl) g cur.size (by have hg':w.drew.heap[g]? =some (.cells cur 5 (0,0)):=hg;simp[World.shape?,hg']) l h0 (by omega) (by omega) ?_
   intro j x hx
   have:=hc j x hx
   have hg':w.drew.heap[g]? =some (.cells cur 5 (0,0)):=hg
   rw[Fw.add_mk,Fw.cell_of_heap hg',Nat.zero_add]
   exact this
 have mixed:prog.follows .mixedOrders=true:=by kernel_rfl
 go_enter Tryz.func49,Tryz.ntmps49
 go_wp2
 go_region_o
 all_goals (go_wp2;go_ret;exact ⟨rfl,a_c5 w g _⟩)
open Go.Fw
variable {σ:Store}
def b_5 (b:UInt8) :List D:= [.int .u8 b.toNat]
theorem a_id {id bid:Nat}{p:D}{rows:List (List D)}{l:List UInt8}(h:σ id= .live b_9 [[p, .osl bid 0 l.length]])(hb:σ bid= .live a_s rows)(hr:rows.take l.length=l.map b_5)(h0:l≠[])(hsz:l.length≤140737488355328) :
   DCalls prog d_u [.one (.el (.osl id 0 1) 0 0)] σ fun r σ'=>r= .a (sA (a_l l))∧σ'=σ.set bid .dead:=by
 refine ⟨by kernel_rfl,fun k β W vs hS hvs hv=>?_⟩
 obtain ⟨v,rfl,hV⟩:=o_c hvs hv
 have hV:V k β W v (.el (.osl id 0 1) 0 0):=hV
 have hl0:0 < l.length:=List.length_pos_iff.2 h0
 cases hV with
 | elosl _ _ _ _ _ bi hbi hi=>
   obtain ⟨arr,g1,g2,g3,g4,g5,g6,g7⟩:=hS.obj id bi _ _ hbi h
   have hes:bi.es=2:=by rw[←g3];exact v_p
   obtain ⟨v1,hv1,hV1⟩:=g7 0 [p, .osl bid 0 l.length] 1 _ rfl rfl
   have e0:(0+0) * bi.es+0=0:=by simp
   rw[e0]
   cases hV1 with
   | osl _ _ _ cap a bj hbj ha hlc hs hcm=>
     have ha:=ha (by omega)
     subst ha
     obtain ⟨cur,q1,q2,q3,q4,q5,q6,q7⟩:=hS.obj bid bj _ _ hbj hb
     have hes2:bj.es=1:=by rw[←q3];exact c_uint8
     have hrl:l.length≤rows.length:=by
       have:=congrArg List.length hr
       simp at this;omega
     have c1:W.cell? ⟨bi.blk,1,none⟩ =some (.slice (some ⟨bj.blk,0,none⟩) l.length cap):=by
       rw[cell_of_heap g1];simpa using hv1
     rw[hes2] at q4 q7
     refine (a_h2 bi.blk bj.blk cap W l cur h0 c1 q1 (fun j x hx=>?_) (by omega) hlc hsz).mono ?_
     · have hrj : rows[j]? = some (b_5 x) := by
         have hj:=(List.getElem?_eq_some_iff.1 hx).1
         have:(rows.take l.length)[j]? =some (b_5 x):=by rw[hr];simp[hx]
         rwa [List.getElem?_take_of_lt hj] at this
       obtain ⟨u,hu,hVu⟩:=q7 j (b_5 x) 0 _ hrj rfl
       rw[V.inv_int hVu] at hu
       simpa using hu
     · rintro e W' ⟨rfl,hid⟩
       have hne:σ bid≠ .dead:=by rw[hb];intro e;cases e
       have hgv:Given σ (σ.set bid .dead):=fun i=>by
         by_cases e:i=bid
         · subst e;exact .inr ⟨hne,(by rw[hb];intro e;cases e),Store.set_same _ _ _⟩
         · exact .inl (Store.set_ne _ _ e)
       have ht:Turned β σ (σ.set bid .dead) bj.blk:=⟨bid,bj,hbj,hne,Store.set_same _ _ _,rfl⟩
       refine ⟨_, .a (sA (a_l l)),_,k,β,rfl,⟨rfl,rfl⟩,V.str _,(hS.give hgv).idle hid (fun b e=>by subst e;exact Turned.off hS hgv ht),⟨fun _ h=>h,fun _ h=> .inl h,fun _ _ h=>h,fun _ _ h=> .inl h,fun i hi=>?_⟩,?_⟩
       · rcases hgv i with e | ⟨e,_,_⟩
         · rw[e];exact hi
         · exact absurd hi e
       · exact (Frm.refl β σ W).idle hid fun b e _=>by subst e;exact ⟨bid,bj,hbj,hne,rfl⟩
end
end Go.Proofs.YtfdffboelecgoaaGreatDoor
namespace Go.Fw
section
section
variable {P:Program} {k k' k0 k2:Nat→Prop} {β β' β0 β2:Bk} {σ σ' σ0 σd σ2:Store} {W W' W'' W0 W2:World} {B B':Nat→Prop} {b n:Nat} {γ γ2:Nat→Nat} {env env2:Env} {a:Act} {tmps tmps2:Array Value}
def f_6:Code→Bool
 | .rangeFunc .. =>true
 | .seq x y=>f_6 x || f_6 y
 | .cond _ x y=>f_6 x || f_6 y
 | .block _ c=>f_6 c
 | .loop c=>f_6 c
 | _=>false
def NthB (xs:List ByteArray)(i:Nat)(s:ByteArray) :Prop:=xs[i]? =some s
def a_fl (P:Program)(an:Ann)(g:Operand)(ps:Array Tmp)(assign body:Code)(Qx:Exit→a_5) :a_5:=fun env σ=>
 match g,ps.toList with
 | .tmp gt,[p]=>match j_l assign,j_l body with
   | true,true=>∃(f:FuncId) (caps:List (Bool × List D)) (σd:Store) (xs:List ByteArray) (I:Nat→Store→Prop) (X:Store→Prop),get (clE env) gt= .val (.one (.fn f [] caps))∧a_g0 P f caps σ σd xs∧I 0 σd∧
     (∀(i:Nat) (s:ByteArray) (s0:Store),NthB xs i s→I i s0→dwp P an assign (fun e env1 s1=>match e with
       | .normal=>dwp P an body (fun e _ s2=>match e with | .normal=>I (i+1) s2 | .ret=>X s2 | _=>False) (clE env1) s1
       | _=>False) (a_t (clE env) p (.val (.one (.str s)))) s0)∧
     (∀s:Store,I xs.length s→Qx .normal (clE env) s)∧∀s:Store,X s→Qx .ret (clE env) s
   | _,_=>False
 | _,_=>False
def dwpX (P:Program)(an:Ann)(n:Nat) :Code→(Exit→a_5)→a_5
 | .seq x y,Qx=>match f_6 x with
   | true=>dwpX P an n x (l_8 (fun env σ=>dwp P an y Qx (clE env) σ) Qx)
   | false=>dwp P an x (l_8 (dwpX P an n y Qx) Qx)
 | .block id c,Qx=>dwpX P an n c (i_r id Qx)
 | .rangeFunc g ps assign body,Qx=>a_fl P an g ps assign body Qx
 | _,_=>fun _ _=>False
def OutR (P:Program)(k0:Nat→Prop)(β0:Bk)(σ0:Store)(W0:World)(n:Nat)(Qx:Exit→a_5) :Exit→Act→World→Prop:=fun e a' W'=>
 ∃env' σ' k' β' γ',Qx e env' σ'∧RelX P k0 β0 σ0 W0 n k' β' γ' a'.tmps W' env' σ'∧ND env'∧
   (a'.defers=[]∨∃D,a'.defers=[{ target:= .collected D,args:= #[] }]∧W0.heap.size≤D∧W'.heap[D]? =some (.deferred (some []))∧Off k' β' σ' D)
theorem OutR.mono {Q Q':Exit→a_5}{e e':Exit}{a':Act}(hq:∀env σ,Q e env σ→Q' e' env σ)(h:OutR P k0 β0 σ0 W0 n Q e a' W') :OutR P k0 β0 σ0 W0 n Q' e' a' W':=by
 obtain ⟨env',σ',k',β',γ',h1,h2⟩:=h
 exact ⟨env',σ',k',β',γ',hq _ _ h1,h2⟩
theorem OutR.of {S:Nat→Prop}{env0:Env}{Q:Exit→a_5}{e:Exit}{a':Act}(h:OutX [] P k0 β0 σ0 W0 n S env0 Q e a' W') :OutR P k0 β0 σ0 W0 n Q e a' W':=by
 obtain ⟨env',σ',h1,⟨⟨h2,k',β',γ',h3⟩,h4⟩,_⟩:=h
 exact ⟨env',σ',k',β',γ',h1,h3,h4, .inl h2⟩
theorem RelX.flat (h0:RelX P k0 β0 σ0 W0 n k β γ tmps W env σ)(h:RelX P k β σ W n k2 β2 γ2 tmps2 W2 env2 σ2) :RelX P k0 β0 σ0 W0 n k2 β2 γ2 tmps2 W2 env2 σ2 where
 srel:=h.srel
 slot:=h.slot
 box s cs hb:=by
   obtain ⟨h1,h2,h3,h4,h5⟩:=h.box s cs hb
   exact ⟨h1,h2,h3,Nat.le_trans h0.frm.size h4,h5⟩
 inj:=h.inj
 ghost:=h0.ghost.trans h0.frm.size h.ghost
 frm:=h0.frm.trans h0.ghost h.frm
 size:=h.size
theorem v_g (hm:P.follows .mixedOrders=true)(an:Ann)(m:Nat) :
   ∀(c:Code) (Qx:Exit→a_5) (a:Act) (W:World) (env:Env) (σ:Store),(∀d ∈ f_g c,d < n)→Rel [] P k0 β0 σ0 W0 n a W env σ∧ND env→dwpX P an n c Qx env σ→
     c.wpIn Fence.wide m P (OutR P k0 β0 σ0 W0 n Qx) a W
 | .seq x y,Qx,a,W,env,σ,hd,hr,h=>by
   have hdx:∀d ∈ f_g x,d < n:=fun d hd'=>hd d (by simp[f_g,hd'])
   have hdy:∀d ∈ f_g y,d < n:=fun d hd'=>hd d (by simp[f_g,hd'])
   have h:(match f_6 x with
     | true=>dwpX P an n x (l_8 (fun env σ=>dwp P an y Qx (clE env) σ) Qx)
     | false=>dwp P an x (l_8 (dwpX P an n y Qx) Qx)) env σ:=h
   cases hx:f_6 x with
   | true=>
     rw[hx] at h
     refine wpIn_seq (wpIn_mono (v_g hm an m x _ a W env σ hdx hr h) fun e a1 W1 he=>?_)
     cases e with
     | normal=>
       obtain ⟨env1,σ1,k1,β1,γ1,q1,q2,q3,q4⟩:=he
       have q2:=q2.clean
       have q3:=a_e3 env1
       have hb:=q2.anew (k_3 env1) q2.srel (Ghost.refl _ _ _ _) fun _ _=>rfl
       refine wpIn_wide.2 (Code.wp_mono (fun e a2 W2 he2=>?_) (a_gp (df:=a1.defers) hm an y Qx a1 W1 (clE env1) σ1 hdy ⟨⟨rfl,_,_,_,hb⟩,q3⟩ q1))
       obtain ⟨env2,σ2,r1,⟨⟨r2,k2,β2,γ2,r3⟩,r4⟩,_⟩:=he2
       refine ⟨env2,σ2,k2,β2,γ2,r1,q2.flat r3,r4,?_⟩
       rw[r2]
       rcases q4 with q4 | ⟨D,q4,q5,q6,q7⟩
       · exact .inl q4
       · have hlt:D < W1.heap.size:=(Array.getElem?_eq_some_iff.1 q6).1
         exact .inr ⟨D,q4,q5,(r3.frm.block D hlt q7.2).trans q6,q7.ghost hlt r3.ghost⟩
     | _=>exact he.mono fun _ _ h=>h
   | false=>
     rw[hx] at h
     refine wpIn_seq (wpIn_mono (wpIn_wide.2 (a_gp hm an x _ a W env σ hdx hr h)) fun e a1 W1 he=>?_)
     cases e with
     | normal=>
       obtain ⟨env1,σ1,q1,q2,_⟩:=he
       exact v_g hm an m y Qx a1 W1 env1 σ1 hdy q2 q1
     | _=>exact (OutR.of he).mono fun _ _ h=>h
 | .block id c,Qx,a,W,env,σ,hd,hr,h=>by
   refine wpIn_block (wpIn_mono (v_g hm an m c (i_r id Qx) a W env σ hd hr h) fun e a1 W1 he=>?_)
   cases e with
   | exit id'=>
     simp only[Exit.inBlock]
     by_cases h1:id'=id
     · rw[if_pos h1]
       exact he.mono fun _ _ h=>by simpa[i_r,h1] using h
     · rw[if_neg h1]
       exact he.mono fun _ _ h=>by simpa[i_r,h1] using h
   | _=>exact he.mono fun _ _ h=>h
 | .rangeFunc g ps assign body,Qx,a,W,env,σ,hd,hr,h=>by
   obtain ⟨⟨hdf,k,β,γ,hX⟩,hnd⟩:=hr
   have hX:=hX.clean
   have hnd:=a_e3 env
   have h1:=k_3 env
   have h:a_fl P an g ps assign body Qx env σ:=h
   unfold a_fl at h
   split at h
   · rename_i p hps _
     split at h
     · rename_i h2 h3
       obtain ⟨f,caps,σd,xs,I,X,h4,h5,h6,h7,h8,h9⟩:=h
       have hps:ps= #[p]:=by
         have:=congrArg List.toArray hps
         simpa using this
       subst hps
       have fin:∀(e:Exit) (Y:Store→Prop) a' W',(∀s,Y s→Qx e (clE env) s)→a_hm P k0 β0 σ0 W0 n γ (clE env) a Y a' W'→OutR P k0 β0 σ0 W0 n Qx e a' W':=by
         rintro e Y a' W' hY ⟨D,k',β',σ',rfl,r1,r2,r3,r4,r5⟩
         exact ⟨clE env,σ',k',β',γ,hY _ r5,r1,hnd, .inr ⟨D,rfl,r2,r3,r4⟩⟩
       exact a_jh hm an hX hnd h1 hdf (hd p (by simp[f_g])) (fun d hd'=>hd d (by simp[f_g,hd'])) (fun d hd'=>hd d (by simp[f_g,hd'])) h2 h3 h4 h5 h6 h7 (fun a' W'=>fin _ _ a' W' h8) (fun a' W'=>fin _ _ a' W' h9)
     · exact h.elim
   · exact h.elim
 | .skip,_,_,_,_,_,_,_,h=>h.elim
 | .region ..,_,_,_,_,_,_,_,h=>h.elim
 | .cond ..,_,_,_,_,_,_,_,h=>h.elim
 | .loop _,_,_,_,_,_,_,_,h=>h.elim
 | .label _,_,_,_,_,_,_,_,h=>h.elim
 | .exit _,_,_,_,_,_,_,_,h=>h.elim
 | .goto _,_,_,_,_,_,_,_,h=>h.elim
 | .ret,_,_,_,_,_,_,_,h=>h.elim
 | .scope _,_,_,_,_,_,_,_,h=>h.elim
 | .refuse _,_,_,_,_,_,_,_,h=>h.elim
def a_kq (P:Program)(σ:Store)(env:Env) :ResultVar→A→Prop
 | .tmp t,x=>toA (opE env (.tmp t)) =some x
 | .cell t ty, x => ∃ s i off row cs, opE env (.tmp t) = .el s i off ∧ Row σ s i row ∧ (row.drop off).take (P.cellsOf ty) = cs ∧ cs.length = P.cellsOf ty ∧
     ((b_t P ty=some true∧x= .agg cs)∨(b_t P ty=some false∧∃d,cs=[d]∧x= .one d))
def ress (P:Program)(σ:Store)(env:Env) :List ResultVar→List A→Prop
 | [],as0=>as0=[]
 | r::rs,as0=>∃x xs,as0=x::xs∧a_kq P σ env r x∧ress P σ env rs xs
def resK (P:Program)(σ:Store)(env:Env)(r:ResultVar)(K:A→Prop) :Prop:=match r with
 | .tmp t=>match toA (opE env (.tmp t)) with | some x=>K x | none=>False
 | .cell t ty=>match opE env (.tmp t),b_t P ty,zeroCells P ty with
   | .el s i off,some true,some zs=>match decide (zs.length=P.cellsOf ty) with
     | true=>∃row:List D,Row σ s i row∧t_g zs (fun r=>r) fun cs=>(row.drop off).take zs.length=cs∧K (.agg cs)
     | false=>False
   | .el s i off,some false,some [z]=>match decide (1=P.cellsOf ty) with
     | true=>∃row:List D,Row σ s i row∧t_g [z] (fun r=>r) fun cs=>(row.drop off).take 1=cs∧match cs with | [d]=>K (.one d) | _=>False
     | false=>False
   | _,_,_=>False
def a_hl (P:Program)(σ:Store)(env:Env) :List ResultVar→(List A→Prop)→Prop
 | [],K=>K []
 | r::rs,K=>resK P σ env r fun x=>a_hl P σ env rs fun xs=>K (x::xs)
theorem a_mp {env:Env}{r:ResultVar}{K:A→Prop}(h:resK P σ env r K) :∃x,a_kq P σ env r x∧K x:=by
 unfold resK at h
 split at h
 · split at h
   · rename_i x hx;exact ⟨x,hx,h⟩
   · exact h.elim
 · split at h
   · rename_i e1 e2 e3
     split at h
     · rename_i hd
       obtain ⟨row,hr,h⟩:=h
       obtain ⟨cs,hl,h1,h2⟩:=i_9 h
       have hd:=of_decide_eq_true hd
       exact ⟨.agg cs,⟨_,_,_,row,cs,e1,hr,by rw[←hd];exact h1,by rw[hl];exact hd, .inl ⟨e2,rfl⟩⟩,h2⟩
     · exact h.elim
   · rename_i e1 e2 e3
     split at h
     · rename_i hd
       obtain ⟨row,hr,h⟩:=h
       obtain ⟨cs,hl,h1,h2⟩:=i_9 h
       have hd:=of_decide_eq_true hd
       match cs,hl,h1,h2 with
       | [d],_,h1,h2=>exact ⟨.one d,⟨_,_,_,row,[d],e1,hr,by rw[←hd];exact h1,by rw[←hd];rfl, .inr ⟨e2,d,rfl,rfl⟩⟩,h2⟩
       | [],_,_,h2=>exact h2.elim
       | _::_::_,_,_,h2=>exact h2.elim
     · exact h.elim
   · exact h.elim
theorem a_dv {env:Env} :∀(rs:List ResultVar) (K:List A→Prop),a_hl P σ env rs K→∃xs,ress P σ env rs xs∧K xs
 | [],K,h=>⟨[],rfl,h⟩
 | r::rs,K,h=>by
   obtain ⟨x,h1,h2⟩:=a_mp h
   obtain ⟨xs,h3,h4⟩:=a_dv rs _ h2
   exact ⟨x::xs,⟨x,xs,rfl,h1,h3⟩,h4⟩
def retS (P:Program)(fn:Func)(Q:RV→Store→Prop) :Exit→a_5
 | .normal,env,σ | .ret,env,σ=>a_hl P σ (clE env) fn.results.toList fun as0=>match as0 with | [a]=>Q (.a a) σ | as0=>Q (.tup as0) σ
 | _,_,_=>False
theorem a_mw (h:RelX P k0 β0 σ0 W0 n k β γ tmps W env σ){r:ResultVar}{x:A}(hr:a_kq P σ env r x) :∃u,(o_9 tmps r).run P W= .ok u W∧VA k β W u x:=by
 cases r with
 | tmp t=>exact ⟨_,rfl,h_p (a_q h { tmps:=tmps,defers:= [] } rfl (.tmp t) 0).1 hr⟩
 | cell t ty=>
   obtain ⟨s,i,off,row,cs,he,hrow,hcs,hl,hx⟩:=hr
   have hev:=(a_q h { tmps:=tmps,defers:= [] } rfl (.tmp t) 0).1
   rw[he] at hev
   have hev:V k β W (tmps.getD t undef) (.el s i off):=hev
   obtain ⟨b,o',vals,hv,hvl,hVL,hcell⟩:=a_h0 h.srel hev hrow hcs hl
   have hrun:∀u,(loadVar ty ⟨b,o',none⟩).run P W= .ok u W→(o_9 tmps (.cell t ty)).run P W= .ok u W:=by
     intro u hu
     unfold o_9
     simp only[hv,asAddr,pure_bind]
     exact hu
   rcases hx with ⟨hagg,rfl⟩ | ⟨hagg,d,rfl,rfl⟩
   · obtain ⟨r1,_⟩:=j_i (P:=P) hagg hvl hcell
     exact ⟨_,hrun _ (r1 rfl),_,rfl,hVL⟩
   · obtain ⟨_,r2⟩:=j_i (P:=P) hagg hvl hcell
     match vals,hVL with
     | [u],hVL=>exact ⟨u,hrun _ (r2 u rfl rfl),hVL.2 0 u d rfl rfl⟩
     | [],hVL=>exact absurd hVL.1 (by simp)
     | _::_::_,hVL=>exact absurd hVL.1 (by simp)
theorem a_dn (h:RelX P k0 β0 σ0 W0 n k β γ tmps W env σ) :∀(rs:List ResultVar) (as0:List A),ress P σ env rs as0→
   ∃vs:List Value,(rs.mapM (o_9 tmps)).run P W= .ok vs W∧vs.length=as0.length∧∀(i:Nat) v x,vs[i]? =some v→as0[i]? =some x→VA k β W v x
 | [],as0,hd=>by subst hd;exact ⟨[],rfl,rfl,fun i v x hv=>by simp at hv⟩
 | r::rs,as0,hd=>by
   obtain ⟨x,xs,rfl,h1,h2⟩:=hd
   obtain ⟨u,hu,hva⟩:=a_mw h h1
   obtain ⟨vs,q1,q2,q3⟩:=a_dn h rs xs h2
   refine ⟨u::vs,o_6 hu q1,by simp[q2],fun i v y hv hy=>?_⟩
   cases i with
   | zero=>simp only[List.getElem?_cons_zero,Option.some.injEq] at hv hy;subst hv hy;exact hva
   | succ i=>exact q3 i v y (by simpa using hv) (by simpa using hy)
theorem RelX.idle (h:RelX P k0 β0 σ0 W0 n k β γ tmps W env σ)(hnb:NoBx env)(g:Idle B W W2)(ho:∀b,B b→Off k β σ b)(hn:∀b,B b→W0.heap.size≤b) :RelX P k0 β0 σ0 W0 n k β γ tmps W2 env σ where
 srel:=h.srel.idle g ho
 slot s:=(h.slot s).mono (fun _ h=>h) (fun _ _ h=>h) (g.keep h.srel fun b hb=>(ho b hb).1)
 box s cs hb:=absurd hb (hnb s cs)
 inj s s' cs cs' hb:=absurd hb (hnb s cs)
 ghost:=h.ghost
 frm:=h.frm.idle g fun b hb hlt=>by have:=hn b hb;omega
 size:=h.size
def a_jk (P:Program)(fn:Func)(an:Ann)(args:List A)(σ:Store)(Q:RV→Store→Prop) :Prop:=
 match fn.body with
 | some c=>match (f_g c).all (fun d=>Nat.blt d fn.ntmps),Nat.ble args.length fn.ntmps with
   | true,true=>dwpX P an fn.ntmps c (retS P fn Q) (d_v 0 args) σ
   | _,_=>False
 | none=>False
theorem u_y {f:FuncId}{fn:Func}{args:List A}{Q:RV→Store→Prop}(hm:P.follows .mixedOrders=true)(hok:g_s P f=true)(hf:P.funcs[f]? =some fn)(an:Ann)
   (h:a_jk P fn an args σ Q) :DCalls P f args σ Q:=by
 refine ⟨hok,fun k β W vs hS hsz hv=>?_⟩
 unfold a_jk at h
 split at h
 · rename_i c hb
   obtain ⟨hd,hm',h⟩ :(∀d ∈ f_g c,d < fn.ntmps)∧args.length≤fn.ntmps∧dwpX P an fn.ntmps c (retS P fn Q) (d_v 0 args) σ:=by
     split at h
     · rename_i hd hm'
       exact ⟨fun d hd'=>by have:=List.all_eq_true.1 hd d hd';exact Nat.lt_of_succ_le (Nat.le_of_ble_eq_true this),Nat.le_of_ble_eq_true hm',h⟩
     · exact h.elim
   obtain ⟨hr,hnd⟩:=a_d6 hS hm' hsz hv
   refine callsIn_wide.1 (callsIn_of_wp_marks (n:=0) hf hb trivial (wpIn_mono (v_g hm an 0 c (retS P fn Q) _ W (d_v 0 args) σ hd ⟨hr,hnd⟩ h) fun e a' W' hq=>?_))
   obtain ⟨env',σ',k',β',γ',q1,q3,_,q4⟩:=hq
   have q3:=q3.clean
   have hnb:=k_3 env'
   have fin : (a_hl P σ' (clE env') fn.results.toList fun as0 => match as0 with | [a] => Q (.a a) σ' | as0 => Q (.tup as0) σ') →
       LeavesInM Fence.wide 0 P fn a'.tmps (fun e W'=>∃v r σ' k' β',e= .returned v∧Q r σ'∧VR k' β' W' v r∧SRel P k' β' W' σ'∧Ghost k β σ W k' β' σ'∧Frm β σ W W') a'.defers .returning W':=by
     intro hK
     obtain ⟨as0,hres,q1⟩:=a_dv _ _ hK
     have main:∀W2,RelX P k β σ W fn.ntmps k' β' γ' a'.tmps W2 (clE env') σ'→LeavesInM Fence.wide 0 P fn a'.tmps (fun e W'=>∃v r σ' k' β',e= .returned v∧Q r σ'∧VR k' β' W' v r∧SRel P k' β' W' σ'∧Ghost k β σ W k' β' σ'∧Frm β σ W W') [] .returning W2:=by
       intro W2 hX
       obtain ⟨vs',r1,r2,r3⟩:=a_dn hX fn.results.toList as0 hres
       have hrun:(fn.results.mapM (o_9 a'.tmps)).run P W2= .ok vs'.toArray W2:=by
         have e1:fn.results=fn.results.toList.toArray:=by simp
         rw[e1,List.mapM_toArray]
         show ((fn.results.toList.mapM (o_9 a'.tmps)) >>= fun x=>pure x.toArray).run P W2=_
         rw[Sem.run_bind,r1]
         rfl
       have hrr:(results fn a'.tmps).run P W2= .ok (if h:vs'.toArray.size=1 then vs'.toArray[0] else .tuple vs'.toArray) W2:=by
         show ((fn.results.mapM (o_9 a'.tmps)) >>= fun vs=>pure (if h:vs.size=1 then vs[0] else .tuple vs)).run P W2=_
         rw[Sem.run_bind,hrun]
         rfl
       refine ⟨_,hrr,?_⟩
       match as0,r2,r3,q1 with
       | [x],r2,r3,q1=>
         match vs',r2,r3 with
         | [v],_,r3=>exact ⟨v, .a x,σ',k',β',rfl,q1,r3 0 v x rfl rfl,hX.srel,hX.ghost,hX.frm⟩
       | [],r2,r3,q1=>
         match vs',r2 with
         | [],_=>exact ⟨.tuple #[], .tup [],σ',k',β',rfl,q1,⟨#[],rfl,rfl,fun i u y hu=>by simp at hu⟩,hX.srel,hX.ghost,hX.frm⟩
       | x::y::r,r2,r3,q1=>
         match vs',r2,r3 with
         | v::u::w,r2,r3=>
           refine ⟨.tuple (v::u::w).toArray, .tup (x::y::r),σ',k',β',?_,q1,⟨_,rfl,by simpa using r2,fun i u' z hu hz=>r3 i u' z (by simpa using hu) hz⟩,hX.srel,hX.ghost,hX.frm⟩
           rw[dif_neg (by simp)]
     rcases q4 with q4 | ⟨D,q4,q5,q6,q7⟩
     · rw[q4];exact main W' q3
     · rw[q4]
       refine ⟨by simp, .inl ⟨D,_,rfl,run_takeDeferred q6,main _ (q3.idle hnb (Idle.put _ _ _) (fun b hb=>by subst hb;exact q7) fun b hb=>by subst hb;exact q5)⟩⟩
   cases e with
   | normal=>exact fin q1
   | ret=>exact fin q1
   | _=>exact q1.elim
 · exact h.elim
end
end
end Go.Fw
namespace Go.Proofs.YtfdffboelecgoaaGreatDoor
open Go.Proofs Go.RowKit Go.Shelf
open Go.Proofs.Tryz (prog)
section
attribute [local go_sem] Oper.semAt_some
theorem l_9 {W:World}{b b':Nat}{v:Value}(h:b'≠b) :(W.setCell ⟨b,0,none⟩ v).cell? ⟨b',0,none⟩ =W.cell? ⟨b',0,none⟩:=by
 simp only[World.cell?,World.setCell,Array.getElem?_modify]
 rw[if_neg (Ne.symm h)]
theorem a_ac {W:World}{b:Nat}{v:Value}{B:Nat→Prop}(h:B b) :Fw.Idle B W (W.setCell ⟨b,0,none⟩ v):=
 ⟨rfl,rfl,rfl,by simp[World.setCell],fun x hx hn=>by
   simp only[World.setCell,Array.getElem?_modify]
   rw[if_neg (show ¬b=x from fun e=>hn (e ▸ h))]⟩
set_option maxRecDepth 100000 in
set_option maxHeartbeats 1000000 in
theorem a_cd (n l b1 b2 b3:Nat)(c:UInt8)(xs:List ByteArray)(B:Nat→Prop)(J:Nat→World→Prop)(Jx:World→Prop)(h12:b1≠b2)(h13:b1≠b3)(h23:b2≠b3)(hB:B b2)
   (hJ:∀i W1 W2,J i W1→Fw.Idle B W1 W2→J i W2)
   (hY:∀m i s W1,xs[i]? =some s→J i W1→YieldAt Fence.wide m prog l #[.string s] W1 fun e W'=>
     ((e= .returned (.bool true)∧J (i+1) W')∨(e= .returned (.bool false)∧Jx W'))∧W'.heap[b1]? =W1.heap[b1]?∧W'.heap[b2]? =W1.heap[b2]?∧W'.heap[b3]? =W1.heap[b3]?)
   (W:World) (s:ByteArray) (hxs:xs=Fw.pieces c s)
   (c1:W.cell? ⟨b1,0,none⟩ =some (.string ⟨#[c]⟩)) (c2:W.cell? ⟨b2,0,none⟩ =some (.string s)) (c3:W.cell? ⟨b3,0,none⟩ =some (.int .i64 0)) (f2:W.frozen? ⟨b2,0,none⟩ =false) (hs:s.size≤9223372036854775807)
   (h0:J 0 W) :
   CallsIn Fence.wide n prog 109 #[.func (.yield l) #[] #[], .pointer (some ⟨b1,0,none⟩), .pointer (some ⟨b2,0,none⟩), .pointer (some ⟨b3,0,none⟩)] W fun e W'=>
     (∃v,e= .returned v)∧(J xs.length W'∨Jx W'):=by
 refine callsIn_of_wp Tryz.func109 rfl trivial ?_ rfl
 simp only[Tryz.ntmps109,List.size_toArray,List.length_cons,List.length_nil,Nat.reduceAdd,Nat.reduceSub,Array.replicate_succ,Array.replicate_zero,List.push_toArray,List.append_toArray,List.nil_append,List.cons_append]
 gi_wp2
 gi_loopw [7,8] (fun _ _ wr=>∃(i:Nat) (r:ByteArray),r.size≤s.size∧xs.drop i=Fw.pieces c r∧i≤xs.length∧wr.cell? ⟨b1,0,none⟩ =some (.string ⟨#[c]⟩)∧wr.cell? ⟨b2,0,none⟩ =some (.string r)∧wr.cell? ⟨b3,0,none⟩ =some (.int .i64 0)∧wr.frozen? ⟨b2,0,none⟩ =false∧J i wr)
   (fun _ _ wr=>match wr.cell? ⟨b2,0,none⟩ with | some (.string r)=>r.size | _=>0)
 case atStart=>exact ⟨0,s,Nat.le_refl _,by simp[hxs],Nat.zero_le _,c1,c2,c3,f2,h0⟩
 case round=>
   obtain ⟨i,r,hrs,hd,hi,d1,d2,d3,d4,hj⟩:=hrel
   rcases Lib.indexB_cases r ⟨#[c]⟩ with hix | ⟨j,hix,hjr⟩
   · have hp : Fw.pieces c r = [r] := by
       unfold Fw.pieces;exact Lib.splitB_miss _ _ _ _ hix
     have hxi:xs[i]? =some r:=by
       have:=congrArg (·[0]?) (hd.trans hp)
       simpa using this
     have hlen:xs.length=i+1:=by
       have:=congrArg List.length (hd.trans hp)
       simp at this;omega
     have hib:Lib.indexByte r.data.toList c= -1:=by rw[←Lib.index_one];exact hix
     obtain ⟨fn,tmps,assign,body,hy,hR⟩:=hY (n - 1) i r wr hxi hj
     have hcall:∀W,Calls prog 111 #[.string r, .string ⟨#[c]⟩] W fun e w'=>e= .returned (.int .i64 (-1))∧w'=W:=fun W=>hib ▸ Any.strings_Index_one z_p r c W
     gi_wp2
     refine ⟨trivial,fun h=>(by cases h),?_⟩
     refine (callsIn_wide.2 (hcall _)).mono ?_
     rintro e w' ⟨rfl,rfl⟩
     gi_wp2
     refine ⟨fun h=>(by cases h),hR.mono ?_⟩
     rintro e W' ⟨⟨rfl,hJ'⟩ | ⟨rfl,hJx⟩,_⟩
     · gi_wp2
       go_end0
       exact ⟨⟨_,rfl⟩, .inl (by rw[hlen];exact hJ')⟩
     · gi_wp2
       go_end0
       exact ⟨⟨_,rfl⟩, .inr hJx⟩
   · have hjr:j+1≤r.size:=hjr
     have hp:Fw.pieces c r=r.extract 0 j::Fw.pieces c (r.extract (j+1) r.size):=by
       unfold Fw.pieces
       rw[Lib.countB_hit r ⟨#[c]⟩ j (Nat.le_refl _) hix,Nat.add_comm,Lib.splitB_hit _ _ _ _ j hix]
       rfl
     have hxi:xs[i]? =some (r.extract 0 j):=by
       have:=congrArg (·[0]?) (hd.trans hp)
       simpa using this
     have hlt:i < xs.length:=(List.getElem?_eq_some_iff.1 hxi).1
     have hd2:xs.drop (i+1) =Fw.pieces c (r.extract (j+1) r.size):=by
       rw[←List.drop_drop,hd,hp];rfl
     have hib:Lib.indexByte r.data.toList c=(j:Int):=by rw[←Lib.index_one];exact hix
     have hsz:r.size≤9223372036854775807:=Nat.le_trans hrs hs
     obtain ⟨fn,tmps,assign,body,hy,hR⟩:=hY (n - 1) i (r.extract 0 j) wr hxi hj
     have hcall:∀W,Calls prog 111 #[.string r, .string ⟨#[c]⟩] W fun e w'=>e= .returned (.int .i64 (j:Int))∧w'=W:=fun W=>hib ▸ Any.strings_Index_one z_p r c W
     gi_wp2
     refine ⟨trivial,fun h=>(by cases h),?_⟩
     refine (callsIn_wide.2 (hcall _)).mono ?_
     rintro e w' ⟨rfl,rfl⟩
     gi_wp2
     refine ⟨fun h=>(by cases h),hR.mono ?_⟩
     rintro e W' ⟨⟨rfl,hJ'⟩ | ⟨rfl,hJx⟩,g1,g2,g3⟩
     · have e1:W'.cell? ⟨b1,0,none⟩ =some (.string ⟨#[c]⟩):=by simp only[World.cell?] at d1 ⊢;rw[g1];exact d1
       have e2:W'.cell? ⟨b2,0,none⟩ =some (.string r):=by simp only[World.cell?] at d2 ⊢;rw[g2];exact d2
       have e3:W'.cell? ⟨b3,0,none⟩ =some (.int .i64 0):=by simp only[World.cell?] at d3 ⊢;rw[g3];exact d3
       have e4:W'.frozen? ⟨b2,0,none⟩ =false:=by simp only[World.frozen?] at d4 ⊢;rw[g2];exact d4
       gi_wp2
       have hes:(r.extract (j+1) r.size).size=r.size - (j+1):=by simp
       have k1:(W'.setCell ⟨b2,0,none⟩ (.string (r.extract (j+1) r.size))).cell? ⟨b1,0,none⟩ =some (.string ⟨#[c]⟩):=(l_9 h12).trans e1
       have k2:(W'.setCell ⟨b2,0,none⟩ (.string (r.extract (j+1) r.size))).cell? ⟨b2,0,none⟩ =some (.string (r.extract (j+1) r.size)):=World.cell?_setCell_same' _ _ _ (by rw[e2];rfl)
       have k3:(W'.setCell ⟨b2,0,none⟩ (.string (r.extract (j+1) r.size))).cell? ⟨b3,0,none⟩ =some (.int .i64 0):=(l_9 (Ne.symm h23)).trans e3
       refine ⟨⟨i+1,r.extract (j+1) r.size,by omega,hd2,by omega,k1,k2,k3,by rw[World.frozen?_setCell];exact e4,hJ _ _ _ hJ' (a_ac hB)⟩,?_⟩
       rw[k2,d2]
       show (r.extract (j+1) r.size).size < r.size
       omega
     · gi_wp2
       refine bodyPost_ret (results_none rfl _ _ _) rfl ?_
       exact ⟨⟨_,rfl⟩, .inr hJx⟩
open Go.Fw in
abbrev boxC (id:Nat) :Bool × List D:=(false,[.el (.osl id 0 1) 0 0])
open Go.Fw in
theorem a_by {σ:Store}{i1 i2 i3:Nat}{c:UInt8}{s:ByteArray}(h1:σ i1= .live t_string [[.str ⟨#[c]⟩]])(h2:σ i2= .live t_string [[.str s]])(h3:σ i3= .live a_f [[.int .i64 0]])
   (h12:i1≠i2) (h13:i1≠i3) (h23:i2≠i3) (hs:s.size≤9223372036854775807) :
   a_g0 prog d_s [boxC i1,boxC i2,boxC i3] σ (((σ.set i1 .dead).set i2 .dead).set i3 .dead) (pieces c s):=by
 have hnl:∀{i t r},σ i=SO.live t r→σ i≠ .dead∧σ i≠ .free:=fun h=>by rw[h];exact ⟨(by intro e;cases e),(by intro e;cases e)⟩
 have hdead:∀i,(((σ.set i1 .dead).set i2 .dead).set i3 .dead) i=if i=i1∨i=i2∨i=i3 then .dead else σ i:=fun i=>by
   unfold Store.set
   by_cases e3:i=i3
   · simp[e3]
   · by_cases e2:i=i2
     · simp[e2]
     · by_cases e1:i=i1 <;> simp[e1,e2,e3]
 refine ⟨by kernel_rfl,fun i=>?_,fun n l k β W lb J Jx hS hV hJ hJx hY h0=>?_⟩
 · rw[hdead]
   by_cases e:i=i1∨i=i2∨i=i3
   · rw[if_pos e]
     rcases e with rfl | rfl | rfl
     · exact .inr ⟨(hnl h1).1,(hnl h1).2,rfl⟩
     · exact .inr ⟨(hnl h2).1,(hnl h2).2,rfl⟩
     · exact .inr ⟨(hnl h3).1,(hnl h3).2,rfl⟩
   · rw[if_neg e];exact .inl rfl
 · -- the closure's values
   obtain ⟨p1,p2,p3,rfl,q1,q2,q3⟩ :∃p1 p2 p3,lb= #[p1,p2,p3]∧V k β W p1 (.el (.osl i1 0 1) 0 0)∧V k β W p2 (.el (.osl i2 0 1) 0 0)∧V k β W p3 (.el (.osl i3 0 1) 0 0):=by
     cases hV with
     | fn _ _ _ _ _ g g' a1 a2 a3 a4 a5 a6=>
       exact ⟨g' 0 0,g' 1 0,g' 2 0,by rw[a4];rfl,a6 0 false _ 0 _ rfl rfl,a6 1 false _ 0 _ rfl rfl,a6 2 false _ 0 _ rfl rfl⟩
   have box:∀{p i t d},σ i=SO.live t [[d]]→V k β W p (.el (.osl i 0 1) 0 0)→∃bi v,β i=some bi∧p= .pointer (some ⟨bi.blk,0,none⟩)∧W.cell? ⟨bi.blk,0,none⟩ =some v∧V k β W v d∧W.frozen? ⟨bi.blk,0,none⟩ =false:=by
     intro p i t d hl hv
     cases hv with
     | elosl _ _ _ _ _ bi hb hi=>
       obtain ⟨arr,g1,g2,g3,g4,g5,g6,g7⟩:=hS.obj i bi t _ hb hl
       obtain ⟨v,hv,hV⟩:=g7 0 [d] 0 d rfl rfl
       refine ⟨bi,v,hb,by simp,?_,hV,by simp[World.frozen?,g1]⟩
       rw[cell_of_heap g1];simpa using hv
   obtain ⟨bi1,v1,hb1,rfl,c1,w1,_⟩:=box h1 q1
   obtain ⟨bi2,v2,hb2,rfl,c2,w2,f2⟩:=box h2 q2
   obtain ⟨bi3,v3,hb3,rfl,c3,w3,_⟩:=box h3 q3
   rw[V.inv_str w1] at c1
   rw[V.inv_str w2] at c2
   rw[V.inv_int w3] at c3
   have t1:Turned β σ (((σ.set i1 .dead).set i2 .dead).set i3 .dead) bi1.blk:=⟨i1,bi1,hb1,(hnl h1).1,by rw[hdead,if_pos (.inl rfl)],rfl⟩
   have t2:Turned β σ (((σ.set i1 .dead).set i2 .dead).set i3 .dead) bi2.blk:=⟨i2,bi2,hb2,(hnl h2).1,by rw[hdead,if_pos (.inr (.inl rfl))],rfl⟩
   have t3:Turned β σ (((σ.set i1 .dead).set i2 .dead).set i3 .dead) bi3.blk:=⟨i3,bi3,hb3,(hnl h3).1,by rw[hdead,if_pos (.inr (.inr rfl))],rfl⟩
   refine a_cd n l bi1.blk bi2.blk bi3.blk c (pieces c s) _ J Jx (fun e=>h12 (hS.inj i1 i2 bi1 bi2 hb1 hb2 (hnl h1).1 (hnl h2).1 e)) (fun e=>h13 (hS.inj i1 i3 bi1 bi3 hb1 hb3 (hnl h1).1 (hnl h3).1 e)) (fun e=>h23 (hS.inj i2 i3 bi2 bi3 hb2 hb3 (hnl h2).1 (hnl h3).1 e)) t2 hJ
     (fun m i x W1 hx hj=>(hY m i x W1 hx hj).mono fun e W' ⟨g1,_,g3⟩=>⟨g1,g3 _ t1,g3 _ t2,g3 _ t3⟩) W s rfl c1 c2 c3 f2 hs h0
end
end Go.Proofs.YtfdffboelecgoaaGreatDoor
section
set_option maxRecDepth 20000
namespace Go.Proofs.YtfdffboelecgoaaGreatDoor
open Go.Fw Go.Proofs Go.RowKit
open Go.Proofs.Tryz (prog)
variable {σ:Store}
def i64 (n:Int) :Prop:= -9223372036854775808≤n∧n≤9223372036854775807
theorem z_0 {n:Int}(h:i64 n) :Pure prog f_3 [iA n] σ (.a (sA (a_l (Lib.itoa n)))):=
 a_h6 a_ki (g := prog.globalNamed "internal/strconv.uint64pow10" |>.getD 0) (by kernel_rfl) h.1 h.2
theorem a_hy {s:ByteArray}(h:s.size≤281474976710656) :Pure prog i_x [sA s] σ (.tup [iA (e_u s.data.toList).1, .one (.ifc (e_u s.data.toList).2)]):=
 a_h3 a_k5 (by kernel_rfl) (by kernel_rfl) h
theorem hi9:(prog.info? (splitLays_ren.t 9)).map (fun i=>(i.zero,i.size,i.bytes)) =some (some (.string ByteArray.empty),1,16):=by kernel_rfl
theorem a_b9 {s:ByteArray}{c:UInt8}(hs:s.size < 4294967281) :
   DCalls prog i_q [sA s,sA ⟨#[c]⟩,iA 0,iA (-1)] σ fun r σ'=>∃id,σ id= .free∧r= .a (.one (.osl id 0 (pieces c s).length))∧σ'=σ.set id (.live t_string ((pieces c s).map c_f)):=
 u_l a_i5 hi9 hs
theorem a_kc {s:ByteArray}{c:UInt8}(hs:s.size < 4294967281) :
   DCalls prog h_n [sA s,sA ⟨#[c]⟩] σ fun r σ'=>∃id,σ id= .free∧r= .a (.one (.osl id 0 (pieces c s).length))∧σ'=σ.set id (.live t_string ((pieces c s).map c_f)):=by
 refine u_3 s ⟨#[c]⟩ σ _ ((a_b9 hs).mono ?_)
 rintro r σ' ⟨id,h1,rfl,h3⟩
 exact ⟨_,rfl,id,h1,rfl,h3⟩
theorem a_be {s:ByteArray}{c:UInt8} :
   DCalls prog f_n [sA s,sA ⟨#[c]⟩] σ fun r σ'=>∃i1 i2 i3,i1≠i2∧i1≠i3∧i2≠i3∧σ i1= .free∧σ i2= .free∧σ i3= .free∧r= .a (.one (.fn d_s [] [boxC i1,boxC i2,boxC i3]))∧
     σ'=((σ.set i2 (.live t_string [[.str s]])).set i1 (.live t_string [[.str ⟨#[c]⟩]])).set i3 (.live a_f [[.int .i64 0]]):=by
 refine q_j s ⟨#[c]⟩ σ _ ((?_ : DCalls _ _ _ _ fun r σ' => ∃ i1 i2 i3, i1 ≠ i2 ∧ i1 ≠ i3 ∧ i2 ≠ i3 ∧ σ i1 = .free ∧ σ i2 = .free ∧ σ i3 = .free ∧ r = .a (.one (.fn d_s [] [boxC i1, boxC i2, boxC i3])) ∧
     σ'=((σ.set i2 (.live t_string [[.str s]])).set i1 (.live t_string [[.str ⟨#[c]⟩]])).set i3 (.live a_f [[.int .i64 0]])).mono ?_)
 · refine p_u s ⟨#[c]⟩ 0 σ _ fun i2 h2 i1 h1 i3 h3=>?_
   have n12:i1≠i2:=fun e=>by rw[e,Store.set_same] at h1;cases h1
   have n13:i1≠i3:=fun e=>by rw[←e,Store.set_same] at h3;cases h3
   rw[Store.set_ne _ _ n12] at h1
   have n23:i2≠i3:=fun e=>by rw[←e,Store.set_ne _ _ n12.symm,Store.set_same] at h3;cases h3
   rw[Store.set_ne _ _ n13.symm,Store.set_ne _ _ n23.symm] at h3
   exact ⟨i1,i2,i3,n12,n13,n23,h1,h2,h3,rfl,rfl⟩
 · rintro r σ' ⟨i1,i2,i3,a1,a2,a3,a4,a5,a6,rfl,a8⟩
   exact ⟨_,rfl,i1,i2,i3,a1,a2,a3,a4,a5,a6,rfl,a8⟩
def s_9 (c:UInt8)(s:ByteArray) :Bool:=decide (1≤s.size) && (ByteArray.toList (s.extract (s.size - 1) s.size) == ByteArray.toList ⟨#[c]⟩)
def c_x (c:UInt8)(s:ByteArray) :ByteArray:=if s_9 c s then s.extract 0 (s.size - 1) else s
theorem a_a5 {s:ByteArray}{c:UInt8}(hs:s.size≤9223372036854775807) :Pure prog c_l [sA s,sA ⟨#[c]⟩] σ (.a (bA (s_9 c s))):=by
 have e1:(ByteArray.size ⟨#[c]⟩ :Int) =1:=rfl
 refine f_5 s ⟨#[c]⟩ σ _ (bcd (fun h=>?_) (fun h=>?_))
 · rw[e1] at h ⊢
   have h1:1≤s.size:=by omega
   have e2:w64 ((s.size:Int) - 1) =((s.size - 1:Nat) :Int):=by rw[g_n (by omega) (by omega)];omega
   rw[e2]
   refine ⟨by omega,by omega,?_,rfl⟩
   rw[Int.toNat_natCast]
   unfold s_9
   rw[decide_eq_true h1,Bool.true_and]
 · rw[e1] at h
   refine ⟨?_,rfl⟩
   unfold s_9
   rw[decide_eq_false (by omega),Bool.false_and]
theorem a_bl {s:ByteArray}{c:UInt8}(hs:s.size≤9223372036854775807) :Pure prog e_8 [sA s,sA ⟨#[c]⟩] σ (.tup [sA (c_x c s),bA (s_9 c s)]):=by
 have e1:(ByteArray.size ⟨#[c]⟩ :Int) =1:=rfl
 have key:Pure prog c_i [sA s,sA ⟨#[c]⟩] σ (.tup [sA (c_x c s),bA (s_9 c s)]):=by
   refine f_1 s ⟨#[c]⟩ σ _ ((a_a5 hs).use ⟨_,rfl,c_g (fun h=>?_) (fun h=>?_)⟩)
   · unfold c_x;rw[h];exact ⟨rfl,rfl⟩
   · have h1 : 1 ≤ s.size := by
       unfold s_9 at h
       rw[Bool.and_eq_true] at h
       exact of_decide_eq_true h.1
     rw[e1]
     have e2:w64 ((s.size:Int) - 1) =((s.size - 1:Nat) :Int):=by rw[g_n (by omega) (by omega)];omega
     rw[e2]
     refine ⟨by omega,by omega,by omega,?_,rfl⟩
     rw[Int.toNat_natCast]
     unfold c_x;rw[if_pos h,h];rfl
 exact o_l s ⟨#[c]⟩ σ _ (key.use ⟨_,_,rfl,rfl,rfl⟩)
end Go.Proofs.YtfdffboelecgoaaGreatDoor
end
section
set_option maxRecDepth 20000
namespace Go.Proofs.YtfdffboelecgoaaGreatDoor
open Go.Fw Go.Proofs Go.RowKit
open Go.Proofs.Tryz (prog)
variable {σ σ0:Store}
theorem b_b {s:Store}{id:Nat}{t:TypeId}{row xs:List D}{off:Nat}{K:Store→Prop}(hs:s id= .live t [row])(ho:off+xs.length≤row.length)
   (hK:∀s',s' id= .live t [patch row off xs]→(∀i,i≠id→s' i=s i)→K s') :a_d xs s (.osl id 0 1) 0 off K:=
 ⟨id,0,1,t,[row],row,rfl,by omega,hs,rfl,ho,hK _ (Store.set_same _ _ _) fun i hi=>Store.set_ne _ _ hi⟩
theorem c_z {s s':Store}{el:TypeId}{d:D}{rs:List (List D)}{id:Nat}(h:Own prog σ0 s el d rs)(hid:σ0 id= .free)(hd:b_h d≠some id)(hs:∀i,i≠id→s' i=s i) :Own prog σ0 s' el d rs:=
 ⟨h.at_.same fun i a n e=>hs i fun e2=>hd (by subst e;rw[←e2];rfl),fun i hi=>by
   have hne:i≠id:=fun e=>hi (by rw[e];exact hid)
   rw[hs i hne];exact h.ext i hi,h.new,h.nsl,h.nz⟩
abbrev pO (id:Nat) :D:= .el (.osl id 0 1) 0 0
def Buf (s:Store)(d:D) :Prop:=∀bid i n,d= .osl bid i n→i=0∧∃rows,s bid= .live a_s rows
theorem Buf.same {s s':Store}{d:D}{id:Nat}(h:Buf s d)(hd:b_h d≠some id)(hs:∀i,i≠id→s' i=s i) :Buf s' d:=fun b i n e=>by
 obtain ⟨h1,rows,h2⟩:=h b i n e
 exact ⟨h1,rows,by rw[hs b fun e2=>hd (by rw[e,←e2];rfl)];exact h2⟩
theorem Buf.ext {s s':Store}{d:D}(h:Buf s d)(he:Ext s s') :Buf s' d:=fun b i n e=>by
 obtain ⟨h1,rows,h2⟩:=h b i n e
 exact ⟨h1,rows,by rw[he b (by rw[h2];intro e;cases e)];exact h2⟩
theorem v_1 {s:Store}{d x:D}{rs ns:List (List D)}{bytes:Nat}{K:D→Store→Prop}(h:Own prog σ0 s a_s d rs)(hb:Buf s d)(hx:At prog s a_s x ns)(h1:bytes * (rs.length+ns.length)≤140737488355328)
   (h2:rs.length+ns.length < 2 ^ 60) (hk:∀d' s',Own prog σ0 s' a_s d' (rs ++ ns)→(∀i,s i≠ .free→(∀a b,d≠ .osl i a b)→s' i=s i)→(∀i a b,d'= .osl i a b→s i= .free∨∃a b,d= .osl i a b)→Buf s' d'→K d' s') :
   a_e prog s a_s bytes d x K:=by
 obtain ⟨rs',ns',q1,q2,q3,q4,q5⟩:=h.append (K:=fun d' s'=>Own prog σ0 s' a_s d' (rs ++ ns)∧(∀i,s i≠ .free→(∀a b,d≠ .osl i a b)→s' i=s i)∧∀i a b,d'= .osl i a b→s i= .free∨∃a b,d= .osl i a b) hx h1 h2 fun d' s' a b c=>⟨a,b,c⟩
 refine ⟨rs',ns',q1,q2,q3,q4,fun d' s' ha=>?_⟩
 obtain ⟨a,b,c⟩:=q5 d' s' ha
 refine hk d' s' a b c ?_
 rcases ha with ⟨_,rfl,rfl⟩ | ⟨_,id,_,rfl,rfl⟩ | ⟨_,id,i0,len,t,rows,rfl,hl,rfl,rfl⟩
 · exact hb
 · intro b i n e
   injection e with e1 e2 e3
   subst e1 e2
   exact ⟨rfl,_,Store.set_same _ _ _⟩
 · intro b i n e
   injection e with e1 e2 e3
   subst e1 e2
   obtain ⟨g1,rows',g2⟩:=hb _ _ _ rfl
   rw[hl] at g2
   injection g2 with g2 _
   subst g2
   exact ⟨g1,_,Store.set_same _ _ _⟩
structure BlIn (σ0 s:Store) (id:Nat) (l:List UInt8) :Prop where
 new:σ0 id= .free
 cell:∃p d,s id= .live b_9 [[p,d]]∧(p= .nilp∨p=pO id)∧Own prog σ0 s a_s d (l.map b_5)∧b_h d≠some id∧Buf s d
theorem BlIn.ext {s:Store}{id:Nat}{l:List UInt8}(h:BlIn σ0 s id l) :Ext σ0 s:=by
 obtain ⟨p,d,_,_,h,_⟩:=h.cell;exact h.ext
theorem BlIn.ext' {s s':Store}{id:Nat}{l:List UInt8}(h:BlIn σ0 s id l)(he:Ext s s') :BlIn σ0 s' id l:=by
 obtain ⟨p,d,h1,hp,h2,h3,h4⟩:=h.cell
 exact ⟨h.new,p,d,by rw[he id (by rw[h1];intro e;cases e)];exact h1,hp,h2.ext' he,h3,h4.ext he⟩
theorem r_i {P:Program}{el:TypeId}{bytes es:Nat}{d:D}{ns:List (List D)}{K:D→Store→Prop}(h:a_e P σ el bytes d (.sl es ns) K) :c_m P σ el bytes d ns K:=by
 obtain ⟨rs,ns',h1,h2,h3,h4,h5⟩:=h
 have h2:ns'=ns:=h2.1
 subst h2
 exact ⟨rs,h1,h3,h4,h5⟩
theorem a_d8 (s:Store){l:List UInt8}(h:l.length < 2 ^ 60) :At prog s a_s (.sl 1 (l.map b_5)) (l.map b_5):=
 ⟨⟨rfl, .inr c_uint8.symm⟩,by simpa using h,fun es rows e=>by injection e with e1 _;rw[←e1,c_uint8]⟩
theorem a_g1 {s:Store}{id:Nat}{p d d2:D}{rs:List (List D)}(h1:s id= .live b_9 [[p,d]])(h3:b_h d≠some id)(i2:∀i a b,d2= .osl i a b→s i= .free∨∃a b,d= .osl i a b) :b_h d2≠some id:=fun hi=>by
 cases d2 with
 | osl j a m=>
   have:j=id:=by simpa[b_h] using hi
   subst this
   rcases i2 j a m rfl with g | ⟨a',b',g⟩
   · rw[h1] at g;cases g
   · exact h3 (by rw[g];rfl)
 | _=>simp[b_h] at hi
theorem BlIn.checked {s:Store}{id:Nat}{l:List UInt8}(h:BlIn σ0 s id l){Q:RV→Store→Prop}
   (hQ:∀s' d,s' id= .live b_9 [[pO id,d]]→Own prog σ0 s' a_s d (l.map b_5)→b_h d≠some id→Buf s' d→Q (.tup []) s') :DCalls prog c_e [.one (pO id)] s Q:=by
 obtain ⟨hn,p,d,h1,hp,h2,h3,h4⟩:=h
 refine (z_4 h1 hp).mono ?_
 rintro r s' ⟨rfl,rfl⟩
 exact hQ _ d (Store.set_same _ _ _) (c_z h2 hn h3 fun i hi=>Store.set_ne _ _ hi) h3 (h4.same h3 fun i hi=>Store.set_ne _ _ hi)
theorem n_m {s:Store}{id:Nat}{l:List UInt8}(h:BlIn σ0 s id l){t:ByteArray}(hs:l.length+t.size≤2 ^ 46) :
   DCalls prog b_4 [.one (pO id),sA t] s fun r s'=>(∃n,r= .tup [iA n, .one (.ifc false)])∧BlIn σ0 s' id (l ++ t.data.toList):=by
 have hts:t.data.toList.length=t.size:=by simp
 refine h_c (pO id) t s _ (h.checked fun s1 d h1 h2 h3 h4=>⟨rfl,trivial,_,_,_,rfl,_,a_g h1,d,rfl,r_i (es:=1) (v_1 h2 h4 (a_d8 s1 (l:=t.data.toList) (by omega)) (by simp;omega) (by simp;omega) fun d2 s2 o2 k2 i2 b2=>⟨trivial,_,_,_,rfl,?_⟩)⟩)
 have hs2:s2 id= .live b_9 [[pO id,d]]:=by
   rw[k2 id (by rw[h1];intro e;cases e) (fun a b e=>h3 (by rw[e];rfl)),h1]
 have hd2:=a_g1 (rs:= []) h1 h3 i2
 rw[←List.map_append] at o2
 refine b_b hs2 (by simp) fun s3 hs3 ho3=>⟨⟨_,rfl⟩,h.new,pO id,d2,by rw[hs3];rfl, .inr rfl,c_z o2 h.new hd2 ho3,hd2,b2.same hd2 ho3⟩
theorem z_7 {s:Store}{id:Nat}{l:List UInt8}(h:BlIn σ0 s id l){c:UInt8}(hs:l.length < 2 ^ 46) :
   DCalls prog c_8 [.one (pO id), .one (.int .u8 c.toNat)] s fun r s'=>(∃d,r= .a (.one d))∧BlIn σ0 s' id (l ++ [c]):=by
 refine h_5 (pO id) c.toNat s _ (h.checked fun s1 d h1 h2 h3 h4=>⟨rfl,trivial,_,_,_,rfl,_,a_g h1,d,rfl,a_n fun i s2 hi _ he hi2=>?_⟩)
 have hA:At prog s2 a_s (.osl i 0 1) ([c].map b_5):=At.fresh hi2 (by simp) rfl
 have h1':s2 id= .live b_9 [[pO id,d]]:=by rw[he id (by rw[h1];intro e;cases e)];exact h1
 refine v_1 (h2.ext' he) (h4.ext he) hA (by simp;omega) (by simp;omega) fun d2 s3 o2 k2 i2 b2=>⟨trivial,_,_,_,rfl,?_⟩
 have hs3:s3 id= .live b_9 [[pO id,d]]:=by
   rw[k2 id (by rw[h1'];intro e;cases e) (fun a b e=>h3 (by rw[e];rfl)),h1']
 have hd2:=a_g1 (rs:= []) h1' h3 i2
 rw[←List.map_append] at o2
 refine b_b hs3 (by simp) fun s4 hs4 ho4=>⟨⟨_,rfl⟩,h.new,pO id,d2,by rw[hs4];rfl, .inr rfl,c_z o2 h.new hd2 ho4,hd2,b2.same hd2 ho4⟩
def b_m (w:List UInt8)(ns:List Int) :List UInt8:=w ++ (ns.map fun n=>32::Lib.itoa n).flatten
def d_p (w:List UInt8)(ns:List Int) :List UInt8:=b_m w ns ++ [10]
theorem n_w (w:List UInt8) :b_m w []=w:=by simp[b_m]
theorem s_v (w:List UInt8){ns:List Int}{j:Nat}{x:Int}(hx:ns[j]? =some x) :b_m w (ns.take (j+1)) =b_m w (ns.take j) ++ 32::Lib.itoa x:=by
 unfold b_m
 rw[List.take_add_one,hx]
 simp
theorem v_s {n:Int}(h:i64 n) :(Lib.itoa n).length≤21:=Lib.itoa_length_le n h.1 h.2
theorem s_r (w:List UInt8)(ns:List Int)(j:Nat) :(b_m w (ns.take j)).length≤(b_m w ns).length:=by
 have e:b_m w ns=b_m w (ns.take j) ++ ((ns.drop j).map fun n=>32::Lib.itoa n).flatten:=by
   unfold b_m
   rw[List.append_assoc,←List.flatten_append,←List.map_append,List.take_append_drop]
 rw[e,List.length_append];omega
theorem a_fv {s:Store}{id:Nat}{l:List UInt8}(h:BlIn σ0 s id l){w:ByteArray}{d:D}{ns:List Int}(hd:At prog σ0 a_f d (ns.map Go.Fw.encI))(hi:∀n ∈ ns,i64 n)(hs:l.length+ (b_m w.data.toList ns).length≤2 ^ 46) :
   DCalls prog a_9 [.one (pO id),sA w, .one d] s fun r s'=>r= .tup []∧BlIn σ0 s' id (l ++ b_m w.data.toList ns):=by
 have hws:w.data.toList.length=w.size:=by simp
 have h0:=s_r w.data.toList ns 0
 rw[List.take_zero,n_w] at h0
 have hds:=hd.size
 rw[List.length_map] at hds
 refine p_3 (pO id) w d s _ ⟨trivial,_,_,_,rfl,(n_m h (t:=w) (by omega)).mono ?_⟩
 rintro r s1 ⟨⟨n0,rfl⟩,h1⟩
 refine ⟨n0,_,rfl,(hd.ext h1.ext).lenK ⟨fun n s'=>∃j:Nat,n=j∧j≤ns.length∧BlIn σ0 s' id (l ++ b_m w.data.toList (ns.take j)),fun n _=>ns.length - n.toNat,⟨0,rfl,by omega,by rw[List.take_zero,n_w];exact h1⟩,?_⟩⟩
 rintro n s2 ⟨j,rfl,hj,h2⟩
 rw[List.length_map]
 refine bcd (fun hlt=>?_) (fun hge=>⟨rfl,?_⟩)
 · obtain ⟨x,hx⟩:=a_r (l:=ns) (j:=j) (by omega)
   have hxi:=hi x (List.mem_of_getElem? hx)
   have hl:=v_s hxi
   have ht:=s_r w.data.toList ns (j+1)
   rw[s_v _ hx,List.length_append,List.length_cons] at ht
   have hbs:(a_l (Lib.itoa x)).size=(Lib.itoa x).length:=by show (Lib.itoa x).toArray.size=_;simp
   refine (hd.ext h2.ext).load (a_x hx) c_int rfl ⟨x,rfl,trivial,_,_,_,rfl,(z_0 hxi).use ⟨_,rfl,by rw[hbs];omega,(n_m h2 (t:=a_l (32::Lib.itoa x)) ?_).mono ?_⟩⟩
   · have:(a_l (32::Lib.itoa x)).size=(Lib.itoa x).length+1:=by show (32::Lib.itoa x).toArray.size=_;simp
     rw[this,List.length_append];omega
   rintro r s3 ⟨⟨n1,rfl⟩,h3⟩
   refine ⟨n1,_,rfl,⟨j+1,by rw[a_m (by omega)],by omega,?_⟩,by rw[a_m (by omega)];show ns.length - ((j+1:Nat) :Int).toNat < ns.length - ((j:Nat) :Int).toNat;omega⟩
   rw[s_v _ hx,←List.append_assoc];exact h3
 · have e:j=ns.length:=by omega
   rw[e,List.take_length] at h2
   exact h2
theorem a_at {s:Store}{id:Nat}{l:List UInt8}(h:BlIn σ0 s id l){w:ByteArray}{d:D}{ns:List Int}(hd:At prog σ0 a_f d (ns.map Go.Fw.encI))(hi:∀n ∈ ns,i64 n)(hs:l.length+ (d_p w.data.toList ns).length≤2 ^ 46) :
   DCalls prog b_g [.one (pO id),sA w, .one d] s fun r s'=>r= .tup []∧BlIn σ0 s' id (l ++ d_p w.data.toList ns):=by
 have hs':l.length+ ((b_m w.data.toList ns).length+1)≤2 ^ 46:=by
   unfold d_p at hs
   rw[List.length_append] at hs
   exact hs
 refine o_s (pO id) w d s _ ((a_fv h hd hi (by omega)).mono ?_)
 rintro r s1 ⟨rfl,h1⟩
 refine ⟨rfl,trivial,_,_,_,rfl,(z_7 h1 (c:=10) (by rw[List.length_append];omega)).mono ?_⟩
 rintro r s2 ⟨⟨e,rfl⟩,h2⟩
 refine ⟨_,rfl,rfl,?_⟩
 unfold d_p
 rw[←List.append_assoc];exact h2
theorem a_m9 {s:Store}{el:TypeId}{d:D}{rs:List (List D)}(h:At prog s el d rs){i:Nat}(hi:b_h d=some i) :s i≠ .free:=by
 cases d with
 | osl id a n=>
   have e:id=i:=by simpa[b_h] using hi
   subst e
   obtain ⟨t,rows,g1,_⟩:=h.rows
   rw[g1];intro e;cases e
 | _=>simp[b_h] at hi
theorem a_ox {s:Store}{el:TypeId}{d:D}{rs:List (List D)}{i:Nat}(h:Own prog σ0 s el d rs)(hi:b_h d=some i) :σ0 i= .free:=by
 cases d with
 | osl id a n=>
   have e:id=i:=by simpa[b_h] using hi
   subst e
   exact h.new _ _ _ rfl
 | _=>simp[b_h] at hi
theorem BlIn.newList {s:Store}{id:Nat}{l:List UInt8}(h:BlIn σ0 s id l){i:Nat}{so:SO}(hi:s i= .free) :∃τ,BlIn τ (s.set i so) id l∧Ext σ0 τ∧τ i=so:=by
 obtain ⟨hn,p,d,h1,hp,h2,h3,h4⟩:=h
 have hne:i≠id:=fun e=>by rw[e,h1] at hi;cases hi
 have hd:b_h d≠some i:=fun e=>a_m9 h2.at_ e hi
 have he:Ext s (s.set i so):=Ext.new hi so
 have h2':=h2.ext' he
 refine ⟨fun j=>if j=id∨b_h d=some j then .free else (s.set i so) j,⟨by simp,p,d,?_,hp,⟨h2'.at_,fun j hj=>?_,fun j a b e=>?_,h2.nsl,h2.nz⟩,h3,h4.ext he⟩,fun j hj=>?_,?_⟩
 · rw[Store.set_ne _ _ (Ne.symm hne)];exact h1
 · by_cases hc:j=id∨b_h d=some j
   · exact absurd (if_pos hc) hj
   · exact (if_neg hc).symm
 · subst e;simp[b_h]
 · have c1:j≠id:=fun e=>hj (by rw[e];exact hn)
   have c2:b_h d≠some j:=fun e=>hj (a_ox h2 e)
   exact (if_neg (show ¬(j=id∨b_h d=some j) from fun g=>g.elim c1 c2)).trans (h2'.ext j hj)
 · exact (if_neg (show ¬(i=id∨b_h d=some i) from fun g=>g.elim hne hd)).trans (Store.set_same _ _ _)
theorem BlIn.base {τ s:Store}{id:Nat}{l:List UInt8}(h:BlIn τ s id l)(he:Ext σ0 τ)(hn:σ0 id= .free) :BlIn σ0 s id l:=by
 obtain ⟨_,p,d,h1,hp,h2,h3,h4⟩:=h
 exact ⟨hn,p,d,h1,hp,h2.from he,h3,h4⟩
theorem z_s {s:Store}{id:Nat}{l:List UInt8}(h:BlIn σ0 s id l){w:ByteArray}{ns:List Int}(hi:∀n ∈ ns,i64 n)(hn:ns.length < 2 ^ 60)(hs:l.length+ (b_m w.data.toList ns).length≤2 ^ 46){Q:RV→Store→Prop}
   (hQ:∀s',BlIn σ0 s' id (l ++ b_m w.data.toList ns)→Q (.tup []) s') :
   Fw.newObj s (.live a_f (ns.map Go.Fw.encI)) fun i s1=>DCalls prog a_9 [.one (pO id),sA w, .one (.osl i 0 ns.length)] s1 Q:=fun i hf=>by
 obtain ⟨τ,g1,g2,g3⟩:=h.newList hf (so:= .live a_f (ns.map Go.Fw.encI))
 refine (a_fv g1 (At.fresh g3 (by rw[List.length_map];exact hn) (by rw[List.length_map])) hi hs).mono ?_
 rintro r s2 ⟨rfl,g4⟩
 exact hQ s2 (g4.base g2 h.new)
theorem m_x {s:Store}{id:Nat}{l:List UInt8}(h:BlIn σ0 s id l){w:ByteArray}{ns:List Int}(hi:∀n ∈ ns,i64 n)(hn:ns.length < 2 ^ 60)(hs:l.length+ (d_p w.data.toList ns).length≤2 ^ 46){Q:RV→Store→Prop}
   (hQ:∀s',BlIn σ0 s' id (l ++ d_p w.data.toList ns)→Q (.tup []) s') :
   Fw.newObj s (.live a_f (ns.map Go.Fw.encI)) fun i s1=>DCalls prog b_g [.one (pO id),sA w, .one (.osl i 0 ns.length)] s1 Q:=fun i hf=>by
 obtain ⟨τ,g1,g2,g3⟩:=h.newList hf (so:= .live a_f (ns.map Go.Fw.encI))
 refine (a_at g1 (At.fresh g3 (by rw[List.length_map];exact hn) (by rw[List.length_map])) hi hs).mono ?_
 rintro r s2 ⟨rfl,g4⟩
 exact hQ s2 (g4.base g2 h.new)
theorem a_mv {s:Store}{id:Nat}{l:List UInt8}(h:BlIn σ0 s id l)(h0:l≠[])(hs:l.length≤2 ^ 46) :DCalls prog d_u [.one (pO id)] s fun r s'=>r= .a (sA (a_l l))∧Ext σ0 s':=by
 obtain ⟨hn,p,d,h1,hp,h2,h3,h4⟩:=h
 have hr:=h2.at_.rows
 have hne:l.map b_5≠[]:=by simpa using h0
 cases d with
 | osl bid i n=>
   obtain ⟨rfl,rows,hb⟩:=h4 _ _ _ rfl
   obtain ⟨t,rows',g1,g2,g3,g4⟩:=hr
   rw[hb] at g1
   injection g1 with e1 e2
   subst e1 e2
   rw[List.drop_zero] at g4
   have hn2:n=l.length:=by
     have:=congrArg List.length g4
     rw[List.length_map,List.length_take] at this
     omega
   subst hn2
   refine (a_id h1 hb g4.symm h0 (by omega)).mono ?_
   rintro r s' ⟨rfl,rfl⟩
   exact ⟨rfl,h2.ext.set (h2.new _ _ _ rfl) _⟩
 | nils=>exact absurd (show l.map b_5=[] from hr) hne
 | zsl=>exact absurd rfl h2.nz
 | sl es rows=>exact absurd trivial h2.nsl
 | _=>exact hr.elim
end Go.Proofs.YtfdffboelecgoaaGreatDoor
end
section
set_option maxRecDepth 20000
namespace Go.Proofs.YtfdffboelecgoaaGreatDoor
open Go.Fw Go.Proofs Go.RowKit
open Go.Proofs.Tryz (prog)
variable {σ σ0:Store}
def cat {α:Type}(f:α→List UInt8)(xs:List α) :List UInt8:=(xs.map f).flatten
theorem b_c {α:Type}{f:α→List UInt8}{xs:List α}{j:Nat}{x:α}(hx:xs[j]? =some x) :cat f (xs.take (j+1)) =cat f (xs.take j) ++ f x:=by
 unfold cat
 rw[List.take_add_one,hx]
 simp
theorem d_m {α:Type}(f:α→List UInt8)(xs:List α)(j:Nat) :(cat f (xs.take j)).length≤(cat f xs).length:=by
 have e:cat f xs=cat f (xs.take j) ++ cat f (xs.drop j):=by
   unfold cat
   rw[←List.flatten_append,←List.map_append,List.take_append_drop]
 rw[e,List.length_append];omega
theorem e_i {α:Type}(f:α→List UInt8) :cat f []=[]:=rfl
def stL (s:St) :List UInt8:=b_m [] [s.Sec,s.In,s.Out]
def ndL (n:Nd) :List UInt8:=b_m [] [n.Sec,n.Pos]
def wRoute:List UInt8:= [114,111,117,116,101]
def wPath:List UInt8:= [32,112,97,116,104]
def wFlank:List UInt8:= [32,102,108,97,110,107]
def wOver:List UInt8:= [32,111,118,101,114,108,97,112]
def rtL (x:Rt) :List UInt8:=b_m wRoute [x.Entry,x.Exit,if x.Shunt then 1 else 0] ++ wPath ++ cat stL x.Path ++ wFlank ++ cat ndL x.Flank ++ d_p wOver x.Overlap
def l_o (x:Rt) :Prop:=i64 x.Entry∧i64 x.Exit∧(∀s ∈ x.Path,i64 s.Sec∧i64 s.In∧i64 s.Out)∧(∀n ∈ x.Flank,i64 n.Sec∧i64 n.Pos)∧∀n ∈ x.Overlap,i64 n
theorem h_u {a b c:Int}(ha:i64 a)(hb:i64 b)(hc:i64 c) :∀n ∈ [a,b,c],i64 n:=fun n hn=>by
 simp only[List.mem_cons,List.not_mem_nil,or_false] at hn
 rcases hn with rfl | rfl | rfl <;> assumption
theorem n_9 {a b:Int}(ha:i64 a)(hb:i64 b) :∀n ∈ [a,b],i64 n:=fun n hn=>by
 simp only[List.mem_cons,List.not_mem_nil,or_false] at hn
 rcases hn with rfl | rfl <;> assumption
theorem a_he {s:Store}{id:Nat}{l w:List UInt8}(h:BlIn σ0 s id l)(hs:l.length+w.length≤2 ^ 46) :
   DCalls prog a_9 [.one (pO id),sA (a_l w), .one .nils] s fun r s'=>r= .tup []∧BlIn σ0 s' id (l ++ w):=by
 have e:b_m (a_l w).data.toList []=w:=n_w w
 have:=a_fv (ns:= []) (d:= .nils) h (w:=a_l w) .nil (fun n hn=>by cases hn) (by rw[e];exact hs)
 rw[e] at this
 exact this
set_option maxHeartbeats 1000000 in
theorem s_7 {s:Store}{id:Nat}{l:List UInt8}(h:BlIn σ0 s id l){x:Rt}{d1 d2 d3:D}(h1:At prog σ0 a_p d1 (x.Path.map St.enc))(h2:At prog σ0 a_2 d2 (x.Flank.map Nd.enc))(h3:At prog σ0 a_f d3 (x.Overlap.map Go.Fw.encI))
   (hx:l_o x) (hs:l.length+ (rtL x).length≤2 ^ 46) :
   DCalls prog e_l [.one (pO id),rtA d1 d2 d3 x] s fun r s'=>r= .tup []∧BlIn σ0 s' id (l ++ rtL x):=by
 obtain ⟨x1,x2,x3,x4,x5⟩:=hx
 have hsz1:=h1.size
 have hsz2:=h2.size
 rw[List.length_map] at hsz1 hsz2
 have hlen:(rtL x).length=(b_m wRoute [x.Entry,x.Exit,if x.Shunt then 1 else 0]).length+wPath.length+ (cat stL x.Path).length+wFlank.length+ (cat ndL x.Flank).length+ (d_p wOver x.Overlap).length:=by
   unfold rtL;simp only[List.length_append]
 refine n_c (pO id) x.Entry x.Exit d1 d2 d3 x.Shunt s _ fun R hR=>?_
 have main : ∀ n : Int, n = (if x.Shunt then 1 else 0) → R n s := fun n hn => hR n s (z_s h (w := a_l wRoute) (ns := [x.Entry, x.Exit, n]) (h_u x1 x2 (by rw [hn]; split <;> exact ⟨by decide, by decide⟩)) (by simp) (by
     show l.length+ (b_m wRoute [x.Entry,x.Exit,n]).length≤_
     rw[hn];omega) fun s1 g1=>?_)
 · refine bc (fun e=>main 1 (by rw[e];rfl)) (fun e=>main 0 (by rw[e];rfl))
 · subst hn
   have g1:BlIn σ0 s1 id (l ++ b_m wRoute [x.Entry,x.Exit,if x.Shunt then 1 else 0]):=g1
   refine ⟨rfl,(a_he (w:=wPath) g1 (by rw[List.length_append];omega)).mono ?_⟩
   rintro r s2 ⟨rfl,g2⟩
   refine ⟨rfl,(h1.ext g2.ext).lenK ?_⟩
   rw[List.length_map]
   refine ⟨fun n s'=>∃j:Nat,n=j∧j≤x.Path.length∧BlIn σ0 s' id (l ++ b_m wRoute [x.Entry,x.Exit,if x.Shunt then 1 else 0] ++ wPath ++ cat stL (x.Path.take j)),fun n _=>x.Path.length - n.toNat,⟨0,rfl,by omega,by rw[List.take_zero,e_i,List.append_nil];exact g2⟩,?_⟩
   rintro n s3 ⟨j,rfl,hj,g3⟩
   refine bcd (fun hlt=>?_) (fun hge=>?_)
   · obtain ⟨y,hy⟩:=a_r (l:=x.Path) (j:=j) (by omega)
     obtain ⟨y1,y2,y3⟩:=x3 y (List.mem_of_getElem? hy)
     have hl:=d_m stL x.Path (j+1)
     rw[b_c hy,List.length_append] at hl
     refine (h1.ext g3.ext).load (a_x hy) e_a rfl ⟨y.Sec,y.In,y.Out,rfl,z_s g3 (w:=a_l []) (ns:= [y.Sec,y.In,y.Out]) (h_u y1 y2 y3) (by simp) ?_ fun s4 g4=>⟨rfl,⟨j+1,by rw[a_m (by omega)],by omega,?_⟩,?_⟩⟩
     · show _+ (stL y).length≤_
       simp only[List.length_append];omega
     · rw[b_c hy,←List.append_assoc];exact g4
     · rw[a_m (by omega)];show x.Path.length - ((j+1:Nat) :Int).toNat < x.Path.length - ((j:Nat) :Int).toNat;omega
   · have e:j=x.Path.length:=by omega
     rw[e,List.take_length] at g3
     refine (a_he (w:=wFlank) g3 (by simp only[List.length_append];omega)).mono ?_
     rintro r s4 ⟨rfl,g4⟩
     refine ⟨rfl,(h2.ext g4.ext).lenK ?_⟩
     rw[List.length_map]
     refine ⟨fun n s'=>∃j:Nat,n=j∧j≤x.Flank.length∧BlIn σ0 s' id (l ++ b_m wRoute [x.Entry,x.Exit,if x.Shunt then 1 else 0] ++ wPath ++ cat stL x.Path ++ wFlank ++ cat ndL (x.Flank.take j)),fun n _=>x.Flank.length - n.toNat,⟨0,rfl,by omega,by rw[List.take_zero,e_i,List.append_nil];exact g4⟩,?_⟩
     rintro n s5 ⟨j,rfl,hj,g5⟩
     refine bcd (fun hlt=>?_) (fun hge=>?_)
     · obtain ⟨y,hy⟩:=a_r (l:=x.Flank) (j:=j) (by omega)
       obtain ⟨y1,y2⟩:=x4 y (List.mem_of_getElem? hy)
       have hl:=d_m ndL x.Flank (j+1)
       rw[b_c hy,List.length_append] at hl
       refine (h2.ext g5.ext).load (a_x hy) e_t rfl ⟨y.Sec,y.Pos,rfl,z_s g5 (w:=a_l []) (ns:= [y.Sec,y.Pos]) (n_9 y1 y2) (by simp) ?_ fun s6 g6=>⟨rfl,⟨j+1,by rw[a_m (by omega)],by omega,?_⟩,?_⟩⟩
       · show _+ (ndL y).length≤_
         simp only[List.length_append];omega
       · rw[b_c hy,←List.append_assoc];exact g6
       · rw[a_m (by omega)];show x.Flank.length - ((j+1:Nat) :Int).toNat < x.Flank.length - ((j:Nat) :Int).toNat;omega
     · have e:j=x.Flank.length:=by omega
       rw[e,List.take_length] at g5
       refine (a_at g5 (w:=a_l wOver) h3 x5 (by show _+ (d_p wOver x.Overlap).length≤_;simp only[List.length_append];omega)).mono ?_
       rintro r s6 ⟨rfl,g6⟩
       refine ⟨rfl,rfl,?_⟩
       have e2:l ++ rtL x=l ++ b_m wRoute [x.Entry,x.Exit,if x.Shunt then 1 else 0] ++ wPath ++ cat stL x.Path ++ wFlank ++ cat ndL x.Flank ++ d_p (a_l wOver).data.toList x.Overlap:=by
         show l ++ rtL x=l ++ b_m wRoute [x.Entry,x.Exit,if x.Shunt then 1 else 0] ++ wPath ++ cat stL x.Path ++ wFlank ++ cat ndL x.Flank ++ d_p wOver x.Overlap
         unfold rtL;simp only[List.append_assoc]
       rw[e2];exact g6
def wSec:List UInt8:= [115,101,99,116,105,111,110]
def wJt:List UInt8:= [106,111,105,110,116]
def wSg:List UInt8:= [115,105,103,110,97,108]
def wX:List UInt8:= [99,114,111,115,115,105,110,103]
def wTim:List UInt8:= [116,105,109,105,110,103]
def g_p (s:Sec) :List UInt8:=d_p wSec [s.Kind,s.OC,s.Line]
def jtL (s:Jt) :List UInt8:=d_p wJt [s.A,s.AEnd,s.B,s.BEnd]
def sgL (s:Sg) :List UInt8:=d_p wSg [s.Sec,s.End_]
def xL (s:Int) :List UInt8:=d_p wX [s]
def timL (c:Cf) :List UInt8:=d_p wTim [c.Age,c.Brake,c.Hold,c.Budget]
def c_b (c:Cf) :List UInt8:=cat g_p c.Secs ++ cat jtL c.Jts ++ cat sgL c.Sigs ++ cat xL c.Xs ++ cat rtL c.Rts ++ timL c
structure cf64 (c:Cf) :Prop where
 secs:∀s ∈ c.Secs,i64 s.Kind∧i64 s.OC∧i64 s.Line
 jts:∀s ∈ c.Jts,i64 s.A∧i64 s.AEnd∧i64 s.B∧i64 s.BEnd
 sigs:∀s ∈ c.Sigs,i64 s.Sec∧i64 s.End_
 xs:∀s ∈ c.Xs,i64 s
 rts:∀x ∈ c.Rts,l_o x
 tim:i64 c.Age∧i64 c.Brake∧i64 c.Hold∧i64 c.Budget
theorem n_4 {a b c d:Int}(ha:i64 a)(hb:i64 b)(hc:i64 c)(hd:i64 d) :∀n ∈ [a,b,c,d],i64 n:=fun n hn=>by
 simp only[List.mem_cons,List.not_mem_nil,or_false] at hn
 rcases hn with rfl | rfl | rfl | rfl <;> assumption
set_option maxHeartbeats 2000000 in
theorem l_v {c0 c1 c2 c3 c4:D}{c:Cf}(h:CfAt σ c0 c1 c2 c3 c4 c)(hc:cf64 c)(hs:(c_b c).length≤2 ^ 46) :Fw.Pure prog g_5 [cfA c0 c1 c2 c3 c4 c] σ (.a (sA (a_l (c_b c)))):=by
 refine Pure.of ?_ (.one _ (.str _))
 have hlen:(c_b c).length=(cat g_p c.Secs).length+ (cat jtL c.Jts).length+ (cat sgL c.Sigs).length+ (cat xL c.Xs).length+ (cat rtL c.Rts).length+ (timL c).length:=by
   unfold c_b;simp only[List.length_append]
 have z0:=h.secs.size
 have z1:=h.jts.size
 have z2:=h.sigs.size
 have z3:=h.xs.size
 rw[List.length_map] at z0 z1 z2 z3
 obtain ⟨rows,r1,r2,r3⟩:=h.rts
 have z4:=r1.size
 refine a_ee c0 c1 c2 c3 c4 c.Age c.Brake c.Hold c.Budget σ _ (a_n fun id s0 hid _ he0 hs0=>?_)
 have b0:BlIn σ s0 id []:=⟨hid, .nilp, .nils,hs0, .inl rfl, .nil σ he0,(by intro e;cases e),fun b i n e=>(by cases e)⟩
 refine (h.secs.ext b0.ext).lenK ?_
 rw[List.length_map]
 refine ⟨fun n s'=>∃j:Nat,n=j∧j≤c.Secs.length∧BlIn σ s' id ([] ++ cat g_p (c.Secs.take j)),fun n _=>c.Secs.length - n.toNat,⟨0,rfl,by omega,by rw[List.take_zero,e_i,List.append_nil];exact b0⟩,?_⟩
 rintro n t0 ⟨j,rfl,hj,g0⟩
 refine bcd (fun hlt=>?_) (fun hge=>?_)
 · obtain ⟨y,hy⟩:=a_r (l:=c.Secs) (j:=j) (by omega)
   obtain ⟨y1,y2,y3⟩:=hc.secs y (List.mem_of_getElem? hy)
   have hl:=d_m g_p c.Secs (j+1)
   rw[b_c hy,List.length_append] at hl
   refine (h.secs.ext g0.ext).load (a_x hy) b_j rfl ⟨y.Kind,y.OC,y.Line,rfl,m_x g0 (w:=a_l wSec) (ns:= [y.Kind,y.OC,y.Line]) (h_u y1 y2 y3) (by simp) ?_ fun s4 g4=>⟨rfl,⟨j+1,by rw[a_m (by omega)],by omega,?_⟩,?_⟩⟩
   · show _+ (g_p y).length≤_
     simp only[List.length_append,List.length_nil];omega
   · rw[b_c hy,←List.append_assoc];exact g4
   · rw[a_m (by omega)];show c.Secs.length - ((j+1:Nat) :Int).toNat < c.Secs.length - ((j:Nat) :Int).toNat;omega
 have e0:j=c.Secs.length:=by omega
 rw[e0,List.take_length] at g0
 have b1:=g0
 refine (h.jts.ext b1.ext).lenK ?_
 rw[List.length_map]
 refine ⟨fun n s'=>∃j:Nat,n=j∧j≤c.Jts.length∧BlIn σ s' id ([] ++ cat g_p c.Secs ++ cat jtL (c.Jts.take j)),fun n _=>c.Jts.length - n.toNat,⟨0,rfl,by omega,by rw[List.take_zero,e_i,List.append_nil];exact b1⟩,?_⟩
 rintro n t1 ⟨j,rfl,hj,g1⟩
 refine bcd (fun hlt=>?_) (fun hge=>?_)
 · obtain ⟨y,hy⟩:=a_r (l:=c.Jts) (j:=j) (by omega)
   obtain ⟨y1,y2,y3,y4⟩:=hc.jts y (List.mem_of_getElem? hy)
   have hl:=d_m jtL c.Jts (j+1)
   rw[b_c hy,List.length_append] at hl
   refine (h.jts.ext g1.ext).load (a_x hy) c_q rfl ⟨y.A,y.AEnd,y.B,y.BEnd,rfl,m_x g1 (w:=a_l wJt) (ns:= [y.A,y.AEnd,y.B,y.BEnd]) (n_4 y1 y2 y3 y4) (by simp) ?_ fun s4 g4=>⟨rfl,⟨j+1,by rw[a_m (by omega)],by omega,?_⟩,?_⟩⟩
   · show _+ (jtL y).length≤_
     simp only[List.length_append,List.length_nil];omega
   · rw[b_c hy,←List.append_assoc];exact g4
   · rw[a_m (by omega)];show c.Jts.length - ((j+1:Nat) :Int).toNat < c.Jts.length - ((j:Nat) :Int).toNat;omega
 have e1:j=c.Jts.length:=by omega
 rw[e1,List.take_length] at g1
 have b2:=g1
 refine (h.sigs.ext b2.ext).lenK ?_
 rw[List.length_map]
 refine ⟨fun n s'=>∃j:Nat,n=j∧j≤c.Sigs.length∧BlIn σ s' id ([] ++ cat g_p c.Secs ++ cat jtL c.Jts ++ cat sgL (c.Sigs.take j)),fun n _=>c.Sigs.length - n.toNat,⟨0,rfl,by omega,by rw[List.take_zero,e_i,List.append_nil];exact b2⟩,?_⟩
 rintro n t2 ⟨j,rfl,hj,g2⟩
 refine bcd (fun hlt=>?_) (fun hge=>?_)
 · obtain ⟨y,hy⟩:=a_r (l:=c.Sigs) (j:=j) (by omega)
   obtain ⟨y1,y2⟩:=hc.sigs y (List.mem_of_getElem? hy)
   have hl:=d_m sgL c.Sigs (j+1)
   rw[b_c hy,List.length_append] at hl
   refine (h.sigs.ext g2.ext).load (a_x hy) b_w rfl ⟨y.Sec,y.End_,rfl,m_x g2 (w:=a_l wSg) (ns:= [y.Sec,y.End_]) (n_9 y1 y2) (by simp) ?_ fun s4 g4=>⟨rfl,⟨j+1,by rw[a_m (by omega)],by omega,?_⟩,?_⟩⟩
   · show _+ (sgL y).length≤_
     simp only[List.length_append,List.length_nil];omega
   · rw[b_c hy,←List.append_assoc];exact g4
   · rw[a_m (by omega)];show c.Sigs.length - ((j+1:Nat) :Int).toNat < c.Sigs.length - ((j:Nat) :Int).toNat;omega
 have e2:j=c.Sigs.length:=by omega
 rw[e2,List.take_length] at g2
 have b3:=g2
 refine (h.xs.ext b3.ext).lenK ?_
 rw[List.length_map]
 refine ⟨fun n s'=>∃j:Nat,n=j∧j≤c.Xs.length∧BlIn σ s' id ([] ++ cat g_p c.Secs ++ cat jtL c.Jts ++ cat sgL c.Sigs ++ cat xL (c.Xs.take j)),fun n _=>c.Xs.length - n.toNat,⟨0,rfl,by omega,by rw[List.take_zero,e_i,List.append_nil];exact b3⟩,?_⟩
 rintro n t3 ⟨j,rfl,hj,g3⟩
 refine bcd (fun hlt=>?_) (fun hge=>?_)
 · obtain ⟨y,hy⟩:=a_r (l:=c.Xs) (j:=j) (by omega)
   have y1:=hc.xs y (List.mem_of_getElem? hy)
   have hl:=d_m xL c.Xs (j+1)
   rw[b_c hy,List.length_append] at hl
   refine (h.xs.ext g3.ext).load (a_x hy) c_int rfl ⟨y,rfl,m_x g3 (w:=a_l wX) (ns:= [y]) (fun n hn=>by rw[List.mem_singleton.1 hn];exact y1) (by simp) ?_ fun s4 g4=>⟨rfl,⟨j+1,by rw[a_m (by omega)],by omega,?_⟩,?_⟩⟩
   · show _+ (xL y).length≤_
     simp only[List.length_append,List.length_nil];omega
   · rw[b_c hy,←List.append_assoc];exact g4
   · rw[a_m (by omega)];show c.Xs.length - ((j+1:Nat) :Int).toNat < c.Xs.length - ((j:Nat) :Int).toNat;omega
 have e3:j=c.Xs.length:=by omega
 rw[e3,List.take_length] at g3
 have b4:=g3
 refine (r1.ext b4.ext).lenK ?_
 rw[r2]
 refine ⟨fun n s'=>∃j:Nat,n=j∧j≤c.Rts.length∧BlIn σ s' id ([] ++ cat g_p c.Secs ++ cat jtL c.Jts ++ cat sgL c.Sigs ++ cat xL c.Xs ++ cat rtL (c.Rts.take j)),fun n _=>c.Rts.length - n.toNat,⟨0,rfl,by omega,by rw[List.take_zero,e_i,List.append_nil];exact b4⟩,?_⟩
 rintro n t4 ⟨j,rfl,hj,g4⟩
 refine bcd (fun hlt=>?_) (fun hge=>?_)
 · obtain ⟨y,hy⟩:=a_r (l:=c.Rts) (j:=j) (by omega)
   obtain ⟨row,hrow⟩:=a_r (l:=rows) (j:=j) (by omega)
   obtain ⟨d1,d2,d3,rfl,q1,q2,q3⟩:=r3 j row y hrow hy
   have hl:=d_m rtL c.Rts (j+1)
   rw[b_c hy,List.length_append] at hl
   refine (r1.ext g4.ext).load hrow b_k rfl ⟨y.Entry,y.Exit,d1,d2,d3,y.Shunt,rfl,(s_7 g4 q1 q2 q3 (hc.rts y (List.mem_of_getElem? hy)) ?_).mono ?_⟩
   · simp only[List.length_append,List.length_nil];omega
   rintro r s4 ⟨rfl,k4⟩
   refine ⟨rfl,⟨j+1,by rw[a_m (by omega)],by omega,?_⟩,?_⟩
   · rw[b_c hy,←List.append_assoc];exact k4
   · rw[a_m (by omega)];show c.Rts.length - ((j+1:Nat) :Int).toNat < c.Rts.length - ((j:Nat) :Int).toNat;omega
 have e4:j=c.Rts.length:=by omega
 rw[e4,List.take_length] at g4
 obtain ⟨y1,y2,y3,y4⟩:=hc.tim
 refine m_x g4 (w:=a_l wTim) (ns:= [c.Age,c.Brake,c.Hold,c.Budget]) (n_4 y1 y2 y3 y4) (by simp) ?_ fun s5 g5=>⟨rfl,?_⟩
 · show _+ (timL c).length≤_
   simp only[List.length_append,List.length_nil];omega
 have g5:BlIn σ s5 id (c_b c):=by
   have e:c_b c=[] ++ cat g_p c.Secs ++ cat jtL c.Jts ++ cat sgL c.Sigs ++ cat xL c.Xs ++ cat rtL c.Rts ++ d_p (a_l wTim).data.toList [c.Age,c.Brake,c.Hold,c.Budget]:=by
     show c_b c=[] ++ cat g_p c.Secs ++ cat jtL c.Jts ++ cat sgL c.Sigs ++ cat xL c.Xs ++ cat rtL c.Rts ++ timL c
     unfold c_b;rw[List.nil_append]
   rw[e];exact g5
 have hne:c_b c≠[]:=by
   unfold c_b timL d_p
   intro e
   have:=congrArg List.length e
   simp at this
 refine (a_mv g5 hne hs).mono ?_
 rintro r s6 ⟨rfl,he⟩
 exact ⟨_,rfl,rfl,he⟩
end Go.Proofs.YtfdffboelecgoaaGreatDoor
end
section
set_option maxRecDepth 20000
namespace Go.Proofs.YtfdffboelecgoaaGreatDoor
open Go.Fw Go.Proofs Go.RowKit
open Go.Proofs.Tryz (prog)
variable {σ σ0:Store}
theorem f_t (l:List UInt8) :(a_l l).size=l.length:=by show l.toArray.size=_;simp
theorem a_ko (s:ByteArray) :a_l s.data.toList=s:=by cases s;rfl
theorem a_lf (a b:ByteArray) :(ByteArray.append a b).data.toList=a.data.toList ++ b.data.toList:=by
 show (a ++ b).data.toList=_
 simp
theorem n_o {w:ByteArray}{d:D}{ns:List Int}(hd:At prog σ a_f d (ns.map Go.Fw.encI))(hi:∀n ∈ ns,i64 n)(hs:(b_m w.data.toList ns).length≤2 ^ 46) :
   Fw.Pure prog b_q [sA w, .one d] σ (.a (sA (a_l (b_m w.data.toList ns)))):=by
 have hsz:=hd.size
 rw[List.length_map] at hsz
 refine x_2 w d σ _ (hd.lenK ?_)
 rw[List.length_map]
 refine ⟨fun s n s'=>∃j:Nat,n=j∧j≤ns.length∧s'=σ∧s=a_l (b_m w.data.toList (ns.take j)),fun _ n _=>ns.length - n.toNat,⟨0,rfl,by omega,rfl,by rw[List.take_zero,n_w,a_ko]⟩,?_⟩
 rintro s n s' ⟨j,rfl,hj,rfl,rfl⟩
 refine bcd (fun hlt=>?_) (fun hge=>?_)
 · obtain ⟨x,hx⟩:=a_r (l:=ns) (j:=j) (by omega)
   have hxi:=hi x (List.mem_of_getElem? hx)
   have hl:=v_s hxi
   have ht:=s_r w.data.toList ns (j+1)
   have hsucc:=s_v w.data.toList hx
   rw[hsucc,List.length_append,List.length_cons] at ht
   refine hd.load (a_x hx) c_int rfl ⟨x,rfl,(z_0 hxi).use ⟨_,rfl,?_,?_,⟨j+1,by rw[a_m (by omega)],by omega,rfl,?_⟩,?_⟩⟩
   · rw[f_t];omega
   · rw[f_t]
     show ((b_m w.data.toList (ns.take j)).length:Int) + (((ByteArray.mk (Array.mk ([32] ++ Lib.itoa x))).size:Nat) :Int)≤_
     have:(ByteArray.mk (Array.mk ([32] ++ Lib.itoa x))).size=(Lib.itoa x).length+1:=by show ([32] ++ Lib.itoa x).toArray.size=_;simp
     rw[this];omega
   · rw[a_lf,hsucc];rfl
   · rw[a_m (by omega)];show ns.length - ((j+1:Nat) :Int).toNat < ns.length - ((j:Nat) :Int).toNat;omega
 · have e:j=ns.length:=by omega
   rw[e,List.take_length]
   exact ⟨rfl,rfl⟩
theorem i_a {s:Store}{d:D}{l:List UInt8}(h:Own prog σ0 s a_s d (l.map b_5)){t:List UInt8}(hs:l.length+t.length≤2 ^ 46){K:D→Store→Prop}(hK:∀d' s',Own prog σ0 s' a_s d' ((l ++ t).map b_5)→K d' s') :
   c_m prog s 5 1 d (b_8 (a_l t)) K:=
 r_i (es:=1) (h.append (a_d8 s (l:=t) (by omega)) (by simp;omega) (by simp;omega) fun d' s' o _ _=>hK d' s' (by rw[List.map_append];exact o))
theorem a_kx {s:Store}{d:D}{l:List UInt8}(h:Own prog σ0 s a_s d (l.map b_5))(hs:l.length+1≤2 ^ 46){K:D→Store→Prop}(hK:∀d' s',Own prog σ0 s' a_s d' ((l ++ [10]).map b_5)→K d' s') :
   Fw.newObj s (.live a_s [[.int .u8 10]]) fun i s'=>a_e prog s' a_s 1 d (.osl i 0 1) K:=a_n fun i s1 hi _ he h1=>by
 have hA:At prog s1 a_s (.osl i 0 1) (([10]:List UInt8).map b_5):=At.fresh h1 (by simp) rfl
 exact (h.ext' he).append hA (by simp;omega) (by simp;omega) fun d' s' o _ _=>hK d' s' (by rw[List.map_append];exact o)
theorem n_6 {s:Store}{w:List UInt8}{ns:List Int}(hi:∀n ∈ ns,i64 n)(hn:ns.length < 2 ^ 60)(hs:(b_m w ns).length≤2 ^ 46){Q:RV→Store→Prop}(hQ:∀s',Ext s s'→Q (.a (sA (a_l (b_m w ns)))) s') :
   Fw.newObj s (.live a_f (ns.map Go.Fw.encI)) fun i s1=>DCalls prog b_q [sA (a_l w), .one (.osl i 0 ns.length)] s1 Q:=a_n fun i s1 hi1 _ he h1=>
 (n_o (w:=a_l w) (At.fresh h1 (by rw[List.length_map];exact hn) (by rw[List.length_map])) hi hs).use (hQ s1 he)
theorem n_k {s:Store}{d:D}{l w:List UInt8}{ns:List Int}(h:Own prog σ0 s a_s d (l.map b_5))(hi:∀n ∈ ns,i64 n)(hn:ns.length < 2 ^ 60)(hs:l.length+ (d_p w ns).length≤2 ^ 46){K:D→Store→Prop}
   (hK:∀d' s',Own prog σ0 s' a_s d' ((l ++ d_p w ns).map b_5)→K d' s') :
   Fw.newObj s (.live a_f (ns.map Go.Fw.encI)) fun i s1=>DCalls prog b_q [sA (a_l w), .one (.osl i 0 ns.length)] s1 fun r s2=>∃t,r= .a (.one (.str t))∧c_m prog s2 5 1 d (b_8 t) fun d1 s3=>
     Fw.newObj s3 (.live a_s [[.int .u8 10]]) fun i1 s4=>a_e prog s4 a_s 1 d1 (.osl i1 0 1) K:=by
 have hs':l.length+ ((b_m w ns).length+1)≤2 ^ 46:=by
   unfold d_p at hs
   rw[List.length_append] at hs
   exact hs
 refine n_6 hi hn (by omega) fun s2 he=>⟨_,rfl,i_a (h.ext' he) (by omega) fun d1 s3 h3=>a_kx h3 (by rw[List.length_append];omega) fun d2 s5 h5=>hK d2 s5 ?_⟩
 unfold d_p
 rw[←List.append_assoc];exact h5
set_option maxHeartbeats 4000000 in
theorem g_y {c0 c1 c2 c3 c4:D}{c:Cf}(h:CfAt σ c0 c1 c2 c3 c4 c)(hc:cf64 c)(hs:(c_b c).length≤2 ^ 46) :Fw.Pure prog e_2 [cfA c0 c1 c2 c3 c4 c] σ (.a (sA (a_l (c_b c)))):=by
 refine Pure.of ?_ (.one _ (.str _))
 have hlen:(c_b c).length=(cat g_p c.Secs).length+ (cat jtL c.Jts).length+ (cat sgL c.Sigs).length+ (cat xL c.Xs).length+ (cat rtL c.Rts).length+ (timL c).length:=by
   unfold c_b;simp only[List.length_append]
 have z0:=h.secs.size
 have z1:=h.jts.size
 have z2:=h.sigs.size
 have z3:=h.xs.size
 rw[List.length_map] at z0 z1 z2 z3
 obtain ⟨rows,r1,r2,r3⟩:=h.rts
 have z4:=r1.size
 refine a_a0 c0 c1 c2 c3 c4 c.Age c.Brake c.Hold c.Budget σ _ ?_
 have b0:Own prog σ σ a_s .nils (([]:List UInt8).map b_5):= .nil σ (.refl _)
 refine (h.secs.ext b0.ext).lenK ?_
 rw[List.length_map]
 refine ⟨fun d n s'=>∃j:Nat,n=j∧j≤c.Secs.length∧Own prog σ s' a_s d (([] ++ cat g_p (c.Secs.take j)).map b_5),fun _ n _=>c.Secs.length - n.toNat,⟨0,rfl,by omega,by rw[List.take_zero,e_i,List.append_nil];exact b0⟩,?_⟩
 rintro d n t0 ⟨j,rfl,hj,b1⟩
 refine bcd (fun hlt=>?_) (fun hge=>?_)
 · obtain ⟨y,hy⟩:=a_r (l:=c.Secs) (j:=j) (by omega)
   obtain ⟨y1,y2,y3⟩:=hc.secs y (List.mem_of_getElem? hy)
   have hl:=d_m g_p c.Secs (j+1)
   rw[b_c hy,List.length_append] at hl
   refine (h.secs.ext b1.ext).load (a_x hy) b_j rfl ⟨y.Kind,y.OC,y.Line,rfl,n_k b1 (w:=wSec) (ns:= [y.Kind,y.OC,y.Line]) (h_u y1 y2 y3) (by simp) ?_ fun d4 s4 g4=>⟨⟨j+1,by rw[a_m (by omega)],by omega,?_⟩,?_⟩⟩
   · show _+ (g_p y).length≤_
     simp only[List.length_append,List.length_nil];omega
   · rw[b_c hy,←List.append_assoc];exact g4
   · rw[a_m (by omega)];show c.Secs.length - ((j+1:Nat) :Int).toNat < c.Secs.length - ((j:Nat) :Int).toNat;omega
 have e0:j=c.Secs.length:=by omega
 rw[e0,List.take_length] at b1
 refine (h.jts.ext b1.ext).lenK ?_
 rw[List.length_map]
 refine ⟨fun d n s'=>∃j:Nat,n=j∧j≤c.Jts.length∧Own prog σ s' a_s d (([] ++ cat g_p c.Secs ++ cat jtL (c.Jts.take j)).map b_5),fun _ n _=>c.Jts.length - n.toNat,⟨0,rfl,by omega,by rw[List.take_zero,e_i,List.append_nil];exact b1⟩,?_⟩
 rintro d n t1 ⟨j,rfl,hj,b2⟩
 refine bcd (fun hlt=>?_) (fun hge=>?_)
 · obtain ⟨y,hy⟩:=a_r (l:=c.Jts) (j:=j) (by omega)
   obtain ⟨y1,y2,y3,y4⟩:=hc.jts y (List.mem_of_getElem? hy)
   have hl:=d_m jtL c.Jts (j+1)
   rw[b_c hy,List.length_append] at hl
   refine (h.jts.ext b2.ext).load (a_x hy) c_q rfl ⟨y.A,y.AEnd,y.B,y.BEnd,rfl,n_k b2 (w:=wJt) (ns:= [y.A,y.AEnd,y.B,y.BEnd]) (n_4 y1 y2 y3 y4) (by simp) ?_ fun d4 s4 g4=>⟨⟨j+1,by rw[a_m (by omega)],by omega,?_⟩,?_⟩⟩
   · show _+ (jtL y).length≤_
     simp only[List.length_append,List.length_nil];omega
   · rw[b_c hy,←List.append_assoc];exact g4
   · rw[a_m (by omega)];show c.Jts.length - ((j+1:Nat) :Int).toNat < c.Jts.length - ((j:Nat) :Int).toNat;omega
 have e1:j=c.Jts.length:=by omega
 rw[e1,List.take_length] at b2
 refine (h.sigs.ext b2.ext).lenK ?_
 rw[List.length_map]
 refine ⟨fun d n s'=>∃j:Nat,n=j∧j≤c.Sigs.length∧Own prog σ s' a_s d (([] ++ cat g_p c.Secs ++ cat jtL c.Jts ++ cat sgL (c.Sigs.take j)).map b_5),fun _ n _=>c.Sigs.length - n.toNat,⟨0,rfl,by omega,by rw[List.take_zero,e_i,List.append_nil];exact b2⟩,?_⟩
 rintro d n t2 ⟨j,rfl,hj,b3⟩
 refine bcd (fun hlt=>?_) (fun hge=>?_)
 · obtain ⟨y,hy⟩:=a_r (l:=c.Sigs) (j:=j) (by omega)
   obtain ⟨y1,y2⟩:=hc.sigs y (List.mem_of_getElem? hy)
   have hl:=d_m sgL c.Sigs (j+1)
   rw[b_c hy,List.length_append] at hl
   refine (h.sigs.ext b3.ext).load (a_x hy) b_w rfl ⟨y.Sec,y.End_,rfl,n_k b3 (w:=wSg) (ns:= [y.Sec,y.End_]) (n_9 y1 y2) (by simp) ?_ fun d4 s4 g4=>⟨⟨j+1,by rw[a_m (by omega)],by omega,?_⟩,?_⟩⟩
   · show _+ (sgL y).length≤_
     simp only[List.length_append,List.length_nil];omega
   · rw[b_c hy,←List.append_assoc];exact g4
   · rw[a_m (by omega)];show c.Sigs.length - ((j+1:Nat) :Int).toNat < c.Sigs.length - ((j:Nat) :Int).toNat;omega
 have e2:j=c.Sigs.length:=by omega
 rw[e2,List.take_length] at b3
 refine (h.xs.ext b3.ext).lenK ?_
 rw[List.length_map]
 refine ⟨fun d n s'=>∃j:Nat,n=j∧j≤c.Xs.length∧Own prog σ s' a_s d (([] ++ cat g_p c.Secs ++ cat jtL c.Jts ++ cat sgL c.Sigs ++ cat xL (c.Xs.take j)).map b_5),fun _ n _=>c.Xs.length - n.toNat,⟨0,rfl,by omega,by rw[List.take_zero,e_i,List.append_nil];exact b3⟩,?_⟩
 rintro d n t3 ⟨j,rfl,hj,b4⟩
 refine bcd (fun hlt=>?_) (fun hge=>?_)
 · obtain ⟨y,hy⟩:=a_r (l:=c.Xs) (j:=j) (by omega)
   have y1:=hc.xs y (List.mem_of_getElem? hy)
   have hl:=d_m xL c.Xs (j+1)
   rw[b_c hy,List.length_append] at hl
   refine (h.xs.ext b4.ext).load (a_x hy) c_int rfl ⟨y,rfl,n_k b4 (w:=wX) (ns:= [y]) (fun n hn=>by rw[List.mem_singleton.1 hn];exact y1) (by simp) ?_ fun d4 s4 g4=>⟨⟨j+1,by rw[a_m (by omega)],by omega,?_⟩,?_⟩⟩
   · show _+ (xL y).length≤_
     simp only[List.length_append,List.length_nil];omega
   · rw[b_c hy,←List.append_assoc];exact g4
   · rw[a_m (by omega)];show c.Xs.length - ((j+1:Nat) :Int).toNat < c.Xs.length - ((j:Nat) :Int).toNat;omega
 have e3:j=c.Xs.length:=by omega
 rw[e3,List.take_length] at b4
 refine (r1.ext b4.ext).lenK ?_
 rw[r2]
 refine ⟨fun d n s'=>∃j:Nat,n=j∧j≤c.Rts.length∧Own prog σ s' a_s d (([] ++ cat g_p c.Secs ++ cat jtL c.Jts ++ cat sgL c.Sigs ++ cat xL c.Xs ++ cat rtL (c.Rts.take j)).map b_5),fun _ n _=>c.Rts.length - n.toNat,⟨0,rfl,by omega,by rw[List.take_zero,e_i,List.append_nil];exact b4⟩,?_⟩
 rintro d n t4 ⟨j,rfl,hj,b5⟩
 refine bcd (fun hlt=>?_) (fun hge=>?_)
 · obtain ⟨y,hy⟩:=a_r (l:=c.Rts) (j:=j) (by omega)
   obtain ⟨row,hrow⟩:=a_r (l:=rows) (j:=j) (by omega)
   obtain ⟨d1,d2,d3,rfl,q1,q2,q3⟩:=r3 j row y hrow hy
   obtain ⟨x1,x2,x3,x4,x5⟩:=hc.rts y (List.mem_of_getElem? hy)
   have hl:=d_m rtL c.Rts (j+1)
   rw[b_c hy,List.length_append] at hl
   have hlr:(rtL y).length=(b_m wRoute [y.Entry,y.Exit,if y.Shunt then 1 else 0]).length+wPath.length+ (cat stL y.Path).length+wFlank.length+ (cat ndL y.Flank).length+ (d_p wOver y.Overlap).length:=by
     unfold rtL;simp only[List.length_append]
   have k1:=q1.size
   have k2:=q2.size
   have k3:=q3.size
   rw[List.length_map] at k1 k2 k3
   refine (r1.ext b5.ext).load hrow b_k rfl ⟨y.Entry,y.Exit,d1,d2,d3,y.Shunt,rfl,fun R hR=>?_⟩
   have main:∀n:Int,n=(if y.Shunt then 1 else 0)→R n t4:=fun n hn=>hR n t4 (n_6 (w:=wRoute) (ns:= [y.Entry,y.Exit,n]) (h_u x1 x2 (by rw[hn];split <;> exact ⟨by decide,by decide⟩)) (by simp) (by rw[hn];omega) fun s1 he1=>⟨_,rfl,by rw[f_t,hn];omega,?_⟩)
   · exact bc (fun e=>⟨by first | rfl | trivial,main 1 (by rw[e];rfl)⟩) (fun e=>⟨by first | rfl | trivial,main 0 (by rw[e];rfl)⟩)
   subst hn
   refine i_a (t:=b_m wRoute [y.Entry,y.Exit,if y.Shunt then 1 else 0] ++ wPath) (b5.ext' he1) (by simp only[List.length_append,List.length_nil];omega) fun d8 s2 h8=>?_
   refine (q1.ext h8.ext).lenK ?_
   rw[List.length_map]
   refine ⟨fun d n s'=>∃i:Nat,n=i∧i≤y.Path.length∧Own prog σ s' a_s d (([] ++ cat g_p c.Secs ++ cat jtL c.Jts ++ cat sgL c.Sigs ++ cat xL c.Xs ++ cat rtL (c.Rts.take j) ++ (b_m wRoute [y.Entry,y.Exit,if y.Shunt then 1 else 0] ++ wPath) ++ cat stL (y.Path.take i)).map b_5),fun _ n _=>y.Path.length - n.toNat,⟨0,rfl,by omega,by rw[List.take_zero,e_i,List.append_nil];exact h8⟩,?_⟩
   rintro d n s3 ⟨i,rfl,hi,h9⟩
   refine bcd (fun hlt=>?_) (fun hge=>?_)
   · obtain ⟨z,hz⟩:=a_r (l:=y.Path) (j:=i) (by omega)
     obtain ⟨y1,y2,y3⟩:=x3 z (List.mem_of_getElem? hz)
     have hl2:=d_m stL y.Path (i+1)
     rw[b_c hz,List.length_append] at hl2
     have e1:(stL z).length=(b_m [] [z.Sec,z.In,z.Out]).length:=rfl
     refine (q1.ext h9.ext).load (a_x hz) e_a rfl ⟨z.Sec,z.In,z.Out,rfl,n_6 (w:= []) (ns:= [z.Sec,z.In,z.Out]) (h_u y1 y2 y3) (by simp) (by omega) fun s4 he4=>⟨_,rfl,i_a (h9.ext' he4) (by simp only[List.length_append,List.length_nil];omega) fun d9 s5 g5=>⟨by first | rfl | trivial,⟨i+1,by rw[a_m (by omega)],by omega,?_⟩,?_⟩⟩⟩
     · rw[b_c hz,←List.append_assoc];exact g5
     · rw[a_m (by omega)];show y.Path.length - ((i+1:Nat) :Int).toNat < y.Path.length - ((i:Nat) :Int).toNat;omega
   have e5:i=y.Path.length:=by omega
   rw[e5,List.take_length] at h9
   refine i_a (t:=wFlank) h9 (by simp only[List.length_append,List.length_nil];omega) fun d10 s6 h10=>?_
   refine (q2.ext h10.ext).lenK ?_
   rw[List.length_map]
   refine ⟨fun d n s'=>∃i:Nat,n=i∧i≤y.Flank.length∧Own prog σ s' a_s d (([] ++ cat g_p c.Secs ++ cat jtL c.Jts ++ cat sgL c.Sigs ++ cat xL c.Xs ++ cat rtL (c.Rts.take j) ++ (b_m wRoute [y.Entry,y.Exit,if y.Shunt then 1 else 0] ++ wPath) ++ cat stL y.Path ++ wFlank ++ cat ndL (y.Flank.take i)).map b_5),fun _ n _=>y.Flank.length - n.toNat,⟨0,rfl,by omega,by rw[List.take_zero,e_i,List.append_nil];exact h10⟩,?_⟩
   rintro d n s7 ⟨m,rfl,hm,h11⟩
   refine bcd (fun hlt=>?_) (fun hge=>?_)
   · obtain ⟨z,hz⟩:=a_r (l:=y.Flank) (j:=m) (by omega)
     obtain ⟨y1,y2⟩:=x4 z (List.mem_of_getElem? hz)
     have hl2:=d_m ndL y.Flank (m+1)
     rw[b_c hz,List.length_append] at hl2
     have e1:(ndL z).length=(b_m [] [z.Sec,z.Pos]).length:=rfl
     refine (q2.ext h11.ext).load (a_x hz) e_t rfl ⟨z.Sec,z.Pos,rfl,n_6 (w:= []) (ns:= [z.Sec,z.Pos]) (n_9 y1 y2) (by simp) (by omega) fun s8 he8=>⟨_,rfl,i_a (h11.ext' he8) (by simp only[List.length_append,List.length_nil];omega) fun d9 s9 g9=>⟨by first | rfl | trivial,⟨m+1,by rw[a_m (by omega)],by omega,?_⟩,?_⟩⟩⟩
     · rw[b_c hz,←List.append_assoc];exact g9
     · rw[a_m (by omega)];show y.Flank.length - ((m+1:Nat) :Int).toNat < y.Flank.length - ((m:Nat) :Int).toNat;omega
   have e6:m=y.Flank.length:=by omega
   rw[e6,List.take_length] at h11
   have hov:(d_p wOver y.Overlap).length=(b_m wOver y.Overlap).length+1:=by unfold d_p;rw[List.length_append];rfl
   refine (n_o (w:=a_l wOver) (q3.ext h11.ext) x5 (by show (b_m wOver y.Overlap).length≤_;omega)).use ⟨_,rfl,i_a (t:=b_m wOver y.Overlap) h11 (by simp only[List.length_append,List.length_nil];omega) fun d12 s10 h12=>a_kx h12 (by simp only[List.length_append,List.length_nil];omega) fun d13 s11 h13=>⟨⟨j+1,by rw[a_m (by omega)],by omega,?_⟩,?_⟩⟩
   · rw[b_c hy]
     have e7: [] ++ cat g_p c.Secs ++ cat jtL c.Jts ++ cat sgL c.Sigs ++ cat xL c.Xs ++ (cat rtL (c.Rts.take j) ++ rtL y) =[] ++ cat g_p c.Secs ++ cat jtL c.Jts ++ cat sgL c.Sigs ++ cat xL c.Xs ++ cat rtL (c.Rts.take j) ++ (b_m wRoute [y.Entry,y.Exit,if y.Shunt then 1 else 0] ++ wPath) ++ cat stL y.Path ++ wFlank ++ cat ndL y.Flank ++ b_m wOver y.Overlap ++ [10]:=by
       unfold rtL d_p;simp only[List.append_assoc]
     rw[e7];exact h13
   · rw[a_m (by omega)];show c.Rts.length - ((j+1:Nat) :Int).toNat < c.Rts.length - ((j:Nat) :Int).toNat;omega
 have e4:j=c.Rts.length:=by omega
 rw[e4,List.take_length] at b5
 obtain ⟨y1,y2,y3,y4⟩:=hc.tim
 refine n_k b5 (w:=wTim) (ns:= [c.Age,c.Brake,c.Hold,c.Budget]) (n_4 y1 y2 y3 y4) (by simp) ?_ fun d5 s5 g5=>⟨a_l (c_b c),?_,rfl,g5.ext⟩
 · show _+ (timL c).length≤_
   simp only[List.length_append,List.length_nil];omega
 have e:c_b c=[] ++ cat g_p c.Secs ++ cat jtL c.Jts ++ cat sgL c.Sigs ++ cat xL c.Xs ++ cat rtL c.Rts ++ d_p wTim [c.Age,c.Brake,c.Hold,c.Budget]:=by
   show c_b c=[] ++ cat g_p c.Secs ++ cat jtL c.Jts ++ cat sgL c.Sigs ++ cat xL c.Xs ++ cat rtL c.Rts ++ timL c
   unfold c_b;rw[List.nil_append]
 rw[e];exact g5.at_.rows
end Go.Proofs.YtfdffboelecgoaaGreatDoor
end
section
set_option maxRecDepth 20000
namespace Go.Proofs.YtfdffboelecgoaaGreatDoor
open Go.Fw Go.Proofs Go.RowKit
open Go.Proofs.Tryz (prog)
variable {σ σ0:Store}
theorem h_f (l:List UInt8) :ByteArray.toList (a_l l) =l:=by
 rw[Lib.toList_data];rfl
theorem j_6 {a0 a1 a2 a3 a4 b0 b1 b2 b3 b4:D}{a b:Cf}(ha:CfAt σ a0 a1 a2 a3 a4 a)(hb:CfAt σ b0 b1 b2 b3 b4 b)(ha6:cf64 a)(hb6:cf64 b)(hsa:(c_b a).length≤2 ^ 46)(hsb:(c_b b).length≤2 ^ 46) :
   Fw.Pure prog g_g [cfA a0 a1 a2 a3 a4 a,cfA b0 b1 b2 b3 b4 b] σ (.a (bA (c_b a == c_b b))):=
 z_9 a0 a1 a2 a3 a4 a.Age a.Brake a.Hold a.Budget b0 b1 b2 b3 b4 b.Age b.Brake b.Hold b.Budget σ _
   ((g_y ha ha6 hsa).use ⟨_,rfl,(g_y hb hb6 hsb).use ⟨_,rfl,by rw[h_f,h_f],rfl⟩⟩)
structure WdIn (σ0 s:Store) (id:Nat) (ws:List ByteArray) (bad:Bool) :Prop where
 new:σ0 id= .free
 ext:Ext σ0 s
 cell:∃d,s id= .live r_h [[d, .bool bad]]∧At prog σ0 t_string d (ws.map c_f)
theorem i_3 {s s':Store}{id:Nat}(h:Ext σ0 s)(hn:σ0 id= .free)(ho:∀i,i≠id→s' i=s i) :Ext σ0 s':=fun i hi=>by
 rw[ho i fun e=>hi (e ▸ hn)];exact h i hi
theorem a_hj {s:Store}{id:Nat}{ws:List ByteArray}{bad:Bool}(h:WdIn σ0 s id ws bad) :
   DCalls prog a_6 [.one (pO id)] s fun r s'=>r= .a (sA (ws.headD (a_l [])))∧WdIn σ0 s' id ws.tail (bad || ws.isEmpty)∧∀i,i≠id→s' i=s i:=by
 obtain ⟨hn,he,d,h1,h0⟩:=h
 have h2:=h0.ext he
 have hsz:=h2.size
 rw[List.length_map] at hsz
 refine s_a (pO id) s _ ⟨trivial,_,_,_,rfl,_,a_g h1,d,rfl,h2.lenK ?_⟩
 rw[List.length_map]
 refine bce (fun e=>?_) (fun e=>?_)
 · have:ws=[]:=List.length_eq_zero_iff.1 (by omega)
   subst this
   refine ⟨trivial,_,_,_,rfl,b_b h1 (by simp) fun s' hs ho=>⟨rfl,⟨hn,i_3 he hn ho,d,by rw[hs];simp[patch],h0⟩,ho⟩⟩
 · cases ws with
   | nil=>exact absurd rfl e
   | cons w ws=>
     refine ⟨trivial,_,_,_,rfl,_,a_g h1,d,rfl,h2.load (n:=0) (j:=0) rfl f_h rfl ⟨w,rfl,trivial,_,_,_,rfl,_,a_g h1,d,rfl,h2.sliceFromK (lo:=1) f_h rfl (by simp) ⟨trivial,_,_,_,rfl,b_b h1 (by simp) fun s' hs ho=>⟨rfl,⟨hn,i_3 he hn ho,k_p d 1 ((w::ws).map c_f).length,by rw[hs];simp[patch],?_⟩,ho⟩⟩⟩⟩
     have hA:=h0.sub (lo:=1) (hi:=((w::ws).map c_f).length) (by simp) (Nat.le_refl _)
     have e2:((((w::ws).map c_f).drop 1).take (((w::ws).map c_f).length - 1)) =ws.map c_f:=by
       rw[List.take_of_length_le (by simp)];rfl
     rw[e2] at hA
     exact hA
theorem e_y (l:List UInt8) :i64 (e_u l).1:=by
 unfold e_u
 cases h:Lib.atoiAll l with
 | range=>
   show i64 (Lib.atoiSat l)
   unfold Lib.atoiSat
   split <;> exact ⟨by decide,by decide⟩
 | ok v=>
   show i64 v
   cases l with
   | nil=>simp[Lib.atoiAll] at h
   | cons c r=>
     unfold Lib.atoiAll at h
     simp only at h
     split at h
     · cases h
     · cases h
     · split at h
       · cases h
       · split at h
         · cases h
         · injection h with h
           unfold i64
           rw[←h]
           split <;> omega
 | _=>exact (show i64 0 from ⟨by decide,by decide⟩)
def m_s (w:ByteArray) :Bool:= !(e_u w.data.toList).2 && (Lib.itoa (e_u w.data.toList).1 == w.data.toList)
theorem a_n8 {s:Store}{id:Nat}{ws:List ByteArray}{bad:Bool}(h:WdIn σ0 s id ws bad)(hsz:(ws.headD (a_l [])).size≤281474976710656) :
   DCalls prog a_a [.one (pO id)] s fun r s'=>r= .a (iA (e_u (ws.headD (a_l [])).data.toList).1)∧WdIn σ0 s' id ws.tail (bad || ws.isEmpty || !m_s (ws.headD (a_l [])))∧∀i,i≠id→s' i=s i:=by
 refine s_h (pO id) s _ ((a_hj h).mono ?_)
 rintro r s1 ⟨rfl,h1,ho1⟩
 generalize ws.headD (a_l []) =w at *
 refine ⟨w,rfl,(a_hy hsz).use ⟨_,_,rfl,?_⟩⟩
 obtain ⟨hn,he,d,g1,g2⟩:=h1
 have hi:=e_y w.data.toList
 have fin:∀b:Bool,b=(bad || ws.isEmpty || !m_s w)→a_d [.bool b] s1 (.osl id 0 1) 0 (0+1) fun s'=>(RV.a (iA (e_u w.data.toList).1) =RV.a (iA (e_u w.data.toList).1)∧WdIn σ0 s' id ws.tail (bad || ws.isEmpty || !m_s w)∧∀i,i≠id→s' i=s i):=fun b hb=>
   b_b g1 (by simp) fun s' hs ho=>⟨rfl,⟨hn,i_3 he hn ho,d,by rw[hs,hb];simp[patch],g2⟩,fun i hne=>(ho i hne).trans (ho1 i hne)⟩
 refine ⟨trivial,_,_,_,rfl,_,a_g g1,bad || ws.isEmpty,rfl,bc (fun e=>?_) (fun e=>?_)⟩
 · exact ⟨trivial,_,_,_,rfl,fin true (by rw[e];rfl)⟩
 · refine ⟨!(e_u w.data.toList).2,rfl,?_⟩
   cases hee:(e_u w.data.toList).2 with
   | true=>exact bc (fun _=>⟨trivial,_,_,_,rfl,fin true (by rw[e];unfold m_s;rw[hee];rfl)⟩) (fun e=>absurd e (by decide))
   | false=>
     refine bc (fun e=>absurd e (by decide)) (fun _=>(z_0 hi).use ⟨_,rfl,trivial,_,_,_,rfl,fin _ ?_⟩)
     rw[e,h_f,Lib.toList_data]
     unfold m_s
     rw[hee]
     simp
end Go.Proofs.YtfdffboelecgoaaGreatDoor
end
namespace Go.Proofs.YtfdffboelecgoaaGreatDoor
open Go.Fw Go.Proofs
section
abbrev Ws:=List ByteArray × Bool
def a_3 (s:Ws) :ByteArray × Ws:=(s.1.headD (a_l []),(s.1.tail,s.2 || s.1.isEmpty))
def a_j (s:Ws) :Int × Ws:=((e_u (s.1.headD (a_l [])).data.toList).1,(s.1.tail,s.2 || s.1.isEmpty || !m_s (s.1.headD (a_l []))))
def b_a (word:List UInt8)(s:Ws) :Bool:= !s.2 && !s.1.isEmpty && (word.isEmpty || !((s.1.headD (a_l [])).data.toList == word))
def c_v {α:Type}(word:List UInt8)(step:α→Ws→α × Ws) :Nat→α→Ws→α × Ws
 | 0,x,s=>(x,s)
 | n+1,x,s=>if b_a word s then c_v word step n (step x s).1 (step x s).2 else (x,s)
def a_8 {α:Type}(word:List UInt8)(step:α→Ws→α × Ws)(x:α)(s:Ws) :α × Ws:=
 let p:=c_v word step s.1.length x s
 if word.isEmpty then p else (p.1,((a_3 p.2).2.1,!((a_3 p.2).1.data.toList == word) || (a_3 p.2).2.2))
def b_s (x:Rt)(s:Ws) :Rt × Ws:=
 let a:=a_j s;let b:=a_j a.2;let c:=a_j b.2
 ({ x with Path:=x.Path ++ [⟨a.1,b.1,c.1⟩] },c.2)
def b_u (x:Rt)(s:Ws) :Rt × Ws:=
 let a:=a_j s;let b:=a_j a.2
 ({ x with Flank:=x.Flank ++ [⟨a.1,b.1⟩] },b.2)
def b_2 (x:Rt)(s:Ws) :Rt × Ws:=
 let a:=a_j s
 ({ x with Overlap:=x.Overlap ++ [a.1] },a.2)
def b_p (s:Ws) :Rt × Ws:=
 let a:=a_j s;let b:=a_j a.2;let c:=a_j b.2
 let p:=a_3 c.2
 let w:Ws:=if c.2.2 || !(decide (0≤c.1) && decide (c.1≤1)) then (c.2.1,true) else (p.2.1,!(p.1.data.toList == [112,97,116,104]))
 let r:=a_8 (wFlank.drop 1) b_s ⟨a.1,b.1,[],[],[],c.1 == 1⟩ w
 let q:=a_8 (wOver.drop 1) b_u r.1 r.2
 a_8 [] b_2 q.1 q.2
def b_3 (c:Cf)(s:Ws) :Int × Cf × Ws:=
 let h:=a_3 s
 let w:=h.1.data.toList
 if w=wSec then let x:=a_j h.2;let y:=a_j x.2;let z:=a_j y.2; (1,{ c with Secs:=c.Secs ++ [⟨x.1,y.1,z.1⟩] },z.2)
 else if w=wJt then let x:=a_j h.2;let y:=a_j x.2;let z:=a_j y.2;let u:=a_j z.2; (2,{ c with Jts:=c.Jts ++ [⟨x.1,y.1,z.1,u.1⟩] },u.2)
 else if w=wSg then let x:=a_j h.2;let y:=a_j x.2; (3,{ c with Sigs:=c.Sigs ++ [⟨x.1,y.1⟩] },y.2)
 else if w=wX then let x:=a_j h.2; (4,{ c with Xs:=c.Xs ++ [x.1] },x.2)
 else if w=wRoute then let x:=b_p h.2; (5,{ c with Rts:=c.Rts ++ [x.1] },x.2)
 else if w=wTim then let x:=a_j h.2;let y:=a_j x.2;let z:=a_j y.2;let u:=a_j z.2; (6,{ c with Age:=x.1,Brake:=y.1,Hold:=z.1,Budget:=u.1 },u.2)
 else (0,c,(h.2.1,true))
def c_4:List ByteArray→Cf→Int→Option (Cf × Int)
 | [],c,last=>some (c,last)
 | l::r,c,last=>
   let x:=b_3 c (pieces 32 l,false)
   if x.2.2.2 || !x.2.2.1.isEmpty || decide (x.1 < last) || (x.1 == last && x.1 == 6) then none else c_4 r x.2.1 x.1
def d_i:Cf:=⟨[],[],[],[],[],0,0,0,0⟩
def c_p (t:ByteArray) :Option Cf:=
 match c_4 (pieces 10 (c_x 10 t)) d_i 0 with
 | some (c,last)=>if s_9 10 t && last == 6 then some c else none
 | none=>none
end
end Go.Proofs.YtfdffboelecgoaaGreatDoor
section
set_option maxRecDepth 20000
namespace Go.Proofs.YtfdffboelecgoaaGreatDoor
open Go.Fw Go.Proofs
def b_e (c:UInt8) :List UInt8→List (List UInt8)
 | []=> [[]]
 | x::l=>if x=c then []::b_e c l else (x:: (b_e c l).headD []) :: (b_e c l).tail
theorem y_2 (c:UInt8) :∀l:List UInt8,Lib.splitK [c] 0 (Lib.count l [c]) l=b_e c l
 | []=>by rw[Lib.count_miss (by simp[Lib.index])];rfl
 | x::l=>by
   have ih:=y_2 c l
   by_cases h:x=c
   · subst h
     rw[Lib.count_cons_eq,Nat.add_comm]
     have hix:Lib.index (x::l) [x]=0:=by rw[Lib.index];simp[List.isPrefixOf]
     rw[Lib.splitK,hix,b_e,if_pos rfl,←ih]
     simp
   · rw[Lib.count_cons_ne x c l h,b_e,if_neg h,←ih]
     have hp:([c]:List UInt8).isPrefixOf (x::l) =false:=by simp[List.isPrefixOf,Ne.symm h]
     have hix:Lib.index (x::l) [c]=if Lib.index l [c] == -1 then -1 else Lib.index l [c] +1:=by rw[Lib.index,hp];simp
     by_cases hm:Lib.index l [c]= -1
     · rw[Lib.count_miss hm];rfl
     · have hge:=Lib.index_ge l [c]
       obtain ⟨j,hj⟩ :∃j:Nat,Lib.index l [c]=j:=⟨(Lib.index l [c]).toNat,by omega⟩
       rw[Lib.count_hit (by simp) hj,Nat.add_comm 1,Lib.splitK,Lib.splitK,hix,hj]
       have e1:((j:Int) == -1) =false:=beq_eq_false_iff_ne.2 (by omega)
       have e2:((j:Int) +1 == -1) =false:=beq_eq_false_iff_ne.2 (by omega)
       have e3:((j:Int) +1).toNat=j+1:=by omega
       simp only[e1,e2,e3,Bool.false_eq_true,if_false,Int.toNat_natCast]
       simp
theorem n_f (c:UInt8)(s:ByteArray) :(pieces c s).map (·.data.toList) =b_e c s.data.toList:=by
 unfold pieces;rw[Lib.splitB_data];exact y_2 c s.data.toList
theorem l_f {c:UInt8} :∀{l:List UInt8},c ∉ l→b_e c l=[l]
 | [],_=>rfl
 | x::l,h=>by
   rw[b_e,if_neg (fun e=>h (by simp[e])),l_f (fun e=>h (by simp[e]))];rfl
theorem l_h {c:UInt8}{r:List UInt8} :∀{l:List UInt8},c ∉ l→b_e c (l ++ c::r) =l::b_e c r
 | [],_=>by rw[List.nil_append,b_e,if_pos rfl]
 | x::l,h=>by
   rw[List.cons_append,b_e,if_neg (fun e=>h (by simp[e])),l_h (fun e=>h (by simp[e]))];rfl
def t_1 (c:UInt8) :List (List UInt8)→List UInt8
 | []=> []
 | [l]=>l
 | l::r=>l ++ c::t_1 c r
theorem k_l (c:UInt8)(l:List UInt8) :b_e c l≠[]:=by
 cases l with
 | nil=>simp[b_e]
 | cons x l=>rw[b_e];split <;> simp
theorem l_a {c:UInt8}{l:List UInt8}{r:List (List UInt8)}(h:r≠[]) :t_1 c (l::r) =l ++ c::t_1 c r:=by
 cases r with
 | nil=>exact absurd rfl h
 | cons _ _=>rfl
theorem l_i (c:UInt8) :∀l:List UInt8,t_1 c (b_e c l) =l
 | []=>rfl
 | x::l=>by
   have ih:=l_i c l
   rw[b_e]
   split
   · rename_i h
     rw[l_a (k_l c l),ih,h];rfl
   · cases hs:b_e c l with
     | nil=>exact absurd hs (k_l c l)
     | cons a t=>
       rw[hs] at ih
       cases t with
       | nil=>simp only[List.headD_cons,List.tail_cons];rw[←ih];rfl
       | cons b t=>simp only[List.headD_cons,List.tail_cons];rw[←ih];rfl
def e_r (ws:List (List UInt8)) :List UInt8:=(ws.map (32::·)).flatten
theorem g_3 (w:List UInt8)(ws:List (List UInt8)) :e_r (w::ws) =32:: (w ++ e_r ws):=rfl
theorem l_m (a b:List (List UInt8)) :e_r (a ++ b) =e_r a ++ e_r b:=by unfold e_r;rw[List.map_append,List.flatten_append]
theorem k_a:∀{ws:List (List UInt8)} {w:List UInt8},32 ∉ w→(∀x ∈ ws,32 ∉ x)→b_e 32 (w ++ e_r ws) =w::ws
 | [],w,h,_=>by show b_e 32 (w ++ []) =_;rw[List.append_nil];exact l_f h
 | x::ws,w,h,hx=>by rw[g_3,l_h h,k_a (hx x (by simp)) fun y hy=>hx y (by simp[hy])]
theorem q_s:∀(ws:List (List UInt8)) (w:List UInt8),t_1 32 (w::ws) =w ++ e_r ws
 | [],w=>(List.append_nil w).symm
 | x::ws,w=>by rw[l_a (by simp),q_s ws x,g_3]
theorem s_o (u:Nat) :∀c ∈ Lib.decDigits u,48≤c.toNat∧c.toNat≤57:=by
 induction u using Nat.strongRecOn with
 | ind u ih=>
   intro c hc
   have one:∀d,d < 10→c=UInt8.ofNat (48+d)→48≤c.toNat∧c.toNat≤57:=by
     intro d hd e
     subst e
     rw[UInt8.toNat_ofNat']
     omega
   rw[Lib.decDigits] at hc
   split at hc
   · rename_i h
     exact one u h (by simpa using hc)
   · rcases List.mem_append.1 hc with h | h
     · exact ih (u / 10) (by omega) c h
     · exact one (u % 10) (by omega) (by simpa using h)
theorem q_a {n:Int}{c:UInt8}(h:c ∈ Lib.itoa n) :c=45∨48≤c.toNat∧c.toNat≤57:=by
 unfold Lib.itoa at h
 split at h
 · rcases List.mem_cons.1 h with h | h
   · exact .inl h
   · exact .inr (s_o _ c h)
 · exact .inr (s_o _ c h)
theorem a_i6 (n:Int) :(32:UInt8) ∉ Lib.itoa n:=fun h=>by rcases q_a h with h | ⟨h,_⟩ <;> revert h <;> decide
theorem a_ja (n:Int) :(10:UInt8) ∉ Lib.itoa n:=fun h=>by rcases q_a h with h | ⟨h,_⟩ <;> revert h <;> decide
theorem a_iy (u:Nat) :∀r,u < 18446744073709551616→Lib.parseUint10 0 (Lib.decDigits u ++ r) =Lib.parseUint10 u r:=by
 induction u using Nat.strongRecOn with
 | ind u ih=>
   intro r hu
   have one:∀acc d,d < 10→acc < 1844674407370955162→acc * 10+d < 18446744073709551616→Lib.parseUint10 acc (UInt8.ofNat (48+d) ::r) =Lib.parseUint10 (acc * 10+d) r:=by
     intro acc d hd h1 h2
     have e:(UInt8.ofNat (48+d)).toNat=48+d:=by rw[UInt8.toNat_ofNat'];omega
     rw[Lib.parseUint10,e,if_pos (by omega),if_neg (by omega),if_neg (by omega)]
     congr 1;omega
   rw[Lib.decDigits]
   split
   · rename_i h
     show Lib.parseUint10 0 (UInt8.ofNat (48+u) ::r) =_
     rw[one 0 u h (by omega) (by omega)];congr 1;omega
   · rw[List.append_assoc,ih (u / 10) (by omega) _ (by omega)]
     show Lib.parseUint10 (u / 10) (UInt8.ofNat (48+u % 10) ::r) =_
     rw[one (u / 10) (u % 10) (by omega) (by omega) (by omega)]
     congr 1;omega
theorem a_kk (u:Nat) :Lib.decDigits u≠[]:=by rw[Lib.decDigits];split <;> simp
theorem y_w {n:Int}(h:i64 n) :e_u (Lib.itoa n) =(n,false):=by
 obtain ⟨h1,h2⟩:=h
 unfold e_u
 have key:Lib.atoiAll (Lib.itoa n) = .ok n:=by
   have mag:∀u,u < 18446744073709551616→Lib.parseMag (Lib.decDigits u) = .ok u:=fun u hu=>by
     unfold Lib.parseMag
     rw[if_neg (a_kk u)]
     have:=a_iy u [] hu
     rwa [List.append_nil] at this
   unfold Lib.itoa
   split
   · rename_i hn
     unfold Lib.atoiAll
     simp only
     rw[if_pos (Or.inr (by decide)),mag _ (by omega)]
     simp only
     have e:(45:UInt8).toNat=45:=by decide
     rw[if_neg (by omega),if_neg (by omega),if_pos e]
     congr 1;omega
   · rename_i hn
     cases hd:Lib.decDigits n.toNat with
     | nil=>exact absurd hd (a_kk _)
     | cons c r=>
       have hc:=s_o n.toNat c (by rw[hd];simp)
       unfold Lib.atoiAll
       simp only
       rw[if_neg (by omega),←hd,mag _ (by omega)]
       simp only
       rw[if_neg (by omega),if_neg (by omega),if_neg (by omega)]
       congr 1;omega
 rw[key]
theorem a_f8 {n:Int}(h:i64 n) :m_s (a_l (Lib.itoa n)) =true:=by
 show (!(e_u (Lib.itoa n)).2 && (Lib.itoa (e_u (Lib.itoa n)).1 == Lib.itoa n)) =true
 rw[y_w h];simp
theorem a_li {w:ByteArray}(h:m_s w=true) :w.data.toList=Lib.itoa (e_u w.data.toList).1:=by
 unfold m_s at h
 rw[Bool.and_eq_true] at h
 exact (eq_of_beq h.2).symm
end Go.Proofs.YtfdffboelecgoaaGreatDoor
end
section
set_option maxRecDepth 20000
namespace Go.Proofs.YtfdffboelecgoaaGreatDoor
open Go.Fw Go.Proofs
theorem f_u (s:ByteArray) :a_l s.data.toList=s:=by
 obtain ⟨⟨l⟩⟩:=s;rfl
theorem o_a (c:UInt8)(s:ByteArray) :pieces c s=(b_e c s.data.toList).map a_l:=by
 rw[←n_f,List.map_map]
 have e:(a_l ∘ fun x:ByteArray=>x.data.toList) =id:=funext f_u
 rw[e,List.map_id]
theorem k_4 (c:UInt8)(l:List UInt8) :pieces c (a_l l) =(b_e c l).map a_l:=o_a c (a_l l)
def h_g (l:List Int) :List ByteArray:=l.map fun n=>a_l (Lib.itoa n)
theorem a_fi {n:Int}(h:i64 n)(ws:List ByteArray)(b:Bool) :a_j (a_l (Lib.itoa n) ::ws,b) =(n,(ws,b)):=by
 have h1:(e_u (a_l (Lib.itoa n)).data.toList).1=n:=by show (e_u (Lib.itoa n)).1=n;rw[y_w h]
 unfold a_j
 simp only[List.headD_cons,List.tail_cons,List.isEmpty_cons,Bool.or_false]
 rw[h1,a_f8 h];simp
theorem i_n {n:Int}(h:i64 n)(l:List Int)(ws:List ByteArray)(b:Bool) :a_j (h_g (n::l) ++ ws,b) =(n,(h_g l ++ ws,b)):=a_fi h _ b
theorem a_k1 (ws:List ByteArray) :h_g [] ++ ws=ws:=rfl
theorem f_r (w:List UInt8)(ns:List Int) :b_m w ns=w ++ e_r (ns.map Lib.itoa):=by
 unfold b_m e_r;rw[List.map_map];rfl
theorem x_a (ns:List Int) :∀x ∈ ns.map Lib.itoa,(32:UInt8) ∉ x:=fun x hx=>by
 obtain ⟨n,_,rfl⟩:=List.mem_map.1 hx;exact a_i6 n
theorem i_v {w:List UInt8}(hw:32 ∉ w)(ns:List Int) :pieces 32 (a_l (b_m w ns)) =a_l w:: (h_g ns ++ []):=by
 rw[k_4,f_r,k_a hw (x_a ns),List.map_cons,List.map_map,List.append_nil];rfl
theorem a_ex (c:Cf){s:Sec}(h:i64 s.Kind∧i64 s.OC∧i64 s.Line) :b_3 c (pieces 32 (a_l (b_m wSec [s.Kind,s.OC,s.Line])),false) =(1,{ c with Secs:=c.Secs ++ [s] },([],false)):=by
 rw[i_v (by decide)]
 unfold b_3
 simp only[a_3,List.headD_cons,List.tail_cons,List.isEmpty_cons,Bool.or_false]
 rw[if_pos (show (a_l wSec).data.toList=wSec from rfl),i_n h.1,i_n h.2.1,i_n h.2.2];rfl
theorem a_hh (c:Cf){s:Jt}(h:i64 s.A∧i64 s.AEnd∧i64 s.B∧i64 s.BEnd) :b_3 c (pieces 32 (a_l (b_m wJt [s.A,s.AEnd,s.B,s.BEnd])),false) =(2,{ c with Jts:=c.Jts ++ [s] },([],false)):=by
 rw[i_v (by decide)]
 unfold b_3
 simp only[a_3,List.headD_cons,List.tail_cons,List.isEmpty_cons,Bool.or_false]
 rw[if_neg (show ¬(a_l wJt).data.toList=wSec from (by decide:¬wJt=wSec)),if_pos (show (a_l wJt).data.toList=wJt from rfl),i_n h.1,i_n h.2.1,i_n h.2.2.1,i_n h.2.2.2];rfl
theorem a_gu (c:Cf){s:Sg}(h:i64 s.Sec∧i64 s.End_) :b_3 c (pieces 32 (a_l (b_m wSg [s.Sec,s.End_])),false) =(3,{ c with Sigs:=c.Sigs ++ [s] },([],false)):=by
 rw[i_v (by decide)]
 unfold b_3
 simp only[a_3,List.headD_cons,List.tail_cons,List.isEmpty_cons,Bool.or_false]
 rw[if_neg (show ¬(a_l wSg).data.toList=wSec from (by decide:¬wSg=wSec)),if_neg (show ¬(a_l wSg).data.toList=wJt from (by decide:¬wSg=wJt)),if_pos (show (a_l wSg).data.toList=wSg from rfl),i_n h.1,i_n h.2];rfl
theorem a_lo (c:Cf){s:Int}(h:i64 s) :b_3 c (pieces 32 (a_l (b_m wX [s])),false) =(4,{ c with Xs:=c.Xs ++ [s] },([],false)):=by
 rw[i_v (by decide)]
 unfold b_3
 simp only[a_3,List.headD_cons,List.tail_cons,List.isEmpty_cons,Bool.or_false]
 rw[if_neg (show ¬(a_l wX).data.toList=wSec from (by decide:¬wX=wSec)),if_neg (show ¬(a_l wX).data.toList=wJt from (by decide:¬wX=wJt)),if_neg (show ¬(a_l wX).data.toList=wSg from (by decide:¬wX=wSg)),if_pos (show (a_l wX).data.toList=wX from rfl),i_n h];rfl
theorem a_eq (c:Cf){d:Cf}(h:i64 d.Age∧i64 d.Brake∧i64 d.Hold∧i64 d.Budget) :b_3 c (pieces 32 (a_l (b_m wTim [d.Age,d.Brake,d.Hold,d.Budget])),false) =(6,{ c with Age:=d.Age,Brake:=d.Brake,Hold:=d.Hold,Budget:=d.Budget },([],false)):=by
 rw[i_v (by decide)]
 unfold b_3
 simp only[a_3,List.headD_cons,List.tail_cons,List.isEmpty_cons,Bool.or_false]
 rw[if_neg (show ¬(a_l wTim).data.toList=wSec from (by decide:¬wTim=wSec)),if_neg (show ¬(a_l wTim).data.toList=wJt from (by decide:¬wTim=wJt)),if_neg (show ¬(a_l wTim).data.toList=wSg from (by decide:¬wTim=wSg)),if_neg (show ¬(a_l wTim).data.toList=wX from (by decide:¬wTim=wX)),if_neg (show ¬(a_l wTim).data.toList=wRoute from (by decide:¬wTim=wRoute)),if_pos (show (a_l wTim).data.toList=wTim from rfl),i_n h.1,i_n h.2.1,i_n h.2.2.1,i_n h.2.2.2];rfl
theorem p_2 {α β:Type}{word:List UInt8}{step:α→Ws→α × Ws}{enc:β→List ByteArray}{f:α→β→α}{tl:List ByteArray}
   (ht:b_a word (tl,false) =false) :∀(bs:List β) (n:Nat) (x:α),bs.length≤n→(∀b ∈ bs,∀x ws,step x (enc b ++ ws,false) =(f x b,(ws,false))∧b_a word (enc b ++ ws,false) =true)→
     c_v word step n x ((bs.map enc).flatten ++ tl,false) =(bs.foldl f x,(tl,false))
 | [],0,x,_,_=>rfl
 | [],n+1,x,_,_=>by
   show (if b_a word (tl,false) then _ else (x,(tl,false))) =_
   rw[ht];rfl
 | b::bs,0,x,h,_=>by simp at h
 | b::bs,n+1,x,h,hs=>by
   obtain ⟨h1,h2⟩:=hs b (by simp) x ((bs.map enc).flatten ++ tl)
   rw[List.map_cons,List.flatten_cons,List.append_assoc,c_v,if_pos h2,h1]
   exact p_2 ht bs n (f x b) (by simpa using h) fun b hb=>hs b (by simp[hb])
theorem x_j {α β:Type}{word:List UInt8}{step:α→Ws→α × Ws}{enc:β→List ByteArray}{f:α→β→α}{tl:List ByteArray}(hw:word.isEmpty=false)(bs:List β)(x:α)
   (hl:∀b ∈ bs,1≤(enc b).length) (hs:∀b ∈ bs,∀x ws,step x (enc b ++ ws,false) =(f x b,(ws,false))∧b_a word (enc b ++ ws,false) =true) :
   a_8 word step x ((bs.map enc).flatten ++ a_l word::tl,false) =(bs.foldl f x,(tl,false)):=by
 have hlen:bs.length≤((bs.map enc).flatten ++ a_l word::tl).length:=by
   rw[List.length_append]
   have:∀l:List β,(∀b ∈ l,1≤(enc b).length)→l.length≤(l.map enc).flatten.length:=by
     intro l
     induction l with
     | nil=>intro _;simp
     | cons b l ih=>intro h;have h1:=h b (by simp);have h2:=ih fun b hb=>h b (by simp[hb]);simp only[List.map_cons,List.flatten_cons,List.length_append,List.length_cons];omega
   have:=this bs hl
   omega
 have hm:b_a word (a_l word::tl,false) =false:=by
   unfold b_a
   simp[hw]
   rfl
 unfold a_8
 rw[p_2 hm bs _ x hlen hs,hw]
 simp[a_3]
 rfl
theorem a_gr {α β:Type}{step:α→Ws→α × Ws}{enc:β→List ByteArray}{f:α→β→α}(bs:List β)(x:α)
   (hl:∀b ∈ bs,1≤(enc b).length) (hs:∀b ∈ bs,∀x ws,step x (enc b ++ ws,false) =(f x b,(ws,false))∧b_a [] (enc b ++ ws,false) =true) :
   a_8 [] step x ((bs.map enc).flatten,false) =(bs.foldl f x,([],false)):=by
 have hlen:bs.length≤((bs.map enc).flatten).length:=by
   have:∀l:List β,(∀b ∈ l,1≤(enc b).length)→l.length≤(l.map enc).flatten.length:=by
     intro l
     induction l with
     | nil=>intro _;simp
     | cons b l ih=>intro h;have h1:=h b (by simp);have h2:=ih fun b hb=>h b (by simp[hb]);simp only[List.map_cons,List.flatten_cons,List.length_append,List.length_cons];omega
   exact this bs hl
 have:=p_2 (word:= []) (tl:= []) rfl bs _ x hlen hs
 rw[List.append_nil] at this
 unfold a_8
 simp only[List.isEmpty_nil,if_true]
 exact this
theorem a_g2 {n:Int}{w:List UInt8}(hw:w.head?.all (fun c=>c != 45 && decide (57 < c.toNat)) =true)(h:w≠[]) :Lib.itoa n≠w:=fun e=>by
 cases w with
 | nil=>exact h rfl
 | cons c r=>
   have hc:=q_a (n:=n) (c:=c) (by rw[e];simp)
   simp only[List.head?_cons,Option.all_some,Bool.and_eq_true,bne_iff_ne,decide_eq_true_eq] at hw
   rcases hc with hc | hc
   · exact hw.1 hc
   · omega
theorem w_1 {n:Int}{word:List UInt8}(hw:word=[]∨Lib.itoa n≠word)(l:List Int)(ws:List ByteArray) :b_a word (h_g (n::l) ++ ws,false) =true:=by
 unfold b_a h_g
 rcases hw with rfl | h
 · simp
 · simp only[List.map_cons,List.cons_append,List.isEmpty_cons,List.headD_cons,Bool.not_false,Bool.true_and]
   have:((a_l (Lib.itoa n)).data.toList == word) =false:=by
     show (Lib.itoa n == word) =false
     exact beq_eq_false_iff_ne.2 h
   rw[this];simp
def a_hu (l:List Int) :List (List UInt8):=l.map Lib.itoa
def rtW (x:Rt) :List (List UInt8):=a_hu [x.Entry,x.Exit,if x.Shunt then 1 else 0] ++ wPath.drop 1:: ((x.Path.map fun s=> [s.Sec,s.In,s.Out].map Lib.itoa).flatten ++ wFlank.drop 1:: ((x.Flank.map fun s=> [s.Sec,s.Pos].map Lib.itoa).flatten ++ wOver.drop 1::x.Overlap.map Lib.itoa))
theorem v_z {α:Type}(f:α→List Int)(l:List α) :cat (fun s=>b_m [] (f s)) l=e_r (l.map fun s=>(f s).map Lib.itoa).flatten:=by
 induction l with
 | nil=>rfl
 | cons a l ih=>
   have e:cat (fun s=>b_m [] (f s)) (a::l) =b_m [] (f a) ++ cat (fun s=>b_m [] (f s)) l:=rfl
   rw[e,ih,f_r,List.map_cons,List.flatten_cons,l_m,List.nil_append]
theorem a_e2 (x:Rt) :rtL x=wRoute ++ e_r (rtW x) ++ [10]:=by
 have e1:cat stL x.Path=e_r (x.Path.map fun s=> [s.Sec,s.In,s.Out].map Lib.itoa).flatten:=v_z _ _
 have e2:cat ndL x.Flank=e_r (x.Flank.map fun s=> [s.Sec,s.Pos].map Lib.itoa).flatten:=v_z _ _
 unfold rtL rtW d_p
 rw[e1,e2,f_r,f_r,l_m,g_3,l_m,g_3,l_m,g_3]
 have e0: [x.Entry,x.Exit,if x.Shunt then 1 else 0].map Lib.itoa=a_hu [x.Entry,x.Exit,if x.Shunt then 1 else 0]:=rfl
 rw[e0]
 have f1:∀l,wPath ++ l=32:: (wPath.drop 1 ++ l):=fun _=>rfl
 have f2:∀l,wFlank ++ l=32:: (wFlank.drop 1 ++ l):=fun _=>rfl
 have f3:∀l,wOver ++ l=32:: (wOver.drop 1 ++ l):=fun _=>rfl
 simp only[List.append_assoc,f1,f2,f3,List.map_cons,List.map_nil,List.cons_append]
theorem a_kf (x:Rt) :∀w ∈ rtW x,(32:UInt8) ∉ w:=by
 intro w hw
 have it:∀{l:List Int},w ∈ l.map Lib.itoa→(32:UInt8) ∉ w:=fun h=>x_a _ _ h
 unfold rtW at hw
 rcases List.mem_append.1 hw with h | h
 · exact it (l:= [x.Entry,x.Exit,if x.Shunt then 1 else 0]) h
 rcases List.mem_cons.1 h with h | h
 · rw[h];decide
 rcases List.mem_append.1 h with h | h
 · obtain ⟨l,hl,h⟩:=List.mem_flatten.1 h
   obtain ⟨s,_,rfl⟩:=List.mem_map.1 hl
   exact it h
 rcases List.mem_cons.1 h with h | h
 · rw[h];decide
 rcases List.mem_append.1 h with h | h
 · obtain ⟨l,hl,h⟩:=List.mem_flatten.1 h
   obtain ⟨s,_,rfl⟩:=List.mem_map.1 hl
   exact it h
 rcases List.mem_cons.1 h with h | h
 · rw[h];decide
 · exact it h
theorem r_5 {α:Type}(f:α→List Int)(l:List α) :((l.map fun s=>(f s).map Lib.itoa).flatten).map a_l=(l.map fun s=>h_g (f s)).flatten:=by
 rw[List.map_flatten,List.map_map]
 congr 1
 apply List.map_congr_left
 intro s _
 show ((f s).map Lib.itoa).map a_l=h_g (f s)
 rw[List.map_map];rfl
theorem y_9 (bs:List St)(x:Rt) :bs.foldl (fun x s=> { x with Path:=x.Path ++ [s] }) x= { x with Path:=x.Path ++ bs } :=by
 induction bs generalizing x with
 | nil=>simp
 | cons b bs ih=>rw[List.foldl_cons,ih];simp
theorem x_k (bs:List Nd)(x:Rt) :bs.foldl (fun x s=> { x with Flank:=x.Flank ++ [s] }) x= { x with Flank:=x.Flank ++ bs } :=by
 induction bs generalizing x with
 | nil=>simp
 | cons b bs ih=>rw[List.foldl_cons,ih];simp
theorem z_e (bs:List Int)(x:Rt) :bs.foldl (fun x s=> { x with Overlap:=x.Overlap ++ [s] }) x= { x with Overlap:=x.Overlap ++ bs } :=by
 induction bs generalizing x with
 | nil=>simp
 | cons b bs ih=>rw[List.foldl_cons,ih];simp
theorem a_b0 {x:Rt}(h:l_o x) :b_p ((rtW x).map a_l,false) =(x,([],false)):=by
 obtain ⟨h1,h2,h3,h4,h5⟩:=h
 have hsh:i64 (if x.Shunt then 1 else 0):=by split <;> exact ⟨by decide,by decide⟩
 have e:(rtW x).map a_l=h_g [x.Entry,x.Exit,if x.Shunt then 1 else 0] ++ a_l (wPath.drop 1) :: ((x.Path.map fun s=>h_g [s.Sec,s.In,s.Out]).flatten ++ a_l (wFlank.drop 1) :: ((x.Flank.map fun s=>h_g [s.Sec,s.Pos]).flatten ++ a_l (wOver.drop 1) :: (x.Overlap.map fun s=>h_g [s]).flatten)):=by
   have e1:=r_5 (fun s:St=> [s.Sec,s.In,s.Out]) x.Path
   have e2:=r_5 (fun s:Nd=> [s.Sec,s.Pos]) x.Flank
   have e3:(x.Overlap.map Lib.itoa).map a_l=(x.Overlap.map fun s=>h_g [s]).flatten:=by
     rw[List.map_map]
     generalize x.Overlap=l
     induction l with
     | nil=>rfl
     | cons a l ih=>rw[List.map_cons,ih];rfl
   have e4:(a_hu [x.Entry,x.Exit,if x.Shunt then 1 else 0]).map a_l=h_g [x.Entry,x.Exit,if x.Shunt then 1 else 0]:=rfl
   unfold rtW
   rw[List.map_append,List.map_cons,List.map_append,List.map_cons,List.map_append,List.map_cons,e1,e2,e3,e4]
 rw[e]
 unfold b_p
 have n32:∀n:Int,Lib.itoa n≠wFlank.drop 1:=fun n=>a_g2 (by decide) (by decide)
 have n33:∀n:Int,Lib.itoa n≠wOver.drop 1:=fun n=>a_g2 (by decide) (by decide)
 simp only[i_n h1,i_n h2,i_n hsh,a_k1]
 have hb:(false || !(decide (0≤(if x.Shunt then (1:Int) else 0)) && decide ((if x.Shunt then (1:Int) else 0)≤1))) =false:=by cases x.Shunt <;> rfl
 rw[hb]
 simp only[a_3,List.headD_cons,List.tail_cons,Bool.false_eq_true,if_false]
 have hp:(!((a_l (wPath.drop 1)).data.toList == [112,97,116,104])) =false:=by decide
 rw[hp,x_j (f:=fun (x:Rt) s=> { x with Path:=x.Path ++ [s] }) rfl x.Path _ (fun b hb=>by simp[h_g]) (fun b hb y ws=>?_),y_9]
 · simp only
   rw[x_j (f:=fun (x:Rt) s=> { x with Flank:=x.Flank ++ [s] }) rfl x.Flank _ (fun b hb=>by simp[h_g]) (fun b hb y ws=>?_),x_k]
   · simp only
     rw[a_gr (f:=fun (x:Rt) s=> { x with Overlap:=x.Overlap ++ [s] }) x.Overlap _ (fun b hb=>by simp[h_g]) (fun b hb y ws=>?_),z_e]
     · have:((if x.Shunt then (1:Int) else 0) == 1) =x.Shunt:=by cases x.Shunt <;> rfl
       rw[this];rfl
     · exact ⟨by unfold b_2;rw[i_n (h5 b hb)];rfl,w_1 (.inl rfl) _ _⟩
   · obtain ⟨g1,g2⟩:=h4 b hb
     exact ⟨by unfold b_u;simp only[i_n g1,i_n g2];rfl,w_1 (.inr (n33 _)) _ _⟩
 · obtain ⟨g1,g2,g3⟩:=h3 b hb
   exact ⟨by unfold b_s;simp only[i_n g1,i_n g2,i_n g3];rfl,w_1 (.inr (n32 _)) _ _⟩
def rtT (x:Rt) :List UInt8:=wRoute ++ e_r (rtW x)
theorem a_hi (c:Cf){x:Rt}(h:l_o x) :b_3 c (pieces 32 (a_l (rtT x)),false) =(5,{ c with Rts:=c.Rts ++ [x] },([],false)):=by
 unfold rtT
 rw[k_4,k_a (by decide) (a_kf x),List.map_cons]
 unfold b_3
 simp only[a_3,List.headD_cons,List.tail_cons,List.isEmpty_cons,Bool.or_false]
 rw[if_neg (show ¬(a_l wRoute).data.toList=wSec from (by decide:¬wRoute=wSec)),if_neg (show ¬(a_l wRoute).data.toList=wJt from (by decide:¬wRoute=wJt)),if_neg (show ¬(a_l wRoute).data.toList=wSg from (by decide:¬wRoute=wSg)),if_neg (show ¬(a_l wRoute).data.toList=wX from (by decide:¬wRoute=wX)),if_pos (show (a_l wRoute).data.toList=wRoute from rfl),a_b0 h]
end Go.Proofs.YtfdffboelecgoaaGreatDoor
end
section
set_option maxRecDepth 20000
namespace Go.Proofs.YtfdffboelecgoaaGreatDoor
open Go.Fw Go.Proofs
def secT (s:Sec) :List UInt8:=b_m wSec [s.Kind,s.OC,s.Line]
def jtT (s:Jt) :List UInt8:=b_m wJt [s.A,s.AEnd,s.B,s.BEnd]
def sgT (s:Sg) :List UInt8:=b_m wSg [s.Sec,s.End_]
def xT (s:Int) :List UInt8:=b_m wX [s]
def u_n (c:Cf) :List UInt8:=b_m wTim [c.Age,c.Brake,c.Hold,c.Budget]
def g_u (c:Cf) :List (List UInt8):=c.Secs.map secT ++ c.Jts.map jtT ++ c.Sigs.map sgT ++ c.Xs.map xT ++ c.Rts.map rtT
theorem k_5 {α:Type}(f:α→List UInt8)(l:List α) :cat (fun s=>f s ++ [10]) l=((l.map f).map (· ++ [10])).flatten:=by
 unfold cat;rw[List.map_map];rfl
theorem a_it (l:List (List UInt8))(t:List UInt8) :t_1 10 (l ++ [t]) =(l.map (· ++ [10])).flatten ++ t:=by
 induction l with
 | nil=>rfl
 | cons a l ih=>rw[List.cons_append,l_a (by simp),ih];simp
theorem n_0 (c:Cf) :c_b c=t_1 10 (g_u c ++ [u_n c]) ++ [10]:=by
 rw[a_it]
 have e5:cat rtL c.Rts=((c.Rts.map rtT).map (· ++ [10])).flatten:=by
   rw[←k_5]
   have:rtL=fun s=>rtT s ++ [10]:=funext fun x=>a_e2 x
   rw[this]
 unfold c_b g_u
 rw[e5,show cat g_p c.Secs=_ from k_5 secT c.Secs,show cat jtL c.Jts=_ from k_5 jtT c.Jts,show cat sgL c.Sigs=_ from k_5 sgT c.Sigs,show cat xL c.Xs=_ from k_5 xT c.Xs]
 simp only[List.map_append,List.flatten_append,List.append_assoc]
 rfl
theorem a_dz {w:List UInt8}(hw:(10:UInt8) ∉ w)(ws:List (List UInt8))(h:∀x ∈ ws,(10:UInt8) ∉ x) :(10:UInt8) ∉ w ++ e_r ws:=by
 intro hm
 rcases List.mem_append.1 hm with hm | hm
 · exact hw hm
 · obtain ⟨l,hl,hm⟩:=List.mem_flatten.1 hm
   obtain ⟨x,hx,rfl⟩:=List.mem_map.1 hl
   rcases List.mem_cons.1 hm with e | hm
   · revert e;decide
   · exact h x hx hm
theorem v_5 (ns:List Int) :∀x ∈ ns.map Lib.itoa,(10:UInt8) ∉ x:=fun x hx=>by
 obtain ⟨n,_,rfl⟩:=List.mem_map.1 hx;exact a_ja n
theorem k_t {w:List UInt8}(hw:(10:UInt8) ∉ w)(ns:List Int) :(10:UInt8) ∉ b_m w ns:=by
 rw[f_r];exact a_dz hw _ (v_5 ns)
theorem a_ke (x:Rt) :∀w ∈ rtW x,(10:UInt8) ∉ w:=by
 intro w hw
 have it:∀{l:List Int},w ∈ l.map Lib.itoa→(10:UInt8) ∉ w:=fun h=>v_5 _ _ h
 unfold rtW at hw
 rcases List.mem_append.1 hw with h | h
 · exact it (l:= [x.Entry,x.Exit,if x.Shunt then 1 else 0]) h
 rcases List.mem_cons.1 h with h | h
 · rw[h];decide
 rcases List.mem_append.1 h with h | h
 · obtain ⟨l,hl,h⟩:=List.mem_flatten.1 h
   obtain ⟨s,_,rfl⟩:=List.mem_map.1 hl
   exact it h
 rcases List.mem_cons.1 h with h | h
 · rw[h];decide
 rcases List.mem_append.1 h with h | h
 · obtain ⟨l,hl,h⟩:=List.mem_flatten.1 h
   obtain ⟨s,_,rfl⟩:=List.mem_map.1 hl
   exact it h
 rcases List.mem_cons.1 h with h | h
 · rw[h];decide
 · exact it h
theorem w_9 (c:Cf) :∀l ∈ g_u c ++ [u_n c],(10:UInt8) ∉ l:=by
 intro l hl
 unfold g_u at hl
 simp only[List.mem_append,List.mem_map,List.mem_singleton] at hl
 rcases hl with ((((⟨x,_,rfl⟩ | ⟨x,_,rfl⟩) | ⟨x,_,rfl⟩) | ⟨x,_,rfl⟩) | ⟨x,_,rfl⟩) | rfl
 · exact k_t (by decide) _
 · exact k_t (by decide) _
 · exact k_t (by decide) _
 · exact k_t (by decide) _
 · exact a_dz (by decide) _ (a_ke x)
 · exact k_t (by decide) _
theorem m_t:∀{ls:List (List UInt8)},ls≠[]→(∀l ∈ ls,(10:UInt8) ∉ l)→b_e 10 (t_1 10 ls) =ls
 | [],h,_=>absurd rfl h
 | [l],_,h=>l_f (h l (by simp))
 | l::m::r,_,h=>by
   rw[l_a (by simp),l_h (h l (by simp)),m_t (by simp) fun x hx=>h x (by simp[hx])]
theorem a_df (l:List UInt8)(c:UInt8) :s_9 c (a_l (l ++ [c])) =true:=by
 have hs:(a_l (l ++ [c])).size=l.length+1:=by rw[f_t,List.length_append];rfl
 unfold s_9
 rw[Lib.toList_data,Lib.toList_data,Lib.extract_data,hs]
 simp[a_l]
theorem a_fy (l:List UInt8)(c:UInt8) :c_x c (a_l (l ++ [c])) =a_l l:=by
 have hs:(a_l (l ++ [c])).size=l.length+1:=by rw[f_t,List.length_append];rfl
 unfold c_x
 rw[a_df,if_pos rfl,hs]
 rw[←f_u ((a_l (l ++ [c])).extract 0 (l.length+1 - 1)),Lib.extract_data]
 congr 1
 simp[a_l]
theorem f_q {β:Type}{txt:β→List UInt8}{k:Int}{add:Cf→β→Cf}(hk:k≠6)(rest:List ByteArray) :∀(bs:List β),(∀b ∈ bs,∀c,b_3 c (pieces 32 (a_l (txt b)),false) =(k,add c b,([],false)))→
   ∀(c:Cf) (last:Int),last≤k→∃last',last'≤k∧c_4 ((bs.map txt).map a_l ++ rest) c last=c_4 rest (bs.foldl add c) last'
 | [],_,c,last,hl=>⟨last,hl,rfl⟩
 | b::bs,hb,c,last,hl=>by
   obtain ⟨last',h1,h2⟩:=f_q hk rest bs (fun x hx=>hb x (by simp[hx])) (add c b) k (Int.le_refl _)
   refine ⟨last',h1,?_⟩
   rw[List.foldl_cons,←h2,List.map_cons,List.map_cons,List.cons_append,c_4,hb b (by simp) c]
   have e1:decide (k < last) =false:=decide_eq_false (by omega)
   have e2:(k == 6) =false:=beq_eq_false_iff_ne.2 hk
   simp only[e1,e2,List.isEmpty_nil,Bool.not_true,Bool.and_false,Bool.or_false,Bool.false_eq_true,if_false]
theorem z_a (bs:List Sec)(c:Cf) :bs.foldl (fun c s=> { c with Secs:=c.Secs ++ [s] }) c= { c with Secs:=c.Secs ++ bs } :=by
 induction bs generalizing c with
 | nil=>simp
 | cons b bs ih=>rw[List.foldl_cons,ih];simp
theorem a_c0 (bs:List Jt)(c:Cf) :bs.foldl (fun c s=> { c with Jts:=c.Jts ++ [s] }) c= { c with Jts:=c.Jts ++ bs } :=by
 induction bs generalizing c with
 | nil=>simp
 | cons b bs ih=>rw[List.foldl_cons,ih];simp
theorem z_n (bs:List Sg)(c:Cf) :bs.foldl (fun c s=> { c with Sigs:=c.Sigs ++ [s] }) c= { c with Sigs:=c.Sigs ++ bs } :=by
 induction bs generalizing c with
 | nil=>simp
 | cons b bs ih=>rw[List.foldl_cons,ih];simp
theorem a_hp (bs:List Int)(c:Cf) :bs.foldl (fun c s=> { c with Xs:=c.Xs ++ [s] }) c= { c with Xs:=c.Xs ++ bs } :=by
 induction bs generalizing c with
 | nil=>simp
 | cons b bs ih=>rw[List.foldl_cons,ih];simp
theorem a_dy (bs:List Rt)(c:Cf) :bs.foldl (fun c s=> { c with Rts:=c.Rts ++ [s] }) c= { c with Rts:=c.Rts ++ bs } :=by
 induction bs generalizing c with
 | nil=>simp
 | cons b bs ih=>rw[List.foldl_cons,ih];simp
theorem q_h {c:Cf}(h:cf64 c) :c_p (a_l (c_b c)) =some c:=by
 unfold c_p
 rw[n_0,a_df,a_fy,k_4,m_t (by simp) (w_9 c)]
 unfold g_u
 simp only[List.map_append,List.append_assoc]
 obtain ⟨l1,k1,e1⟩:=f_q (txt:=secT) (add:=fun (c:Cf) (s:Sec)=> { c with Secs:=c.Secs ++ [s] }) (k:=1) (by decide) ((c.Jts.map jtT).map a_l ++ ((c.Sigs.map sgT).map a_l ++ ((c.Xs.map xT).map a_l ++ ((c.Rts.map rtT).map a_l ++ [u_n c].map a_l)))) c.Secs (fun b hb d=>a_ex d (h.secs b hb)) d_i 0 (by decide)
 rw[e1]
 obtain ⟨l2,k2,e2⟩:=f_q (txt:=jtT) (add:=fun (c:Cf) (s:Jt)=> { c with Jts:=c.Jts ++ [s] }) (k:=2) (by decide) ((c.Sigs.map sgT).map a_l ++ ((c.Xs.map xT).map a_l ++ ((c.Rts.map rtT).map a_l ++ [u_n c].map a_l))) c.Jts (fun b hb d=>a_hh d (h.jts b hb)) (c.Secs.foldl (fun c s=> { c with Secs:=c.Secs ++ [s] }) d_i) l1 (by omega)
 rw[e2]
 obtain ⟨l3,k3,e3⟩:=f_q (txt:=sgT) (add:=fun (c:Cf) (s:Sg)=> { c with Sigs:=c.Sigs ++ [s] }) (k:=3) (by decide) ((c.Xs.map xT).map a_l ++ ((c.Rts.map rtT).map a_l ++ [u_n c].map a_l)) c.Sigs (fun b hb d=>a_gu d (h.sigs b hb)) (c.Jts.foldl (fun c s=> { c with Jts:=c.Jts ++ [s] }) (c.Secs.foldl (fun c s=> { c with Secs:=c.Secs ++ [s] }) d_i)) l2 (by omega)
 rw[e3]
 obtain ⟨l4,k4,e4⟩:=f_q (txt:=xT) (add:=fun (c:Cf) (s:Int)=> { c with Xs:=c.Xs ++ [s] }) (k:=4) (by decide) ((c.Rts.map rtT).map a_l ++ [u_n c].map a_l) c.Xs (fun b hb d=>a_lo d (h.xs b hb)) (c.Sigs.foldl (fun c s=> { c with Sigs:=c.Sigs ++ [s] }) (c.Jts.foldl (fun c s=> { c with Jts:=c.Jts ++ [s] }) (c.Secs.foldl (fun c s=> { c with Secs:=c.Secs ++ [s] }) d_i))) l3 (by omega)
 rw[e4]
 obtain ⟨l5,k5,e5⟩:=f_q (txt:=rtT) (add:=fun (c:Cf) (s:Rt)=> { c with Rts:=c.Rts ++ [s] }) (k:=5) (by decide) ([u_n c].map a_l) c.Rts (fun b hb d=>a_hi d (h.rts b hb)) (c.Xs.foldl (fun c s=> { c with Xs:=c.Xs ++ [s] }) (c.Sigs.foldl (fun c s=> { c with Sigs:=c.Sigs ++ [s] }) (c.Jts.foldl (fun c s=> { c with Jts:=c.Jts ++ [s] }) (c.Secs.foldl (fun c s=> { c with Secs:=c.Secs ++ [s] }) d_i)))) l4 (by omega)
 rw[e5,z_a,a_c0,z_n,a_hp,a_dy]
 rw[List.map_cons,List.map_nil,c_4,show u_n c=b_m wTim [c.Age,c.Brake,c.Hold,c.Budget] from rfl,a_eq _ (d:=c) h.tim]
 have q1:decide ((6:Int) < l5) =false:=decide_eq_false (by omega)
 have q2:((6:Int) == l5) =false:=beq_eq_false_iff_ne.2 (by omega)
 simp only[q1,q2,List.isEmpty_nil,Bool.not_true,Bool.false_and,Bool.or_false,Bool.false_eq_true,if_false,c_4,d_i,List.nil_append]
 rfl
end Go.Proofs.YtfdffboelecgoaaGreatDoor
end
section
set_option maxRecDepth 20000
namespace Go.Proofs.YtfdffboelecgoaaGreatDoor
open Go.Fw Go.Proofs
theorem b_i {s:Ws}(h:(a_j s).2.2=false) :s.2=false∧s.1=a_l (Lib.itoa (a_j s).1) :: (a_j s).2.1∧i64 (a_j s).1:=by
 obtain ⟨ws,b⟩:=s
 have h:(b || ws.isEmpty || !m_s (ws.headD (a_l []))) =false:=h
 simp only[Bool.or_eq_false_iff,Bool.not_eq_false'] at h
 obtain ⟨⟨h1,h2⟩,h3⟩:=h
 cases ws with
 | nil=>cases h2
 | cons w ws=>
   refine ⟨h1,?_,e_y _⟩
   show w::ws=a_l (Lib.itoa (e_u w.data.toList).1) ::ws
   have h3:m_s w=true:=h3
   rw[←a_li h3,f_u]
theorem q_m {s:Ws}(h:(a_3 s).2.2=false) :s.2=false∧s.1=(a_3 s).1:: (a_3 s).2.1:=by
 obtain ⟨ws,b⟩:=s
 have h:(b || ws.isEmpty) =false:=h
 simp only[Bool.or_eq_false_iff] at h
 cases ws with
 | nil=>cases h.2
 | cons w ws=>exact ⟨h.1,rfl⟩
theorem q_c {α β:Type}{word:List UInt8}{step:α→Ws→α × Ws}{enc:β→List ByteArray}{f:α→β→α}{good:β→Prop}
   (hs:∀x s,(step x s).2.2=false→s.2=false∧∃b,s.1=enc b ++ (step x s).2.1∧(step x s).1=f x b∧good b) :
   ∀(n:Nat) (x:α) (s:Ws),(c_v word step n x s).2.2=false→s.2=false∧∃bs:List β,s.1=(bs.map enc).flatten ++ (c_v word step n x s).2.1∧(c_v word step n x s).1=bs.foldl f x∧∀b ∈ bs,good b
 | 0,x,s,h=>⟨h,[],rfl,rfl,fun b hb=>by simp at hb⟩
 | n+1,x,s,h=>by
   rw[c_v] at h ⊢
   split at h
   · rename_i hm
     rw[if_pos hm]
     obtain ⟨h1,bs,h2,h3,h4⟩:=q_c hs n _ _ h
     obtain ⟨g1,b,g2,g3,g4⟩:=hs x s h1
     refine ⟨g1,b::bs,?_,?_,fun c hc=>?_⟩
     · rw[List.map_cons,List.flatten_cons,List.append_assoc,←h2,←g2]
     · rw[h3,List.foldl_cons,g3]
     · rcases List.mem_cons.1 hc with rfl | hc
       · exact g4
       · exact h4 c hc
   · rename_i hm
     rw[if_neg hm]
     exact ⟨h,[],rfl,rfl,fun b hb=>by simp at hb⟩
theorem l_e {α β:Type}{word:List UInt8}{step:α→Ws→α × Ws}{enc:β→List ByteArray}{f:α→β→α}{good:β→Prop}(hw:word.isEmpty=false)
   (hs:∀x s,(step x s).2.2=false→s.2=false∧∃b,s.1=enc b ++ (step x s).2.1∧(step x s).1=f x b∧good b) (x:α) (s:Ws) (h:(a_8 word step x s).2.2=false) :
   s.2=false∧∃bs:List β,s.1=(bs.map enc).flatten ++ a_l word:: (a_8 word step x s).2.1∧(a_8 word step x s).1=bs.foldl f x∧∀b ∈ bs,good b:=by
 unfold a_8 at h ⊢
 simp only[hw,Bool.false_eq_true,if_false,Bool.or_eq_false_iff,Bool.not_eq_false'] at h ⊢
 obtain ⟨h1,h2⟩:=q_m h.2
 obtain ⟨g1,bs,g2,g3,g4⟩:=q_c hs _ x s h1
 refine ⟨g1,bs,?_,g3,g4⟩
 have e:(a_3 (c_v word step s.1.length x s).2).1=a_l word:=by rw[←f_u (a_3 (c_v word step s.1.length x s).2).1,eq_of_beq h.1]
 rw[←e,←h2,←g2]
theorem y_g {α β:Type}{step:α→Ws→α × Ws}{enc:β→List ByteArray}{f:α→β→α}{good:β→Prop}
   (hs:∀x s,(step x s).2.2=false→s.2=false∧∃b,s.1=enc b ++ (step x s).2.1∧(step x s).1=f x b∧good b) (x:α) (s:Ws) (h:(a_8 [] step x s).2.2=false) :
   s.2=false∧∃bs:List β,s.1=(bs.map enc).flatten ++ (a_8 [] step x s).2.1∧(a_8 [] step x s).1=bs.foldl f x∧∀b ∈ bs,good b:=by
 unfold a_8 at h ⊢
 simp only[List.isEmpty_nil,if_true] at h ⊢
 exact q_c hs _ x s h
theorem p_7 (x:Rt)(s:Ws)(h:(b_s x s).2.2=false) :s.2=false∧∃b:St,s.1=h_g [b.Sec,b.In,b.Out] ++ (b_s x s).2.1∧(b_s x s).1= { x with Path:=x.Path ++ [b] }∧(i64 b.Sec∧i64 b.In∧i64 b.Out):=by
 obtain ⟨h1,e1,i1⟩:=b_i (s:=(a_j (a_j s).2).2) h
 obtain ⟨h2,e2,i2⟩:=b_i (s:=(a_j s).2) h1
 obtain ⟨h3,e3,i3⟩:=b_i h2
 refine ⟨h3,⟨(a_j s).1,(a_j (a_j s).2).1,(a_j (a_j (a_j s).2).2).1⟩,?_,rfl,i3,i2,i1⟩
 rw[e3,e2,e1];rfl
theorem p_t (x:Rt)(s:Ws)(h:(b_u x s).2.2=false) :s.2=false∧∃b:Nd,s.1=h_g [b.Sec,b.Pos] ++ (b_u x s).2.1∧(b_u x s).1= { x with Flank:=x.Flank ++ [b] }∧(i64 b.Sec∧i64 b.Pos):=by
 obtain ⟨h2,e2,i2⟩:=b_i (s:=(a_j s).2) h
 obtain ⟨h3,e3,i3⟩:=b_i h2
 refine ⟨h3,⟨(a_j s).1,(a_j (a_j s).2).1⟩,?_,rfl,i3,i2⟩
 rw[e3,e2];rfl
theorem p_g (x:Rt)(s:Ws)(h:(b_2 x s).2.2=false) :s.2=false∧∃b:Int,s.1=h_g [b] ++ (b_2 x s).2.1∧(b_2 x s).1= { x with Overlap:=x.Overlap ++ [b] }∧i64 b:=by
 obtain ⟨h3,e3,i3⟩:=b_i (s:=s) h
 refine ⟨h3,(a_j s).1,?_,rfl,i3⟩
 rw[e3];rfl
theorem a_i8 (l:List Int) :(l.map fun b=>h_g [b]).flatten=h_g l:=by
 induction l with
 | nil=>rfl
 | cons a l ih=>rw[List.map_cons,List.flatten_cons,ih];rfl
theorem t_z {s:Ws}(h:(b_p s).2.2=false) :s.2=false∧s.1=(rtW (b_p s).1).map a_l ++ (b_p s).2.1∧l_o (b_p s).1:=by
 obtain ⟨a,ea⟩ :∃a,a=a_j s:=⟨_,rfl⟩
 obtain ⟨b,eb⟩ :∃b,b=a_j a.2:=⟨_,rfl⟩
 obtain ⟨c,ec⟩ :∃c,c=a_j b.2:=⟨_,rfl⟩
 obtain ⟨w,ew⟩ :∃w:Ws,w=if c.2.2 || !(decide (0≤c.1) && decide (c.1≤1)) then (c.2.1,true) else ((a_3 c.2).2.1,!((a_3 c.2).1.data.toList == [112,97,116,104])):=⟨_,rfl⟩
 obtain ⟨r,er⟩ :∃r,r=a_8 (wFlank.drop 1) b_s ⟨a.1,b.1,[],[],[],c.1 == 1⟩ w:=⟨_,rfl⟩
 obtain ⟨q,eq⟩ :∃q,q=a_8 (wOver.drop 1) b_u r.1 r.2:=⟨_,rfl⟩
 have e:b_p s=a_8 [] b_2 q.1 q.2:=by
   unfold b_p
   simp only[←ea,←eb,←ec,←ew,←er,←eq]
 rw[e] at h ⊢
 obtain ⟨h1,os,o1,o2,o3⟩:=y_g (f:=fun (x:Rt) s=> { x with Overlap:=x.Overlap ++ [s] }) p_g q.1 q.2 h
 rw[eq] at h1
 obtain ⟨h2,ns,n1,n2,n3⟩:=l_e (f:=fun (x:Rt) s=> { x with Flank:=x.Flank ++ [s] }) (word:=wOver.drop 1) rfl p_t r.1 r.2 h1
 rw[er] at h2
 obtain ⟨h3,ps,p1,p2,p3⟩:=l_e (f:=fun (x:Rt) s=> { x with Path:=x.Path ++ [s] }) (word:=wFlank.drop 1) rfl p_7 _ w h2
 rw[←eq] at n1 n2
 rw[←er] at p1 p2
 rw[z_e] at o2
 rw[x_k] at n2
 rw[y_9] at p2
 have hc:c.2.2=false∧(0≤c.1∧c.1≤1)∧w=((a_3 c.2).2.1,false)∧(a_3 c.2).1=a_l (wPath.drop 1):=by
   rw[ew] at h3
   split at h3
   · cases h3
   · rename_i hn
     simp only[Bool.or_eq_true,Bool.not_eq_true',Bool.and_eq_false_iff,decide_eq_false_iff_not,not_or,Bool.not_eq_true,Decidable.not_not,Bool.not_eq_false'] at hn h3
     have hb:=eq_of_beq h3
     refine ⟨hn.1,⟨hn.2.1,hn.2.2⟩,?_,?_⟩
     · rw[ew,if_neg]
       · simp[hb]
       · simp[hn.1,hn.2.1,hn.2.2]
     · rw[←f_u (a_3 c.2).1,hb];rfl
 obtain ⟨k1,k2,k3,k4⟩:=hc
 obtain ⟨c1,c2,c3⟩:=b_i (s:=b.2) (by rw[←ec];exact k1)
 obtain ⟨d1,d2,d3⟩:=b_i (s:=a.2) (by rw[←eb];exact c1)
 obtain ⟨f1,f2,f3⟩:=b_i (s:=s) (by rw[←ea];exact d1)
 rw[←ec] at c2 c3
 rw[←eb] at d2 d3
 rw[←ea] at f2 f3
 have hx:(a_8 [] b_2 q.1 q.2).1=⟨a.1,b.1,ps,ns,os,c.1 == 1⟩:=by
   rw[o2,n2,p2];simp
 have hsh:(if (c.1 == 1) =true then (1:Int) else 0) =c.1:=by
   by_cases hh:c.1=1
   · rw[hh];rfl
   · rw[if_neg (by simpa using hh)];omega
 refine ⟨f1,?_,?_⟩
 · rw[hx]
   have m1:=r_5 (fun s:St=> [s.Sec,s.In,s.Out]) ps
   have m2:=r_5 (fun s:Nd=> [s.Sec,s.Pos]) ns
   have m3:(os.map Lib.itoa).map a_l=h_g os:=by rw[List.map_map];rfl
   have m4:(a_hu [a.1,b.1,if (c.1 == 1) =true then 1 else 0]).map a_l=h_g [a.1,b.1,c.1]:=by rw[hsh];rfl
   have g2:c.2.1=a_l (wPath.drop 1) ::w.1:=by
     rw[k3,←k4]
     cases hcs:c.2.1 with
     | nil=>
       have:(a_3 c.2).1=a_l []:=by unfold a_3;rw[hcs];rfl
       rw[this] at k4
       have:=congrArg (fun x:ByteArray=>x.data.toList) k4
       exact absurd this (by decide)
     | cons u us=>unfold a_3;rw[hcs];rfl
   unfold rtW
   rw[List.map_append,List.map_cons,List.map_append,List.map_cons,List.map_append,List.map_cons,m1,m2,m3,m4,←a_i8 os]
   simp only[List.append_assoc,List.cons_append]
   rw[←o1,←n1,←p1,←g2,f2,d2,c2]
   rfl
 · rw[hx]
   exact ⟨f3,d3,p3,n3,o3⟩
theorem w_z {l:ByteArray}{w:List UInt8}{ws:List (List UInt8)}(h:pieces 32 l=a_l w::ws.map a_l) :l.data.toList=w ++ e_r ws:=by
 have h1:=n_f 32 l
 rw[h,List.map_cons,List.map_map] at h1
 have h2:(ws.map ((fun x:ByteArray=>x.data.toList) ∘ a_l)) =ws:=by
   have:((fun x:ByteArray=>x.data.toList) ∘ a_l) =id:=funext fun x=>rfl
   rw[this,List.map_id]
 rw[h2] at h1
 have h3:=l_i 32 l.data.toList
 rw[←h1] at h3
 rw[←h3,q_s];rfl
inductive LnIs (c:Cf) (l:List UInt8) :Int→Cf→Prop
 | sec (s:Sec) (hl:l=secT s) (h:i64 s.Kind∧i64 s.OC∧i64 s.Line) :LnIs c l 1 { c with Secs:=c.Secs ++ [s] }
 | jt (s:Jt) (hl:l=jtT s) (h:i64 s.A∧i64 s.AEnd∧i64 s.B∧i64 s.BEnd) :LnIs c l 2 { c with Jts:=c.Jts ++ [s] }
 | sg (s:Sg) (hl:l=sgT s) (h:i64 s.Sec∧i64 s.End_) :LnIs c l 3 { c with Sigs:=c.Sigs ++ [s] }
 | x (s:Int) (hl:l=xT s) (h:i64 s) :LnIs c l 4 { c with Xs:=c.Xs ++ [s] }
 | rt (s:Rt) (hl:l=rtT s) (h:l_o s) :LnIs c l 5 { c with Rts:=c.Rts ++ [s] }
 | tim (a b d e:Int) (hl:l=b_m wTim [a,b,d,e]) (h:i64 a∧i64 b∧i64 d∧i64 e) :LnIs c l 6 { c with Age:=a,Brake:=b,Hold:=d,Budget:=e }
theorem a_gj (c:Cf)(l:ByteArray)(h:(b_3 c (pieces 32 l,false)).2.2.2=false)(he:(b_3 c (pieces 32 l,false)).2.2.1.isEmpty=true) :
   LnIs c l.data.toList (b_3 c (pieces 32 l,false)).1 (b_3 c (pieces 32 l,false)).2.1:=by
 obtain ⟨h0,eh⟩ :∃h0,h0=a_3 (pieces 32 l,false):=⟨_,rfl⟩
 unfold b_3 at h he ⊢
 simp only[←eh] at h he ⊢
 have head:∀{w:List UInt8},h0.1.data.toList=w→h0.2.2=false→pieces 32 l=a_l w::h0.2.1:=fun {w} hw hb=>by
   rw[eh] at hb
   obtain ⟨_,k⟩:=q_m hb
   rw[←eh] at k
   have k:pieces 32 l=h0.1::h0.2.1:=k
   rw[k,←hw,f_u]
 have fin:∀{w:List UInt8} {ns:List Int} {r:List ByteArray},h0.1.data.toList=w→h0.2.2=false→h0.2.1=h_g ns ++ r→r.isEmpty=true→l.data.toList=b_m w ns:=fun {w ns r} hw hb hn hr=>by
   have k:=head hw hb
   rw[hn,List.isEmpty_iff.1 hr,List.append_nil] at k
   rw[f_r]
   refine w_z (ws:=ns.map Lib.itoa) ?_
   rw[k,List.map_map];rfl
 split at h
 · rename_i hw
   rw[if_pos hw] at he ⊢
   obtain ⟨h1,e1,i1⟩:=b_i h
   obtain ⟨h2,e2,i2⟩:=b_i h1
   obtain ⟨h3,e3,i3⟩:=b_i h2
   exact .sec ⟨_,_,_⟩ (fin hw h3 (ns:= [_,_,_]) (by rw[e3,e2,e1];rfl) he) ⟨i3,i2,i1⟩
 rename_i n1
 rw[if_neg n1] at he ⊢
 split at h
 · rename_i hw
   rw[if_pos hw] at he ⊢
   obtain ⟨h0',e0,i0⟩:=b_i h
   obtain ⟨h1,e1,i1⟩:=b_i h0'
   obtain ⟨h2,e2,i2⟩:=b_i h1
   obtain ⟨h3,e3,i3⟩:=b_i h2
   exact .jt ⟨_,_,_,_⟩ (fin hw h3 (ns:= [_,_,_,_]) (by rw[e3,e2,e1,e0];rfl) he) ⟨i3,i2,i1,i0⟩
 rename_i n2
 rw[if_neg n2] at he ⊢
 split at h
 · rename_i hw
   rw[if_pos hw] at he ⊢
   obtain ⟨h2,e2,i2⟩:=b_i h
   obtain ⟨h3,e3,i3⟩:=b_i h2
   exact .sg ⟨_,_⟩ (fin hw h3 (ns:= [_,_]) (by rw[e3,e2];rfl) he) ⟨i3,i2⟩
 rename_i n3
 rw[if_neg n3] at he ⊢
 split at h
 · rename_i hw
   rw[if_pos hw] at he ⊢
   obtain ⟨h3,e3,i3⟩:=b_i h
   exact .x _ (fin hw h3 (ns:= [_]) (by rw[e3];rfl) he) i3
 rename_i n4
 rw[if_neg n4] at he ⊢
 split at h
 · rename_i hw
   rw[if_pos hw] at he ⊢
   obtain ⟨h3,e3,i3⟩:=t_z h
   refine .rt _ ?_ i3
   have k:=head hw h3
   rw[e3,List.isEmpty_iff.1 he,List.append_nil] at k
   exact w_z k
 rename_i n5
 rw[if_neg n5] at he ⊢
 split at h
 · rename_i hw
   rw[if_pos hw] at he ⊢
   obtain ⟨h0',e0,i0⟩:=b_i h
   obtain ⟨h1,e1,i1⟩:=b_i h0'
   obtain ⟨h2,e2,i2⟩:=b_i h1
   obtain ⟨h3,e3,i3⟩:=b_i h2
   exact .tim _ _ _ _ (fin hw h3 (ns:= [_,_,_,_]) (by rw[e3,e2,e1,e0];rfl) he) ⟨i3,i2,i1,i0⟩
 · cases h
end Go.Proofs.YtfdffboelecgoaaGreatDoor
end
section
set_option maxRecDepth 20000
namespace Go.Proofs.YtfdffboelecgoaaGreatDoor
open Go.Fw Go.Proofs
def i_j (c:Cf)(last:Int) :List (List UInt8):=g_u c ++ if last=6 then [u_n c] else []
structure Low (last:Int) (c:Cf) :Prop where
 jts:last < 2→c.Jts=[]
 sigs:last < 3→c.Sigs=[]
 xs:last < 4→c.Xs=[]
 rts:last < 5→c.Rts=[]
theorem t_u:∀(ls:List ByteArray) (c:Cf) (last:Int) (c':Cf) (last':Int),Low last c→cf64 c→c_4 ls c last=some (c',last')→i_j c' last'=i_j c last ++ ls.map (·.data.toList)∧Low last' c'∧cf64 c'
 | [],c,last,c',last',hl,h64,h=>by
   injection h with h;injection h with h1 h2;subst h1 h2
   exact ⟨by simp,hl,h64⟩
 | l::ls,c,last,c',last',hl,h64,h=>by
   rw[c_4] at h
   split at h
   · cases h
   · rename_i hn
     simp only[Bool.or_eq_true,Bool.not_eq_true',decide_eq_true_eq,Bool.and_eq_true,beq_iff_eq,not_or,Bool.not_eq_true,Bool.not_eq_false,not_and] at hn
     obtain ⟨⟨⟨g1,g2⟩,g3⟩,g4⟩:=hn
     have hln:=a_gj c l g1 g2
     generalize hk:(b_3 c (pieces 32 l,false)).1=k at *
     generalize hc:(b_3 c (pieces 32 l,false)).2.1=c1 at *
     have step:i_j c1 k=i_j c last ++ [l.data.toList]∧Low k c1∧cf64 c1:=by
       obtain ⟨s1,s2,s3,s4,s5,s6⟩:=h64
       cases hln with
       | sec s e hs=>
         have l6:last≠6:=by omega
         have a1:=hl.jts (by omega);have a2:=hl.sigs (by omega);have a3:=hl.xs (by omega);have a4:=hl.rts (by omega)
         refine ⟨?_,⟨fun _=>a1,fun _=>a2,fun _=>a3,fun _=>a4⟩,⟨fun x hx=>?_,s2,s3,s4,s5,s6⟩⟩
         · unfold i_j g_u
           simp only[a1,a2,a3,a4,if_neg l6,List.map_nil,List.append_nil,List.map_append,List.map_cons,e]
           rw[if_neg (by decide),List.append_nil]
         · rcases List.mem_append.1 hx with hx | hx
           · exact s1 x hx
           · rw[List.mem_singleton.1 hx];exact hs
       | jt s e hs=>
         have l6:last≠6:=by omega
         have a2:=hl.sigs (by omega);have a3:=hl.xs (by omega);have a4:=hl.rts (by omega)
         refine ⟨?_,⟨fun h=>by omega,fun _=>a2,fun _=>a3,fun _=>a4⟩,⟨s1,fun x hx=>?_,s3,s4,s5,s6⟩⟩
         · unfold i_j g_u
           simp only[a2,a3,a4,if_neg l6,List.map_nil,List.append_nil,List.map_append,List.map_cons,e,List.append_assoc]
           rw[if_neg (by decide),List.append_nil]
         · rcases List.mem_append.1 hx with hx | hx
           · exact s2 x hx
           · rw[List.mem_singleton.1 hx];exact hs
       | sg s e hs=>
         have l6:last≠6:=by omega
         have a3:=hl.xs (by omega);have a4:=hl.rts (by omega)
         refine ⟨?_,⟨fun h=>by omega,fun h=>by omega,fun _=>a3,fun _=>a4⟩,⟨s1,s2,fun x hx=>?_,s4,s5,s6⟩⟩
         · unfold i_j g_u
           simp only[a3,a4,if_neg l6,List.map_nil,List.append_nil,List.map_append,List.map_cons,e,List.append_assoc]
           rw[if_neg (by decide),List.append_nil]
         · rcases List.mem_append.1 hx with hx | hx
           · exact s3 x hx
           · rw[List.mem_singleton.1 hx];exact hs
       | x s e hs=>
         have l6:last≠6:=by omega
         have a4:=hl.rts (by omega)
         refine ⟨?_,⟨fun h=>by omega,fun h=>by omega,fun h=>by omega,fun _=>a4⟩,⟨s1,s2,s3,fun x hx=>?_,s5,s6⟩⟩
         · unfold i_j g_u
           simp only[a4,if_neg l6,List.map_nil,List.append_nil,List.map_append,List.map_cons,e,List.append_assoc]
           rw[if_neg (by decide),List.append_nil]
         · rcases List.mem_append.1 hx with hx | hx
           · exact s4 x hx
           · rw[List.mem_singleton.1 hx];exact hs
       | rt s e hs=>
         have l6:last≠6:=by omega
         refine ⟨?_,⟨fun h=>by omega,fun h=>by omega,fun h=>by omega,fun h=>by omega⟩,⟨s1,s2,s3,s4,fun x hx=>?_,s6⟩⟩
         · unfold i_j g_u
           simp only[if_neg l6,List.map_nil,List.append_nil,List.map_append,List.map_cons,e,List.append_assoc]
           rw[if_neg (by decide),List.append_nil]
         · rcases List.mem_append.1 hx with hx | hx
           · exact s5 x hx
           · rw[List.mem_singleton.1 hx];exact hs
       | tim a b d f e hs=>
         have l6:last≠6:=fun h6=>g4 h6.symm rfl
         refine ⟨?_,⟨fun h=>by omega,fun h=>by omega,fun h=>by omega,fun h=>by omega⟩,⟨s1,s2,s3,s4,s5,hs⟩⟩
         unfold i_j
         rw[if_pos rfl,if_neg l6,List.append_nil,e];rfl
     obtain ⟨p1,p2,p3⟩:=step
     obtain ⟨q1,q2,q3⟩:=t_u ls c1 k c' last' p2 p3 h
     exact ⟨by rw[q1,p1,List.append_assoc];rfl,q2,q3⟩
theorem a_jo {c:UInt8}{s:ByteArray}(h:s_9 c s=true) :s.data.toList=(c_x c s).data.toList ++ [c]:=by
 have hs:s.data.toList.length=s.size:=by simp
 have h':=h
 unfold s_9 at h'
 rw[Bool.and_eq_true,Lib.toList_data,Lib.toList_data,Lib.extract_data] at h'
 obtain ⟨h1,h2⟩:=h'
 have h1:=of_decide_eq_true h1
 have h2:=eq_of_beq h2
 unfold c_x
 rw[if_pos h,Lib.extract_data,List.drop_zero,Nat.sub_zero]
 have h2:(s.data.toList.drop (s.size - 1)).take (s.size - (s.size - 1)) =[c]:=h2
 rw[List.take_of_length_le (by rw[List.length_drop,hs];exact Nat.le_refl _)] at h2
 rw[←h2,List.take_append_drop]
theorem v_c:cf64 d_i:=by constructor <;> simp[d_i,i64]
theorem q_r {t:ByteArray}{c:Cf}(h:c_p t=some c) :c_b c=t.data.toList∧cf64 c:=by
 unfold c_p at h
 split at h
 · rename_i c' last hl
   split at h
   · rename_i he
     injection h with h
     subst h
     rw[Bool.and_eq_true,beq_iff_eq] at he
     obtain ⟨he,rfl⟩:=he
     obtain ⟨h1,_,h3⟩:=t_u _ _ _ _ _ ⟨fun _=>rfl,fun _=>rfl,fun _=>rfl,fun _=>rfl⟩ v_c hl
     refine ⟨?_,h3⟩
     have e0:i_j d_i 0=[]:=rfl
     rw[e0,List.nil_append,n_f] at h1
     have h1:g_u c' ++ [u_n c']=b_e 10 (c_x 10 t).data.toList:=h1
     rw[n_0,h1,l_i,←a_jo he]
   · cases h
 · cases h
end Go.Proofs.YtfdffboelecgoaaGreatDoor
end
section
set_option maxRecDepth 20000
namespace Go.Proofs.YtfdffboelecgoaaGreatDoor
open Go.Fw Go.Proofs
def b_l {α:Type}(word:List UInt8)(step:α→Ws→α × Ws) :Nat→α→List ByteArray→α × List ByteArray
 | 0,x,ws=>(x,ws)
 | n+1,x,ws=>if b_a word (ws,false) then b_l word step n (step x (ws,false)).1 (step x (ws,false)).2.1 else (x,ws)
def w_h {α:Type}(word:List UInt8)(step:α→Ws→α × Ws)(x:α)(ws:List ByteArray) :α × List ByteArray:=
 let p:=b_l word step ws.length x ws
 if word.isEmpty then p else (p.1,p.2.tail)
def rrN (ws:List ByteArray) :Int:=(a_j (ws,false)).1
def d_g (ws:List ByteArray) :Rt:=
 let r:=w_h (wFlank.drop 1) b_s ⟨rrN ws,rrN ws.tail,[],[],[],rrN ws.tail.tail == 1⟩ ws.tail.tail.tail.tail
 let q:=w_h (wOver.drop 1) b_u r.1 r.2
 (w_h [] b_2 q.1 q.2).1
def c_h (c:Cf)(ws:List ByteArray) :Cf:=
 let w:=(ws.headD (a_l [])).data.toList
 let t:=ws.tail
 if w=wSec then { c with Secs:=c.Secs ++ [⟨rrN t,rrN t.tail,rrN t.tail.tail⟩] }
 else if w=wJt then { c with Jts:=c.Jts ++ [⟨rrN t,rrN t.tail,rrN t.tail.tail,rrN t.tail.tail.tail⟩] }
 else if w=wSg then { c with Sigs:=c.Sigs ++ [⟨rrN t,rrN t.tail⟩] }
 else if w=wX then { c with Xs:=c.Xs ++ [rrN t] }
 else if w=wRoute then { c with Rts:=c.Rts ++ [d_g t] }
 else if w=wTim then { c with Age:=rrN t,Brake:=rrN t.tail,Hold:=rrN t.tail.tail,Budget:=rrN t.tail.tail.tail }
 else c
def c_3 (c:Cf)(ls:List ByteArray) :Cf:=ls.foldl (fun c l=>c_h c (pieces 32 l)) c
def h_l (t:ByteArray) :Cf:=c_3 d_i (pieces 10 t)
theorem z_o {α:Type}{word:List UInt8}{step:α→Ws→α × Ws}(hs:∀x s,(step x s).2.2=false→s.2=false) :
   ∀(n:Nat) (x:α) (ws:List ByteArray),(c_v word step n x (ws,false)).2.2=false→b_l word step n x ws=((c_v word step n x (ws,false)).1,(c_v word step n x (ws,false)).2.1):=by
 have keep:∀(n:Nat) (x:α) (s:Ws),(c_v word step n x s).2.2=false→s.2=false:=by
   intro n
   induction n with
   | zero=>intro x s h;exact h
   | succ n ih=>
     intro x s h
     rw[c_v] at h
     split at h
     · exact hs x s (ih _ _ h)
     · exact h
 intro n
 induction n with
 | zero=>intro x ws h;rfl
 | succ n ih=>
   intro x ws h
   rw[c_v] at h ⊢
   rw[b_l]
   split at h
   · rename_i hm
     rw[if_pos hm,if_pos hm]
     have hb:=keep n _ _ h
     obtain ⟨y,us,b⟩ :∃y us,∃b:Bool,step x (ws,false) =(y,(us,b)):=⟨_,_,_,rfl⟩
     obtain ⟨e,eb⟩ :∃e,step x (ws,false) =e:=⟨_,rfl⟩
     rw[eb] at h hb ⊢
     have:e.2=(e.2.1,false):=Prod.ext rfl hb
     rw[this] at h ⊢
     exact ih _ _ h
   · rename_i hm
     rw[if_neg hm,if_neg hm]
theorem s_z {α:Type}{word:List UInt8}{step:α→Ws→α × Ws}(hs:∀x s,(step x s).2.2=false→s.2=false)(x:α)(ws:List ByteArray)(h:(a_8 word step x (ws,false)).2.2=false) :
   w_h word step x ws=((a_8 word step x (ws,false)).1,(a_8 word step x (ws,false)).2.1):=by
 unfold a_8 at h ⊢
 unfold w_h
 simp only at h ⊢
 split at h
 · rename_i hw
   rw[if_pos hw,if_pos hw]
   exact z_o hs _ x ws h
 · rename_i hw
   rw[if_neg hw,if_neg hw]
   simp only[Bool.or_eq_false_iff] at h
   rw[z_o hs _ x ws (q_m h.2).1]
   rfl
theorem a_fj {ws:List ByteArray}(h:(b_p (ws,false)).2.2=false) :d_g ws=(b_p (ws,false)).1:=by
 obtain ⟨a,ea⟩ :∃a,a=a_j (ws,false):=⟨_,rfl⟩
 obtain ⟨b,eb⟩ :∃b,b=a_j a.2:=⟨_,rfl⟩
 obtain ⟨c,ec⟩ :∃c,c=a_j b.2:=⟨_,rfl⟩
 obtain ⟨w,ew⟩ :∃w:Ws,w=if c.2.2 || !(decide (0≤c.1) && decide (c.1≤1)) then (c.2.1,true) else ((a_3 c.2).2.1,!((a_3 c.2).1.data.toList == [112,97,116,104])):=⟨_,rfl⟩
 obtain ⟨r,er⟩ :∃r,r=a_8 (wFlank.drop 1) b_s ⟨a.1,b.1,[],[],[],c.1 == 1⟩ w:=⟨_,rfl⟩
 obtain ⟨q,eq⟩ :∃q,q=a_8 (wOver.drop 1) b_u r.1 r.2:=⟨_,rfl⟩
 have e:b_p (ws,false) =a_8 [] b_2 q.1 q.2:=by
   unfold b_p
   simp only[←ea,←eb,←ec,←ew,←er,←eq]
 rw[e] at h ⊢
 have h1:=(y_g (f:=fun (x:Rt) s=> { x with Overlap:=x.Overlap ++ [s] }) p_g q.1 q.2 h).1
 have h2:r.2.2=false:=by rw[eq] at h1;exact (l_e (f:=fun (x:Rt) s=> { x with Flank:=x.Flank ++ [s] }) (word:=wOver.drop 1) rfl p_t r.1 r.2 h1).1
 have h3:w.2=false:=by rw[er] at h2;exact (l_e (f:=fun (x:Rt) s=> { x with Path:=x.Path ++ [s] }) (word:=wFlank.drop 1) rfl p_7 _ w h2).1
 have hw:w=(ws.tail.tail.tail.tail,false):=by
   have e1:w.1=ws.tail.tail.tail.tail:=by
     rw[ew] at h3 ⊢
     split at h3
     · cases h3
     · rename_i hn
       rw[if_neg hn,ec,eb,ea];rfl
   rw[←e1];exact Prod.ext rfl h3
 have s1:∀(x:Rt) s,(b_s x s).2.2=false→s.2=false:=fun x s h=>(p_7 x s h).1
 have s2:∀(x:Rt) s,(b_u x s).2.2=false→s.2=false:=fun x s h=>(p_t x s h).1
 have s3:∀(x:Rt) s,(b_2 x s).2.2=false→s.2=false:=fun x s h=>(p_g x s h).1
 have eN:∀s:Ws,(a_j s).1=rrN s.1:=fun s=>rfl
 have eT:∀s:Ws,(a_j s).2.1=s.1.tail:=fun s=>rfl
 have x0:(⟨a.1,b.1,[],[],[],c.1 == 1⟩ :Rt) =⟨rrN ws,rrN ws.tail,[],[],[],rrN ws.tail.tail == 1⟩:=by
   rw[ec,eb,ea];rfl
 rw[er,hw] at h2
 have r1:=s_z (word:=wFlank.drop 1) s1 _ _ h2
 rw[←hw,←er,x0] at r1
 have hr:r.2=(r.2.1,false):=Prod.ext rfl (by rw[←hw,←er] at h2;exact h2)
 rw[eq,hr] at h1
 have r2:=s_z (word:=wOver.drop 1) s2 _ _ h1
 rw[←hr,←eq] at r2
 have hq:q.2=(q.2.1,false):=Prod.ext rfl (by rw[←hr,←eq] at h1;exact h1)
 rw[hq] at h
 have r3:=s_z (word:= []) s3 _ _ h
 rw[←hq] at r3
 unfold d_g
 simp only
 rw[r1]
 simp only
 rw[r2]
 simp only
 rw[r3]
theorem y_f (c:Cf)(ws:List ByteArray)(h:(b_3 c (ws,false)).2.2.2=false) :c_h c ws=(b_3 c (ws,false)).2.1:=by
 unfold b_3 at h ⊢
 unfold c_h
 simp only at h ⊢
 have e:(a_3 (ws,false)).1=ws.headD (a_l []):=rfl
 rw[e] at h ⊢
 split at h
 · rename_i hw;rw[if_pos hw,if_pos hw];rfl
 rename_i n1
 rw[if_neg n1,if_neg n1]
 split at h
 · rename_i hw;rw[if_pos hw,if_pos hw];rfl
 rename_i n2
 rw[if_neg n2,if_neg n2]
 split at h
 · rename_i hw;rw[if_pos hw,if_pos hw];rfl
 rename_i n3
 rw[if_neg n3,if_neg n3]
 split at h
 · rename_i hw;rw[if_pos hw,if_pos hw];rfl
 rename_i n4
 rw[if_neg n4,if_neg n4]
 split at h
 · rename_i hw
   rw[if_pos hw,if_pos hw]
   have hb:=(t_z h).1
   have e2:(a_3 (ws,false)).2=(ws.tail,false):=Prod.ext rfl hb
   rw[e2] at h ⊢
   rw[a_fj h]
 rename_i n5
 rw[if_neg n5,if_neg n5]
 split at h
 · rename_i hw;rw[if_pos hw,if_pos hw];rfl
 · cases h
theorem f_s {β:Type}{txt:β→List UInt8}{k:Int}{add:Cf→β→Cf} :∀(bs:List β),(∀b ∈ bs,∀c,b_3 c (pieces 32 (a_l (txt b)),false) =(k,add c b,([],false)))→∀(c:Cf),c_3 c ((bs.map txt).map a_l) =bs.foldl add c
 | [],_,c=>rfl
 | b::bs,h,c=>by
   have h1:=h b (by simp) c
   have h2:=y_f c (pieces 32 (a_l (txt b))) (by rw[h1])
   rw[h1] at h2
   have:=f_s bs (fun x hx=>h x (by simp[hx])) (add c b)
   unfold c_3 at this ⊢
   rw[List.map_cons,List.map_cons,List.foldl_cons,h2,List.foldl_cons]
   exact this
theorem a_dt (c:Cf)(a b:List ByteArray) :c_3 c (a ++ b) =c_3 (c_3 c a) b:=by unfold c_3;rw[List.foldl_append]
theorem v_2 {c:UInt8} :∀l:List UInt8,b_e c (l ++ [c]) =b_e c l ++ [[]]
 | []=>by simp[b_e]
 | x::l=>by
   rw[List.cons_append,b_e,b_e,v_2 l]
   split
   · rfl
   · cases hs:b_e c l with
     | nil=>exact absurd hs (k_l c l)
     | cons a t=>rfl
theorem a_nu (d:Cf){c:Cf}(h:i64 c.Age∧i64 c.Brake∧i64 c.Hold∧i64 c.Budget) :c_3 d ([u_n c].map a_l) = { d with Age:=c.Age,Brake:=c.Brake,Hold:=c.Hold,Budget:=c.Budget } :=by
 have h1:=a_eq d (d:=c) h
 have h2:=y_f d (pieces 32 (a_l (b_m wTim [c.Age,c.Brake,c.Hold,c.Budget]))) (by rw[h1])
 rw[h1] at h2
 have e:u_n c=b_m wTim [c.Age,c.Brake,c.Hold,c.Budget]:=rfl
 unfold c_3
 rw[List.map_cons,List.map_nil,List.foldl_cons,List.foldl_nil,e,h2]
theorem a_n9 (d:Cf) :c_3 d ([([]:List UInt8)].map a_l) =d:=by
 have n:∀w:List UInt8,w≠[]→¬([a_l []].headD (a_l [])).data.toList=w:=fun w hw e=>hw (show w=[] from e.symm)
 have e:(b_e 32 ([]:List UInt8)).map a_l=[a_l []]:=rfl
 unfold c_3
 rw[List.map_cons,List.map_nil,List.foldl_cons,List.foldl_nil,k_4,e]
 unfold c_h
 rw[if_neg (n wSec (by decide)),if_neg (n wJt (by decide)),if_neg (n wSg (by decide)),if_neg (n wX (by decide)),if_neg (n wRoute (by decide)),if_neg (n wTim (by decide))]
theorem a_fu {c:Cf}(h:cf64 c) :h_l (a_l (c_b c)) =c:=by
 unfold h_l
 rw[n_0,k_4,v_2,m_t (by simp) (w_9 c)]
 unfold g_u
 simp only[List.map_append,a_dt]
 have e1:=f_s (txt:=secT) (add:=fun (c:Cf) (s:Sec)=> { c with Secs:=c.Secs ++ [s] }) (k:=1) c.Secs fun b hb d=>a_ex d (h.secs b hb)
 have e2:=f_s (txt:=jtT) (add:=fun (c:Cf) (s:Jt)=> { c with Jts:=c.Jts ++ [s] }) (k:=2) c.Jts fun b hb d=>a_hh d (h.jts b hb)
 have e3:=f_s (txt:=sgT) (add:=fun (c:Cf) (s:Sg)=> { c with Sigs:=c.Sigs ++ [s] }) (k:=3) c.Sigs fun b hb d=>a_gu d (h.sigs b hb)
 have e4:=f_s (txt:=xT) (add:=fun (c:Cf) (s:Int)=> { c with Xs:=c.Xs ++ [s] }) (k:=4) c.Xs fun b hb d=>a_lo d (h.xs b hb)
 have e5:=f_s (txt:=rtT) (add:=fun (c:Cf) (s:Rt)=> { c with Rts:=c.Rts ++ [s] }) (k:=5) c.Rts fun b hb d=>a_hi d (h.rts b hb)
 rw[e1,z_a,e2,a_c0,e3,z_n,e4,a_hp,e5,a_dy]
 rw[a_nu _ h.tim,a_n9]
 simp[d_i]
end Go.Proofs.YtfdffboelecgoaaGreatDoor
end
namespace Go.Fw
section
variable {P:Program} {σ:Store}
theorem At.store {el:TypeId}{d:D}{rs:List (List D)}{j off:Nat}{n:Nat}{row xs:List D}{K:Store→Prop}(h:At P σ el d rs)(hd:¬isSl d)(hr:rs[j]? =some row)(hn:n=j)(ho:off+xs.length≤row.length)
   (hK:∀s' id,b_h d=some id→At P s' el d (rs.set j (patch row off xs))→(∀i,i≠id→s' i=σ i)→s' id≠ .free→K s') :a_d xs σ d n off K:=by
 subst hn
 have hrows:=h.rows
 have hj:=(List.getElem?_eq_some_iff.1 hr).1
 cases d <;> simp only[Go.Fw.Rows] at hrows <;> try exact hrows.elim
 · subst hrows;simp at hr
 · subst hrows;simp at hr
 · exact absurd trivial hd
 · obtain ⟨t,rows,h1,h2,h3,rfl⟩:=hrows
   rename_i id i0 len
   have hjl:n < len:=by simp at hj;omega
   have hrow:rows[i0+n]? =some row:=by
     rw[List.getElem?_take,if_pos hjl,List.getElem?_drop] at hr;exact hr
   refine ⟨id,i0,len,t,rows,row,rfl,hjl,h1,hrow,ho,hK _ id rfl ⟨⟨t,_,Store.set_same _ _ _,h2,by simp;omega,?_⟩,?_,fun es rows e=>by cases e⟩ (fun i hi=>Store.set_ne _ _ hi) (by rw[Store.set_same];intro e;cases e)⟩
   · rw[List.drop_set,if_neg (by omega),List.take_set]
     congr 1;omega
   · have:=h.size;simpa using this
structure Lk where
 Value:Int
 Stamp:Int
 Valid:Bool
def Lk.enc (l:Lk) :List D:= [iD l.Value,iD l.Stamp, .bool l.Valid]
end
end Go.Fw
section
namespace Go.Fw
variable {P:Program} {σ σ':Store}
theorem Own.stay {σ0:Store}{el:TypeId}{e d:D}{qs:List (List D)}(g:Own P σ0 σ el e qs)(hs:∀i,σ i≠ .free→b_h d≠some i→σ' i=σ i)(ha:Apart e d)(he:Ext σ0 σ') :Own P σ0 σ' el e qs:=
 ⟨g.at_.same fun i a n h=>hs i (by
   have:=g.at_.rows;subst h
   obtain ⟨t,rows,h1,_⟩:=this
   rw[h1];intro e;cases e) (ha i (by subst h;rfl)),he,g.new,g.nsl,g.nz⟩
theorem Apart.nil (d:D) :Apart .nils d:=fun i h=>by cases h
end Go.Fw
namespace Go.Fw
variable {P:Program} {σ σ':Store}
theorem p_l {s:Store}{el:TypeId}{es:Nat}{rows:List (List D)}(hes:P.cellsOf el=es)(hsz:rows.length < 2 ^ 60) :At P s el (.sl es rows) rows:=
 ⟨⟨rfl, .inr hes.symm⟩,hsz,fun es rows e=>by injection e with e1 e2;rw[←e1,hes]⟩
theorem a_bc {σ0 s:Store}{el:TypeId}{d:D}{rs:List (List D)}{i:Nat}(h:Own P σ0 s el d rs)(hi:b_h d=some i) :σ0 i= .free:=by
 cases d with
 | osl id a n=>
   have:id=i:=by simpa[b_h] using hi
   subst this
   exact h.new _ _ _ rfl
 | _=>simp[b_h] at hi
end Go.Fw
namespace Go.Fw
variable {P:Program} {σ σ':Store}
theorem Own.put {σ0:Store}{el:TypeId}{d:D}{rs:List (List D)}{j off n:Nat}{row xs:List D}{K:Store→Prop}(h:Own P σ0 σ el d rs)(hr:rs[j]? =some row)(hn:n=j)(ho:off+xs.length≤row.length)
   (hK:∀s',Own P σ0 s' el d (rs.set j (patch row off xs))→(∀i,b_h d≠some i→s' i=σ i)→K s') :a_d xs σ d n off K:=
 h.at_.store h.nsl hr hn ho fun s' id hid hat hs hne=>hK s' ⟨hat,fun i hi=>by
   have hne':i≠id:=fun e=>hi (by rw[e];exact a_bc h hid)
   rw[hs i hne'];exact h.ext i hi,h.new,h.nsl,h.nz⟩ fun i hi=>hs i fun e=>hi (by rw[e];exact hid)
end Go.Fw
namespace Go.Fw
variable {P:Program} {σ σ':Store}
theorem Own.copy {σ0:Store}{el:TypeId}{d x:D}{rd rs:List (List D)}{K:Int→Store→Prop}(h:Own P σ0 σ el d rd)(hx:At P σ el x rs)
   (hK:∀s',Own P σ0 s' el d (rs.take (min rs.length rd.length) ++ rd.drop (min rs.length rd.length))→(∀i,b_h d≠some i→s' i=σ i)→K (min (rs.length:Int) (rd.length:Int)) s') :a_j0 P σ el d x K:=by
 refine ⟨rd,rs,h.at_.rows,hx.rows,?_⟩
 by_cases hm:min rs.length rd.length=0
 · refine .inl ⟨hm,?_⟩
   have:=hK σ (by rw[hm];simpa using h) (fun _ _=>rfl)
   rw[show min (rs.length:Int) (rd.length:Int) =0 by omega] at this;exact this
 · refine .inr ?_
   have hrow:=h.at_.rows
   have hnew:=h.new
   have hsz:=h.at_.size
   cases d with
   | osl id i0 len=>
     obtain ⟨t,rows,h1,h2,h3,rfl⟩:=hrow
     have hml:min rs.length ((rows.drop i0).take len).length≤len:=by simp;omega
     have hmr:min rs.length ((rows.drop i0).take len).length≤rs.length:=Nat.min_le_left _ _
     have hmx:min rs.length ((rows.drop i0).take len).length≤((rows.drop i0).take len).length:=Nat.min_le_right _ _
     generalize min rs.length ((rows.drop i0).take len).length=m at *
     have hl:(rows.take i0 ++ rs.take m ++ rows.drop (i0+m)).length=rows.length:=by simp;omega
     refine ⟨id,i0,len,t,rows,rfl,h1,?_⟩
     refine hK (σ.set id (.live t (rows.take i0 ++ rs.take m ++ rows.drop (i0+m)))) ⟨⟨⟨t,_,Store.set_same _ _ _,h2,by rw[hl];exact h3,?_⟩,by rw[List.length_append,List.length_take,List.length_drop];omega,fun es rows e=>by cases e⟩,fun i hi=>?_,h.new,h.nsl,h.nz⟩ fun i hi=>Store.set_ne _ _ fun e=>hi (by rw[e];rfl)
     · have hA:(rs.take m).length=m:=by rw[List.length_take];omega
       generalize rs.take m=A at *
       rw[List.append_assoc,List.drop_left' (by rw[List.length_take];omega),List.take_append,List.take_of_length_le (show A.length≤len by omega),hA,List.drop_take,List.drop_drop]
     · rw[Store.set_ne _ _ (fun e=>hi (by rw[e];exact h.new _ _ _ rfl))];exact h.ext i hi
   | nils=>have:rd=[]:=hrow;subst this;simp at hm
   | zsl=>exact absurd rfl h.nz
   | sl es rows=>exact absurd trivial h.nsl
   | _=>exact hrow.elim
end Go.Fw
namespace Go.Fw
variable {P:Program} {σ σ':Store}
theorem Own.sub {σ0:Store}{el:TypeId}{d:D}{rs:List (List D)}{lo hi:Nat}(h:Own P σ0 σ el d rs)(h1:lo≤hi)(h2:hi≤rs.length) :Own P σ0 σ el (k_p d lo hi) ((rs.drop lo).take (hi - lo)):=by
 have hr:=h.at_.rows
 have hn:=h.new
 have hl:=h.nsl
 have hz:=h.nz
 refine ⟨h.at_.sub h1 h2,h.ext,?_,?_,?_⟩ <;> cases d <;> simp only[k_p,Rows] at * <;> first | (intro id i n e;cases e;exact hn _ _ _ rfl) | (intro id i n e;cases e;done) | exact hl | (intro e;cases e;done) | exact hr.elim | exact hz
def dlen:D→Nat
 | .osl _ _ n=>n
 | .sl _ rows=>rows.length
 | _=>0
theorem At.dlen {el:TypeId}{d:D}{rs:List (List D)}(h:At P σ el d rs) :dlen d=rs.length:=by
 have hl:=h.lenI
 cases d <;> simp only[Len] at hl <;> first | exact hl.elim | (rw[hl];rfl)
end Go.Fw
end
