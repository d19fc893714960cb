/-
  Proofs that the statement of this claim leans on: part 5.
-/
import Derived.Test.YtfdffboelecgoaaGreatDoorP4
set_option linter.unusedVariables false
set_option linter.unusedSimpArgs false
namespace Go.Proofs.YtfdffboelecgoaaGreatDoor
open Go.Shelf Go.Proofs
section
def atoiLays_ren : Go.Shelf.Ren := ⟨fun | 172 => 92 | 244 => 118 | 245 => 119 | 247 => 141 | 279 => 142 | 280 => 143 | 281 => 144 | 282 => 145 | 287 => 161 | 316 => 162 | 171 => 76 | 205 => 163 | 321 => 171 | 322 => 172 | 243 => 104 | 246 => 134 | 283 => 153 | 284 => 154 | 285 => 155 | 286 => 156 | 129 => 130 | 317 => 165 | 318 => 166 | 319 => 167 | 320 => 168 | 337 => 173 | 338 => 174 | n => n, fun | 9 => 9 | 3 => 3 | 75 => 136 | 76 => 142 | 4 => 4 | 5 => 5 | 167 => 187 | 37 => 72 | 0 => 0 | 85 => 188 | 2 => 2 | 168 => 190 | 53 => 177 | 175 => 208 | 46 => 40 | 210 => 212 | 127 => 138 | 145 => 225 | 143 => 223 | 21 => 21 | 171 => 200 | 173 => 202 | 212 => 218 | 51 => 175 | 20 => 20 | 213 => 219 | 232 => 226 | 233 => 227 | 80 => 88 | n => n, fun | 15 => 3 | 16 => 4 | 17 => 5 | 18 => 6 | 19 => 7 | n => n⟩
theorem atoiLays : Go.Proofs.LaysC.n172 Tryz.prog atoiLays_ren := {
 mixed := by kernel_rfl
 f129 := Tryz.func130.trans (congrArg some (by kernel_rfl))
 f171 := Tryz.func76.trans (congrArg some (by kernel_rfl))
 f172 := Tryz.func92.trans (congrArg some (by kernel_rfl))
 f205 := Tryz.func163.trans (congrArg some (by kernel_rfl))
 f243 := Tryz.func104.trans (congrArg some (by kernel_rfl))
 f244 := Tryz.func118.trans (congrArg some (by kernel_rfl))
 f245 := Tryz.func119.trans (congrArg some (by kernel_rfl))
 f246 := Tryz.func134.trans (congrArg some (by kernel_rfl))
 f247 := Tryz.func141.trans (congrArg some (by kernel_rfl))
 f279 := Tryz.func142.trans (congrArg some (by kernel_rfl))
 f280 := Tryz.func143.trans (congrArg some (by kernel_rfl))
 f281 := Tryz.func144.trans (congrArg some (by kernel_rfl))
 f282 := Tryz.func145.trans (congrArg some (by kernel_rfl))
 f283 := Tryz.func153.trans (congrArg some (by kernel_rfl))
 f284 := Tryz.func154.trans (congrArg some (by kernel_rfl))
 f285 := Tryz.func155.trans (congrArg some (by kernel_rfl))
 f286 := Tryz.func156.trans (congrArg some (by kernel_rfl))
 f287 := Tryz.func161.trans (congrArg some (by kernel_rfl))
 f316 := Tryz.func162.trans (congrArg some (by kernel_rfl))
 f317 := Tryz.func165.trans (congrArg some (by kernel_rfl))
 f318 := Tryz.func166.trans (congrArg some (by kernel_rfl))
 f319 := Tryz.func167.trans (congrArg some (by kernel_rfl))
 f320 := Tryz.func168.trans (congrArg some (by kernel_rfl))
 f321 := Tryz.func171.trans (congrArg some (by kernel_rfl))
 f322 := Tryz.func172.trans (congrArg some (by kernel_rfl))
 f337 := Tryz.func173.trans (congrArg some (by kernel_rfl))
 f338 := Tryz.func174.trans (congrArg some (by kernel_rfl))
 t0 := Tryz.underlying0
 a0 := Tryz.isAgg0
 z0 := Tryz.sizeOf0
 v0 := Tryz.zeroValue0
 t2 := Tryz.underlying2
 a2 := Tryz.isAgg2
 z2 := Tryz.sizeOf2
 v2 := Tryz.zeroValue2
 t3 := Tryz.underlying3
 a3 := Tryz.isAgg3
 z3 := Tryz.sizeOf3
 v3 := Tryz.zeroValue3
 t4 := Tryz.underlying4
 a4 := Tryz.isAgg4
 z4 := Tryz.sizeOf4
 v4 := Tryz.zeroValue4
 t5 := Tryz.underlying5
 a5 := Tryz.isAgg5
 z5 := Tryz.sizeOf5
 v5 := Tryz.zeroValue5
 t9 := Tryz.underlying9
 a9 := Tryz.isAgg9
 z9 := Tryz.sizeOf9
 v9 := Tryz.zeroValue9
 t20 := Tryz.underlying20
 a20 := Tryz.isAgg20
 z20 := Tryz.sizeOf20
 v20 := Tryz.zeroValue20
 t21 := Tryz.underlying21
 a21 := Tryz.isAgg21
 z21 := Tryz.sizeOf21
 v21 := Tryz.zeroValue21
 t37 := Tryz.underlying72
 a37 := Tryz.isAgg72
 z37 := Tryz.sizeOf72
 v37 := Tryz.zeroValue72
 t46 := Tryz.underlying40
 a46 := Tryz.isAgg40
 z46 := Tryz.sizeOf40
 v46 := Tryz.zeroValue40
 t51 := Tryz.underlying175
 a51 := Tryz.isAgg175
 z51 := Tryz.sizeOf175
 v51 := Tryz.zeroValue175
 t53 := Tryz.underlying177
 a53 := Tryz.isAgg177
 z53 := Tryz.sizeOf177
 v53 := Tryz.zeroValue177
 t75 := Tryz.underlying136
 a75 := Tryz.isAgg136
 z75 := Tryz.sizeOf136
 v75 := Tryz.zeroValue136
 t76 := Tryz.underlying142
 a76 := Tryz.isAgg142
 z76 := Tryz.sizeOf142
 v76 := Tryz.zeroValue142
 t85 := Tryz.underlying188
 a85 := Tryz.isAgg188
 z85 := Tryz.sizeOf188
 v85 := Tryz.zeroValue188
 t127 := Tryz.underlying138
 a127 := Tryz.isAgg138
 z127 := Tryz.sizeOf138
 v127 := Tryz.zeroValue138
 t143 := Tryz.underlying223
 a143 := Tryz.isAgg223
 z143 := Tryz.sizeOf223
 v143 := Tryz.zeroValue223
 t145 := Tryz.underlying225
 a145 := Tryz.isAgg225
 z145 := Tryz.sizeOf225
 v145 := Tryz.zeroValue225
 t167 := Tryz.underlying187
 a167 := Tryz.isAgg187
 z167 := Tryz.sizeOf187
 v167 := Tryz.zeroValue187
 t168 := Tryz.underlying190
 a168 := Tryz.isAgg190
 z168 := Tryz.sizeOf190
 v168 := Tryz.zeroValue190
 t171 := Tryz.underlying200
 a171 := Tryz.isAgg200
 z171 := Tryz.sizeOf200
 v171 := Tryz.zeroValue200
 t173 := Tryz.underlying202
 a173 := Tryz.isAgg202
 z173 := Tryz.sizeOf202
 v173 := Tryz.zeroValue202
 t175 := Tryz.underlying208
 a175 := Tryz.isAgg208
 z175 := Tryz.sizeOf208
 v175 := Tryz.zeroValue208
 t210 := Tryz.underlying212
 a210 := Tryz.isAgg212
 z210 := Tryz.sizeOf212
 v210 := Tryz.zeroValue212
 t212 := Tryz.underlying218
 a212 := Tryz.isAgg218
 z212 := Tryz.sizeOf218
 v212 := Tryz.zeroValue218
 t213 := Tryz.underlying219
 a213 := Tryz.isAgg219
 z213 := Tryz.sizeOf219
 t232 := Tryz.underlying226
 a232 := Tryz.isAgg226
 z232 := Tryz.sizeOf226
 v232 := Tryz.zeroValue226
 t233 := Tryz.underlying227
 a233 := Tryz.isAgg227
 z233 := Tryz.sizeOf227
 v233 := Tryz.zeroValue227
 g15 := by kernel_rfl
 g16 := by kernel_rfl
 g17 := by kernel_rfl
 g18 := by kernel_rfl
 g19 := by kernel_rfl
 t80 := Tryz.underlying88
 a80 := Tryz.isAgg88
 z80 := Tryz.sizeOf88
 v80 := Tryz.zeroValue88
 i0 := by kernel_rfl
 i2 := by kernel_rfl
 i3 := by kernel_rfl
 i4 := by kernel_rfl
 i5 := by kernel_rfl
 i9 := by kernel_rfl
 i20 := by kernel_rfl
 i21 := by kernel_rfl
 i37 := by kernel_rfl
 i46 := by kernel_rfl
 i51 := by kernel_rfl
 i53 := by kernel_rfl
 i75 := by kernel_rfl
 i76 := by kernel_rfl
 i80 := by kernel_rfl
 i85 := by kernel_rfl
 i127 := by kernel_rfl
 i143 := by kernel_rfl
 i145 := by kernel_rfl
 i167 := by kernel_rfl
 i168 := by kernel_rfl
 i171 := by kernel_rfl
 i173 := by kernel_rfl
 i175 := by kernel_rfl
 i210 := by kernel_rfl
 i212 := by kernel_rfl
 i232 := by kernel_rfl
 i233 := by kernel_rfl
 m15 := by kernel_rfl
 m16 := by kernel_rfl
 m17 := by kernel_rfl
 m18 := by kernel_rfl
 m19 := by kernel_rfl
 c0 := by kernel_rfl
 c2 := by kernel_rfl
 c3 := by kernel_rfl
 c4 := by kernel_rfl
 c5 := by kernel_rfl
 c9 := by kernel_rfl
 c20 := by kernel_rfl
 c21 := by kernel_rfl
 c37 := by kernel_rfl
 c46 := by kernel_rfl
 c51 := by kernel_rfl
 c53 := by kernel_rfl
 c75 := by kernel_rfl
 c76 := by kernel_rfl
 c80 := by kernel_rfl
 c85 := by kernel_rfl
 c127 := by kernel_rfl
 c143 := by kernel_rfl
 c145 := by kernel_rfl
 c167 := by kernel_rfl
 c168 := by kernel_rfl
 c171 := by kernel_rfl
 c173 := by kernel_rfl
 c175 := by kernel_rfl
 c210 := by kernel_rfl
 c212 := by kernel_rfl
 c213 := by kernel_rfl
 c232 := by kernel_rfl
 c233 := by kernel_rfl }
end
section
def itoaLays_ren : Go.Shelf.Ren := ⟨fun | 171 => 76 | 243 => 104 | 246 => 134 | 283 => 153 | 284 => 154 | 285 => 155 | 286 => 156 | 129 => 130 | 317 => 165 | 318 => 166 | 319 => 167 | 320 => 168 | 337 => 173 | 338 => 174 | n => n, fun | 3 => 3 | 9 => 9 | 2 => 2 | 4 => 4 | 171 => 200 | 0 => 0 | 53 => 177 | 37 => 72 | 5 => 5 | 173 => 202 | 212 => 218 | 51 => 175 | 20 => 20 | 213 => 219 | 46 => 40 | 232 => 226 | 233 => 227 | n => n, fun | 17 => 5 | 18 => 6 | 19 => 7 | n => n⟩
theorem itoaLays : Go.Proofs.LaysM.n171 Tryz.prog itoaLays_ren := {
 mixed := by kernel_rfl
 f129 := Tryz.func130.trans (congrArg some (by kernel_rfl))
 f171 := Tryz.func76.trans (congrArg some (by kernel_rfl))
 f243 := Tryz.func104.trans (congrArg some (by kernel_rfl))
 f246 := Tryz.func134.trans (congrArg some (by kernel_rfl))
 f283 := Tryz.func153.trans (congrArg some (by kernel_rfl))
 f284 := Tryz.func154.trans (congrArg some (by kernel_rfl))
 f285 := Tryz.func155.trans (congrArg some (by kernel_rfl))
 f286 := Tryz.func156.trans (congrArg some (by kernel_rfl))
 f317 := Tryz.func165.trans (congrArg some (by kernel_rfl))
 f318 := Tryz.func166.trans (congrArg some (by kernel_rfl))
 f319 := Tryz.func167.trans (congrArg some (by kernel_rfl))
 f320 := Tryz.func168.trans (congrArg some (by kernel_rfl))
 f337 := Tryz.func173.trans (congrArg some (by kernel_rfl))
 f338 := Tryz.func174.trans (congrArg some (by kernel_rfl))
 t0 := Tryz.underlying0
 a0 := Tryz.isAgg0
 z0 := Tryz.sizeOf0
 v0 := Tryz.zeroValue0
 t2 := Tryz.underlying2
 a2 := Tryz.isAgg2
 z2 := Tryz.sizeOf2
 v2 := Tryz.zeroValue2
 t3 := Tryz.underlying3
 a3 := Tryz.isAgg3
 z3 := Tryz.sizeOf3
 v3 := Tryz.zeroValue3
 t4 := Tryz.underlying4
 a4 := Tryz.isAgg4
 z4 := Tryz.sizeOf4
 v4 := Tryz.zeroValue4
 t5 := Tryz.underlying5
 a5 := Tryz.isAgg5
 z5 := Tryz.sizeOf5
 v5 := Tryz.zeroValue5
 t9 := Tryz.underlying9
 a9 := Tryz.isAgg9
 z9 := Tryz.sizeOf9
 v9 := Tryz.zeroValue9
 t20 := Tryz.underlying20
 a20 := Tryz.isAgg20
 z20 := Tryz.sizeOf20
 v20 := Tryz.zeroValue20
 t37 := Tryz.underlying72
 a37 := Tryz.isAgg72
 z37 := Tryz.sizeOf72
 v37 := Tryz.zeroValue72
 t46 := Tryz.underlying40
 a46 := Tryz.isAgg40
 z46 := Tryz.sizeOf40
 v46 := Tryz.zeroValue40
 t51 := Tryz.underlying175
 a51 := Tryz.isAgg175
 z51 := Tryz.sizeOf175
 v51 := Tryz.zeroValue175
 t53 := Tryz.underlying177
 a53 := Tryz.isAgg177
 z53 := Tryz.sizeOf177
 v53 := Tryz.zeroValue177
 t171 := Tryz.underlying200
 a171 := Tryz.isAgg200
 z171 := Tryz.sizeOf200
 v171 := Tryz.zeroValue200
 t173 := Tryz.underlying202
 a173 := Tryz.isAgg202
 z173 := Tryz.sizeOf202
 v173 := Tryz.zeroValue202
 t212 := Tryz.underlying218
 a212 := Tryz.isAgg218
 z212 := Tryz.sizeOf218
 v212 := Tryz.zeroValue218
 t213 := Tryz.underlying219
 a213 := Tryz.isAgg219
 z213 := Tryz.sizeOf219
 t232 := Tryz.underlying226
 a232 := Tryz.isAgg226
 z232 := Tryz.sizeOf226
 v232 := Tryz.zeroValue226
 t233 := Tryz.underlying227
 a233 := Tryz.isAgg227
 z233 := Tryz.sizeOf227
 v233 := Tryz.zeroValue227
 g17 := by kernel_rfl
 g18 := by kernel_rfl
 g19 := by kernel_rfl
 i0 := by kernel_rfl
 i2 := by kernel_rfl
 i3 := by kernel_rfl
 i4 := by kernel_rfl
 i5 := by kernel_rfl
 i9 := by kernel_rfl
 i20 := by kernel_rfl
 i37 := by kernel_rfl
 i46 := by kernel_rfl
 i51 := by kernel_rfl
 i53 := by kernel_rfl
 i171 := by kernel_rfl
 i173 := by kernel_rfl
 i212 := by kernel_rfl
 i232 := by kernel_rfl
 i233 := by kernel_rfl
 m17 := by kernel_rfl
 m18 := by kernel_rfl
 m19 := by kernel_rfl }
end
end Go.Proofs.YtfdffboelecgoaaGreatDoor
namespace Go.Fw
section
section
variable {P : Program} {l n : Nat} {o : Oper} {a : Act} {W : World} {next : Act → World → Prop} {Q : Exit → Act → World → Prop} {ops : Array Oper}
abbrev Rd (l : Nat) : Fence := Fence.wide.inRound l
def noDef : Code → Bool
 | .region _ ops _ => ops.toList.all fun o => match o.op with | .defer _ => false | _ => true
 | .cond _ x y => noDef x && noDef y
 | .seq x y => noDef x && noDef y
 | .block _ c => noDef c
 | .loop c => noDef c
 | _ => true
theorem oper_in (hd : ∀ c, o.op ≠ .defer c) (hq : ∀ a w, ¬ Q .outgrown a w) (h : o.wp P a W next Q) : o.wpIn (Rd l) n P a W next Q := by
 refine ⟨fun _ _ => trivial, ?_⟩
 rw [Oper.semAt_eq _ _ _ hd]
 unfold Oper.wp at h
 cases hr : (execOp a.eval o).run P W with
 | halt x w' =>
   rw [hr] at h
   cases x <;> first | exact h | exact h.elim
 | ok x w' =>
   rw [hr] at h
   cases x with
   | value v => exact h
   | skip => exact h
   | defer d => exact h
   | enter f args =>
     refine ⟨fun h => (by cases h), ?_⟩
     have h : Calls P f args w' _ := h
     refine CallsIn.mono (F := Rd l) (show CallsIn (Rd l) (n - 1) P f args w' _ from callsIn_wide.2 h) fun e w'' he => ?_
     cases e with
     | returned v => exact he
     | panicked ch => exact he
     | outgrown => exact he
   | row r args =>
     refine ⟨fun h => (by cases h), ?_⟩
     have h : Go.Rows P r args w' _ := h
     intro c cs _
     obtain ⟨v, w'', h1, h2⟩ := h c cs
     exact ⟨v, w'', h1, stepsIn_wide.2 h2⟩
   | _ => exact h.elim
theorem ops_in (hops : ∀ o ∈ ops.toList, ∀ c, o.op ≠ .defer c) (hq : ∀ a w, ¬ Q .outgrown a w) : ∀ (L : List Nat) (a : Act) (W : World), wpOps P ops Q L a W → wpOpsIn (Rd l) n P ops Q L a W
 | [], a, W, h => h
 | i :: r, a, W, h => by
   unfold wpOps at h
   unfold wpOpsIn
   cases ho : ops[i]? with
   | none => rw [ho] at h; exact ops_in hops hq r a W h
   | some o =>
     rw [ho] at h
     have hd := hops o (Array.mem_toList_iff.2 (Array.mem_of_getElem? ho))
     simp only at h ⊢
     split at h
     · rename_i hw
       rw [if_pos hw]
       rcases h with h | ⟨_, a', w', hx⟩
       · exact oper_in hd hq (Oper.wp_mono (fun a w => ops_in hops hq r a w) h)
       · exact absurd hx (hq _ _)
     · rename_i hw
       rw [if_neg hw]
       exact ⟨fun _ _ => trivial, ops_in hops hq r _ _ h⟩
theorem noDef_ops {id : Nat} {b : Bool} (h : noDef (.region id ops b) = true) : ∀ o ∈ ops.toList, ∀ c, o.op ≠ .defer c := by
 intro o ho c hc
 have := List.all_eq_true.1 h o ho
 rw [hc] at this
 cases this
def wpR (P : Program) (n l : Nat) (c : Code) (Q : Exit → Act → World → Prop) (a : Act) (w : World) : Prop :=
 noDef c = true → (∀ a w, ¬ Q .outgrown a w) → c.wpIn (Rd l) n P Q a w
theorem wl_round (hm : P.follows .mixedOrders = true) (n l : Nat) : WL P (wpR P n l) where
 mono h h2 hd hq := wpIn_mono (h2 hd fun a w hx => hq a w (h _ _ _ hx)) h
 skip h _ _ := wpIn_skip h
 label h _ _ := wpIn_label h
 exit h _ _ := wpIn_exit h
 ret h _ _ := wpIn_ret h
 condT hc h hd hq := wpIn_cond_true hc (h (Bool.and_eq_true _ _ ▸ hd).1 hq)
 condF hc h hd hq := wpIn_cond_false hc (h (Bool.and_eq_true _ _ ▸ hd).2 hq)
 block h hd hq := wpIn_block (h hd hq)
 seq h hd hq := by
   have hd := (Bool.and_eq_true _ _).mp hd
   refine wpIn_seq (wpIn_mono (h hd.1 hq) fun e a w he => ?_)
   cases e with
   | normal => exact he hd.2 hq
   | _ => exact he
 loop I n₀ h0 h hd hq := by
   refine wpIn_loop (fun a w => ∃ n, I n a w) (fun a w => leastOf (fun n => I n a w)) ⟨n₀, h0⟩ fun a w hI => ?_
   refine wpIn_mono (h _ a w (leastOf_spec hI).1 hd hq) fun e a' w' he => ?_
   cases e with
   | normal =>
     obtain ⟨n', hlt, hI'⟩ := he
     exact ⟨⟨n', hI'⟩, Nat.lt_of_le_of_lt ((leastOf_spec ⟨n', hI'⟩).2 n' hI') hlt⟩
   | _ => exact he
 region h hd hq := by
   refine wpIn_region (ops_in (noDef_ops hd) hq _ _ _ ?_)
   rw [List.range_eq_range', ← Array.length_toList, wpOps_eq_wpList _ 0 (by simp)]
   exact h
 draw {id ops Q a w} h hd hq := by
   refine wpIn_region_draw fun t => ops_in (noDef_ops hd) hq _ _ _ ?_
   simp only [Region.schedule, hm, Bool.true_or, if_true]
   refine h _ (lin_valid _ _ _ ?_)
   exact Nat.le_trans List.countP_le_length (by simp)
end
section
variable {P : Program} {k k' k0 : Nat → Prop} {β β' β0 : Bk} {σ σ' σ0 σd : Store} {W W' W'' W0 : World} {B B' : Nat → Prop} {b n : Nat} {γ : Nat → Nat} {env : Env} {a : Act}
def Off (k : Nat → Prop) (β : Bk) (σ : Store) (b : Nat) : Prop := ¬ k b ∧ ∀ i bi, β i = some bi → σ i ≠ .dead → bi.blk ≠ b
theorem Off.ghost (h : Off k β σ b) (hb : b < W.heap.size) (g : Ghost k β σ W k' β' σ') : Off k' β' σ' b := by
 refine ⟨fun hk => ?_, fun i bi hi hl he => ?_⟩
 · rcases g.kn b hk with h1 | h1 | ⟨i, bi, h1, h2, h3⟩
   · exact h.1 h1
   · omega
   · exact h.2 i bi h1 h2 h3
 · rcases g.bn i bi hi with h1 | h1 | ⟨j, bj, h1, h2, h3⟩
   · exact h.2 i bi h1 (fun hd => hl (g.dd i hd)) he
   · omega
   · exact h.2 j bj h1 h2 (h3.trans he)
theorem Off.new (hs : SRel P k β W σ) (hb : W.heap.size ≤ b) : Off k β σ b :=
 ⟨fun hk => by have := hs.klt b hk; omega, fun i bi hi _ he => by have := hs.blt i bi hi; omega⟩
structure Idle (B : Nat → Prop) (W W' : World) : Prop where
 os : W'.os = W.os
 tape : W'.tape = W.tape
 output : W'.output = W.output
 size : W.heap.size ≤ W'.heap.size
 block : ∀ b, b < W.heap.size → ¬ B b → W'.heap[b]? = W.heap[b]?
theorem Idle.refl (B : Nat → Prop) (W : World) : Idle B W W := ⟨rfl, rfl, rfl, Nat.le_refl _, fun _ _ _ => rfl⟩
theorem Idle.trans (h : Idle B W W') (h' : Idle B W' W'') : Idle B W W'' :=
 ⟨h'.os.trans h.os, h'.tape.trans h.tape, h'.output.trans h.output, Nat.le_trans h.size h'.size, fun b hb hn => (h'.block b (Nat.lt_of_lt_of_le hb h.size) hn).trans (h.block b hb hn)⟩
theorem Idle.put (W : World) (b : Nat) (o : Obj) : Idle (fun x => x = b) W (W.putObj b o) :=
 ⟨rfl, rfl, rfl, by simp, fun x _ hx => World.putObj_heap_other hx⟩
theorem Idle.alloc (B : Nat → Prop) (W : World) (o : Obj) : Idle B W (W.alloc o) :=
 ⟨rfl, rfl, rfl, by show W.heap.size ≤ (W.heap.push o).size; simp, fun b hb _ => by
   show (W.heap.push o)[b]? = _
   simp [Array.getElem?_push, Nat.ne_of_lt hb]⟩
theorem Idle.keep (h : Idle B W W') (hs : SRel P k β W σ) (ho : ∀ b, B b → ¬ k b) : Keep k W W' := fun b hb => h.block b (hs.klt b hb) fun hB => ho b hB hb
theorem SRel.idle (h : SRel P k β W σ) (g : Idle B W W') (ho : ∀ b, B b → Off k β σ b) : SRel P k β W' σ where
 gl := h.gl.mono (fun _ h => h) (g.keep h fun b hb => (ho b hb).1)
 fin := h.fin
 dom := h.dom
 klt b hb := Nat.lt_of_lt_of_le (h.klt b hb) g.size
 blt i bi hi := Nat.lt_of_lt_of_le (h.blt i bi hi) g.size
 inj := h.inj
 notk := h.notk
 obj i bi t rows hb hs := by
   have hk := g.keep h fun b hb => (ho b hb).1
   have hnd : σ i ≠ .dead := by rw [hs]; intro e; cases e
   obtain ⟨arr, h1, h2, h3, h4, h5, h6, h7⟩ := h.obj i bi t rows hb hs
   refine ⟨arr, (g.block _ (h.blt i bi hb) fun hB => (ho _ hB).2 i bi hb hnd rfl).trans h1, h2, h3, h4, h5, h6, fun r row j d hr hj => ?_⟩
   obtain ⟨v, hv, hV⟩ := h7 r row j d hr hj
   exact ⟨v, hv, hV.mono (fun _ h => h) (fun _ _ h => h) hk⟩
 omap i bi clock es hb hs := by
   have hk := g.keep h fun b hb => (ho b hb).1
   have hnd : σ i ≠ .dead := by rw [hs]; intro e; cases e
   obtain ⟨ents, h1, h2, h3, h4, h5⟩ := h.omap i bi clock es hb hs
   refine ⟨ents, (g.block _ (h.blt i bi hb) fun hB => (ho _ hB).2 i bi hb hnd rfl).trans h1, h2, h3, h4, fun r e b ks vs hr he => ?_⟩
   obtain ⟨hbo, ha, hv⟩ := h5 r e b ks vs hr he
   exact ⟨hbo, ha.mono (fun _ h => h) (fun _ _ h => h) hk, hv.mono (fun _ h => h) (fun _ _ h => h) hk⟩
theorem Frm.idle (h : Frm β σ W W') (g : Idle B W' W'') (hB : ∀ b, B b → b < W.heap.size → ∃ i bi, β i = some bi ∧ σ i ≠ .dead ∧ bi.blk = b) : Frm β σ W W'' :=
 ⟨g.os.trans h.os, g.tape.trans h.tape, g.output.trans h.output, Nat.le_trans h.size g.size, fun b hb hn => (g.block b (Nat.lt_of_lt_of_le hb h.size) fun hx => by
   obtain ⟨i, bi, h1, h2, h3⟩ := hB b hx hb
   exact hn i bi h1 h2 h3).trans (h.block b hb hn)⟩
def Turned (β : Bk) (σ σd : Store) (b : Nat) : Prop := ∃ i bi, β i = some bi ∧ σ i ≠ .dead ∧ σd i = .dead ∧ bi.blk = b
def Given (σ σd : Store) : Prop := ∀ i, σd i = σ i ∨ (σ i ≠ .dead ∧ σ i ≠ .free ∧ σd i = .dead)
theorem Given.live (h : Given σ σd) {i : Nat} (hl : σd i ≠ .dead) : σd i = σ i := (h i).elim id fun h => absurd h.2.2 hl
theorem SRel.give (h : SRel P k β W σ) (g : Given σ σd) : SRel P k β W σd where
 gl := h.gl
 fin := by
   obtain ⟨N, hN⟩ := h.fin
   refine ⟨N, fun i hi => ?_⟩
   rcases g i with h1 | ⟨_, h1, _⟩
   · rw [h1, hN i hi]
   · exact absurd (hN i hi) h1
 dom i := by
   rcases g i with h1 | ⟨h0, h1, h2⟩
   · rw [h1]; exact h.dom i
   · rw [h2]; exact ⟨fun _ e => (by cases e), fun _ => (h.dom i).2 h1⟩
 klt := h.klt
 blt := h.blt
 inj i j bi bj hi hj h1 h2 := h.inj i j bi bj hi hj (by rw [← g.live h1]; exact h1) (by rw [← g.live h2]; exact h2)
 notk i bi hi h1 := h.notk i bi hi (by rw [← g.live h1]; exact h1)
 obj i bi t rows hb hs := h.obj i bi t rows hb (by rw [← g.live (by rw [hs]; intro e; cases e)]; exact hs)
 omap i bi c es hb hs := h.omap i bi c es hb (by rw [← g.live (by rw [hs]; intro e; cases e)]; exact hs)
theorem Turned.off (h : SRel P k β W σ) (g : Given σ σd) (hb : Turned β σ σd b) : Off k β σd b := by
 obtain ⟨i, bi, h1, h2, h3, rfl⟩ := hb
 refine ⟨h.notk i bi h1 h2, fun j bj hj hl he => ?_⟩
 have := h.inj j i bj bi hj h1 (by rw [← g.live hl]; exact hl) h2 he
 subst this
 exact hl h3
def SeqOk (P : Program) (f : FuncId) (caps : List (Bool × List D)) (σ σd : Store) (xs : List ByteArray) : Prop :=
 callOk P f = true ∧ Given σ σd ∧
 ∀ (n l : Nat) (k : Nat → Prop) (β : Bk) (W : World) (lb : Array Value) (J : Nat → World → Prop) (Jx : World → Prop),
   SRel P k β W σ → V k β W (.func (.func f) #[] lb) (.fn f [] caps) →
   (∀ i W1 W2, J i W1 → Idle (Turned β σ σd) W1 W2 → J i W2) → (∀ W1 W2, Jx W1 → Idle (Turned β σ σd) W1 W2 → Jx W2) →
   (∀ m i s W1, xs[i]? = some s → J i W1 → YieldAt Fence.wide m P l #[.string s] W1 fun e W' =>
     ((e = .returned (.bool true) ∧ J (i + 1) W') ∨ (e = .returned (.bool false) ∧ Jx W')) ∧ W1.heap.size ≤ W'.heap.size ∧ ∀ b, Turned β σ σd b → W'.heap[b]? = W1.heap[b]?) →
   J 0 W → CallsIn Fence.wide n P f (#[.func (.yield l) #[] #[]] ++ lb) W fun e W' => (∃ v, e = .returned v) ∧ (J xs.length W' ∨ Jx W')
structure Jl (P : Program) (k : Nat → Prop) (β : Bk) (σ : Store) (W : World) (σd : Store) (rec : Loop) (k' : Nat → Prop) (β' : Bk) (σ' : Store) (W1 : World) : Prop where
 srel : SRel P k' β' W1 σ'
 ghost : Ghost k β σ W k' β' σ'
 frm : Frm β σ W W1
 turned : ∀ b, Turned β σ σd b → Off k' β' σ' b
 own : ∀ b, b = W.heap.size ∨ b = W.heap.size + 1 → Off k' β' σ' b
 loop : W1.heap[W.heap.size + 1]? = some (.loop rec)
 dfr : W1.heap[W.heap.size]? = some (.deferred (some []))
variable {rec rec' : Loop} {W1 W2 : World} {k2 : Nat → Prop} {β2 : Bk} {σ2 : Store}
theorem Jl.lt (h : Jl P k β σ W σd rec k' β' σ' W1) : W.heap.size + 1 < W1.heap.size := (Array.getElem?_eq_some_iff.1 h.loop).1
theorem Turned.lt (hs : SRel P k β W σ) (h : Turned β σ σd b) : b < W.heap.size := by
 obtain ⟨i, bi, h1, _, _, rfl⟩ := h
 exact hs.blt i bi h1
theorem Jl.go (h : Jl P k β σ W σd rec k' β' σ' W1) (hs : SRel P k β W σ) (s2 : SRel P k2 β2 W2 σ2) (g : Ghost k' β' σ' W1 k2 β2 σ2) (f : Frm β' σ' W1 W2) : Jl P k β σ W σd rec k2 β2 σ2 W2 where
 srel := s2
 ghost := h.ghost.trans h.frm.size g
 frm := h.frm.trans h.ghost f
 turned b hb := (h.turned b hb).ghost (by have := h.lt; have := Turned.lt hs hb; omega) g
 own b hb := (h.own b hb).ghost (by have := h.lt; omega) g
 loop := (f.block _ h.lt (h.own _ (.inr rfl)).2).trans h.loop
 dfr := (f.block _ (by have := h.lt; omega) (h.own _ (.inl rfl)).2).trans h.dfr
theorem Jl.put (h : Jl P k β σ W σd rec k' β' σ' W1) : Jl P k β σ W σd rec' k' β' σ' (W1.putObj (W.heap.size + 1) (.loop rec')) where
 srel := h.srel.idle (Idle.put _ _ _) fun b hb => by subst hb; exact h.own _ (.inr rfl)
 ghost := h.ghost
 frm := h.frm.idle (Idle.put _ _ _) fun b hb hlt => by subst hb; omega
 turned := h.turned
 own := h.own
 loop := World.putObj_heap_same h.lt
 dfr := (World.putObj_heap_other (by omega)).trans h.dfr
theorem Jl.idle (h : Jl P k β σ W σd rec k' β' σ' W1) (hs : SRel P k β W σ) (g : Idle (Turned β σ σd) W1 W2) : Jl P k β σ W σd rec k' β' σ' W2 where
 srel := h.srel.idle g h.turned
 ghost := h.ghost
 frm := h.frm.idle g fun b hb _ => by obtain ⟨i, bi, h1, h2, _, h4⟩ := hb; exact ⟨i, bi, h1, h2, h4⟩
 turned := h.turned
 own := h.own
 loop := (g.block _ h.lt fun hb => by have := Turned.lt hs hb; omega).trans h.loop
 dfr := (g.block _ (by have := h.lt; omega) fun hb => by have := Turned.lt hs hb; omega).trans h.dfr
abbrev NoBx (env : Env) : Prop := ∀ s cs, ¬ IsBox (get env s) cs
def clE (env : Env) : Env := fun s => match env s with
 | .val x => .val x
 | .el d i off => .el d i off
 | .tup xs => .tup xs
 | _ => .undef
theorem clE_noBx (env : Env) : NoBx (clE env) := by
 intro s cs hb
 unfold get clE at hb
 split at hb <;> rcases hb with hb | hb <;> cases hb
theorem clE_nd (env : Env) : ND (clE env) := by
 intro s d off hg
 unfold get clE at hg
 split at hg <;> cases hg
theorem RelX.clean {tmps : Array Value} (h : RelX P k0 β0 σ0 W0 n k β γ tmps W env σ) : RelX P k0 β0 σ0 W0 n k β γ tmps W (clE env) σ where
 srel := h.srel
 slot s := by
   have hs := h.slot s
   unfold get at hs ⊢
   unfold clE
   cases he : env s <;> rw [he] at hs <;> first | exact hs | trivial
 box s cs hb := absurd hb (clE_noBx env s cs)
 inj s s' cs cs' hb := absurd hb (clE_noBx env s cs)
 ghost := h.ghost
 frm := h.frm
 size := h.size
theorem RelX.anew {tmps : Array Value} (h : RelX P k0 β0 σ0 W0 n k β γ tmps W env σ) (hnb : NoBx env) (s2 : SRel P k2 β2 W2 σ2) (g : Ghost k β σ W k2 β2 σ2) (hk : Keep k W W2) : RelX P k2 β2 σ2 W2 n k2 β2 γ tmps W2 env σ2 where
 srel := s2
 slot s := (h.slot s).mono g.kk g.bb hk
 box s cs hb := absurd hb (hnb s cs)
 inj s s' cs cs' hb := absurd hb (hnb s cs)
 ghost := Ghost.refl _ _ _ _
 frm := Frm.refl _ _ _
 size := h.size
theorem ND.put_val (h : ND env) (hnb : NoBx env) (p : Nat) (x : A) : ND (setE env p (.val x)) := by
 intro s d off hg
 by_cases hs : s = p
 · subst hs; rw [get_same] at hg; cases hg
 · rw [get_ne _ _ hs] at hg
   have hb := h s d off hg
   exfalso
   cases hd : get env d with
   | bx cs => exact hnb d cs (.inl hd)
   | cb cs => exact hnb d cs (.inr hd)
   | _ => rw [hd] at hb; cases hb
theorem round_ok (hm : P.follows .mixedOrders = true) (an : Ann) {p m fn : Nat} {tmps : Array Value} {assign body : Code} {s : ByteArray} {I J X : Store → Prop} (h : RelX P k0 β0 σ0 W0 n k β γ tmps W env σ) (hnd : ND env) (hnb : NoBx env)
   (hp : p < n) (hd1 : ∀ d ∈ dsts assign, d < n) (hd2 : ∀ d ∈ dsts body, d < n) (hn1 : noDef assign = true) (hn2 : noDef body = true)
   (hj : Jl P k β σ W σd { state := .ready, pending := none, fn, tmps, params := #[p], assign, body, defers := W.heap.size } k' β' σ' W1)
   (hr : dwp P an assign (fun e env1 s1 => match e with
     | .normal => dwp P an body (fun e _ s2 => match e with | .normal => J s2 | .ret => X s2 | _ => False) (clE env1) s1
     | _ => False) (setE env p (.val (.one (.str s)))) σ') :
   YieldAt Fence.wide m P (W.heap.size + 1) #[.string s] W1 fun e W' =>
     ((e = .returned (.bool true) ∧ ∃ k2 β2 σ2, Jl P k β σ W σd { state := .ready, pending := none, fn, tmps, params := #[p], assign, body, defers := W.heap.size } k2 β2 σ2 W' ∧ J σ2) ∨
      (e = .returned (.bool false) ∧ ∃ k2 β2 σ2, Jl P k β σ W σd { state := .done, pending := some .ret, fn, tmps, params := #[p], assign, body, defers := W.heap.size } k2 β2 σ2 W' ∧ X σ2)) ∧
     W1.heap.size ≤ W'.heap.size ∧ ∀ b, Turned β σ σd b → W'.heap[b]? = W1.heap[b]? := by
 have hs := h.srel
 have hlt : ∀ b, Turned β σ σd b → b < W1.heap.size := fun b hb => by have := hj.lt; have := Turned.lt hs hb; omega
 refine ⟨fn, _, assign, body, run_yield hj.loop rfl, roundIn_of_wpIn trivial ?_⟩
 have hX := (h.anew hnb hj.srel hj.ghost (hj.frm.keep hs)).put hp (v := .string s) (e := .val (.one (.str s))) (by rintro cs (e | e) <;> cases e) (V.str s)
 have hA := dwp_okW (df := []) (wl_round hm m (W.heap.size + 1)) an assign _ { tmps := tmps.setIfInBounds p (.string s), defers := [] } W1 _ _ hd1 ⟨⟨rfl, _, _, _, hX⟩, hnd.put_val hnb p _⟩ hr
 have ez : ((#[p] : Array Tmp).zip #[Value.string s]).foldl (fun t (x : Tmp × Value) => t.setIfInBounds x.1 x.2) tmps = tmps.setIfInBounds p (.string s) := by simp
 show assign.wpIn (Rd (W.heap.size + 1)) m P _ { tmps := ((#[p] : Array Tmp).zip #[Value.string s]).foldl (fun t (x : Tmp × Value) => t.setIfInBounds x.1 x.2) tmps, defers := [] } W1
 rw [ez]
 refine wpIn_mono (hA hn1 fun a w hx => hx.elim fun _ h => h.elim fun _ h => h.1.elim) fun e a1 W2 he => ?_
 obtain ⟨env1, σ1, q1, ⟨⟨hdf, k1, β1, γ1, hX1⟩, hnd1⟩, _⟩ := he
 cases e with
 | normal =>
   have hnb1 := clE_noBx env1
   have hnd1 := clE_nd env1
   have hX1 := hX1.clean
   have j1 := hj.go hs hX1.srel hX1.ghost hX1.frm
   refine ⟨_, run_beginRound j1.loop rfl, ?_⟩
   have j2 := j1.put (rec' := { state := .busy, pending := none, fn, tmps, params := #[p], assign, body, defers := W.heap.size })
   have hk2 : Keep k1 W2 (W2.putObj (W.heap.size + 1) (.loop { state := .busy, pending := none, fn, tmps, params := #[p], assign, body, defers := W.heap.size })) :=
     (Idle.put _ _ _).keep hX1.srel fun b hb => by subst hb; exact (j1.own _ (.inr rfl)).1
   have hX2 := hX1.anew hnb1 j2.srel (Ghost.refl _ _ _ _) hk2
   have hB := dwp_okW (df := []) (wl_round hm m (W.heap.size + 1)) an body _ a1 _ (clE env1) σ1 hd2 ⟨⟨hdf, _, _, _, hX2⟩, hnd1⟩ q1
   have hsz2 : W1.heap.size ≤ (W2.putObj (W.heap.size + 1) (.loop { state := .busy, pending := none, fn, tmps, params := #[p], assign, body, defers := W.heap.size })).heap.size := by
     rw [World.putObj_size]; exact hX1.frm.size
   have ht2 : ∀ b, Turned β σ σd b → (W2.putObj (W.heap.size + 1) (.loop { state := .busy, pending := none, fn, tmps, params := #[p], assign, body, defers := W.heap.size })).heap[b]? = W1.heap[b]? := fun b hb => by
     have := Turned.lt hs hb
     rw [World.putObj_heap_other (by omega)]
     exact hX1.frm.block b (hlt b hb) (hj.turned b hb).2
   generalize hW3 : W2.putObj (W.heap.size + 1) (.loop { state := .busy, pending := none, fn, tmps, params := #[p], assign, body, defers := W.heap.size }) = W3 at *
   refine wpIn_mono (hB hn2 fun a w hx => hx.elim fun _ h => h.elim fun _ h => h.1.elim) fun e a3 W4 he => ?_
   obtain ⟨env3, σ3, q3, ⟨⟨_, k3, β3, γ3, hX3⟩, _⟩, _⟩ := he
   have j3 := j2.go hs hX3.srel hX3.ghost hX3.frm
   have hsz : W1.heap.size ≤ W4.heap.size := Nat.le_trans hsz2 hX3.frm.size
   have ht : ∀ b, Turned β σ σd b → W4.heap[b]? = W1.heap[b]? := fun b hb =>
     (hX3.frm.block b (Nat.lt_of_lt_of_le (hlt b hb) hsz2) (j2.turned b hb).2).trans (ht2 b hb)
   have fin : ∀ (o : Obj), W1.heap.size ≤ (W4.putObj (W.heap.size + 1) o).heap.size ∧ ∀ b, Turned β σ σd b → (W4.putObj (W.heap.size + 1) o).heap[b]? = W1.heap[b]? := fun o =>
     ⟨by rw [World.putObj_size]; exact hsz, fun b hb => by
       have := Turned.lt hs hb
       rw [World.putObj_heap_other (by omega)]; exact ht b hb⟩
   cases e with
   | normal => exact ⟨_, _, run_endRound none j3.loop, .inl ⟨rfl, _, _, _, j3.put, q3⟩, fin _⟩
   | ret => exact ⟨_, _, run_endRound (some .ret) j3.loop, .inr ⟨rfl, _, _, _, j3.put, q3⟩, fin _⟩
   | _ => exact q3.elim
 | _ => exact q1.elim
def After (P : Program) (k0 : Nat → Prop) (β0 : Bk) (σ0 : Store) (W0 : World) (n : Nat) (γ : Nat → Nat) (env : Env) (a : Act) (Y : Store → Prop) (a' : Act) (W' : World) : Prop :=
 ∃ D k' β' σ', a' = { a with defers := [{ target := .collected D, args := #[] }] } ∧ RelX P k0 β0 σ0 W0 n k' β' γ a.tmps W' env σ' ∧ W0.heap.size ≤ D ∧ W'.heap[D]? = some (.deferred (some [])) ∧ Off k' β' σ' D ∧ Y σ'
theorem range_ok (hm : P.follows .mixedOrders = true) (an : Ann) {gt p m : Nat} {assign body : Code} {Q : Exit → Act → World → Prop} {f : FuncId} {caps : List (Bool × List D)} {xs : List ByteArray} {I : Nat → Store → Prop} {X : Store → Prop}
   (h : RelX P k0 β0 σ0 W0 n k β γ a.tmps W env σ) (hnd : ND env) (hnb : NoBx env) (hdf : a.defers = [])
   (hp : p < n) (hd1 : ∀ d ∈ dsts assign, d < n) (hd2 : ∀ d ∈ dsts body, d < n) (hn1 : noDef assign = true) (hn2 : noDef body = true)
   (hg : get env gt = .val (.one (.fn f [] caps))) (hseq : SeqOk P f caps σ σd xs) (h0 : I 0 σd)
   (hr : ∀ i s s0, xs[i]? = some s → I i s0 → dwp P an assign (fun e env1 s1 => match e with
     | .normal => dwp P an body (fun e _ s2 => match e with | .normal => I (i + 1) s2 | .ret => X s2 | _ => False) (clE env1) s1
     | _ => False) (setE env p (.val (.one (.str s)))) s0)
   (hq1 : ∀ a' W', After P k0 β0 σ0 W0 n γ env a (I xs.length) a' W' → Q .normal a' W')
   (hq2 : ∀ a' W', After P k0 β0 σ0 W0 n γ env a X a' W' → Q .ret a' W') :
   (Code.rangeFunc (.tmp gt) #[p] assign body).wpIn Fence.wide m P Q a W := by
 obtain ⟨hcall, hgv, hit⟩ := hseq
 have hs := h.srel
 have hv := h.slot gt
 rw [hg] at hv
 have hv : V k β W (a.tmps.getD gt undef) (.fn f [] caps) := hv
 obtain ⟨lb, hlb⟩ : ∃ lb, a.tmps.getD gt undef = .func (.func f) #[] lb := by
   generalize a.tmps.getD gt undef = u at hv
   cases hv with
   | fn _ first lb _ _ _ _ h1 => exact ⟨lb, by rw [h1]; rfl⟩
 have hev : a.eval (.tmp gt) = .func (.func f) #[] lb := hlb
 refine wpIn_rangeFunc fun fn _ => ?_
 obtain ⟨rec, hrec⟩ : ∃ rec : LoopState → Option Code → Loop, rec = fun st pe => { state := st, pending := pe, fn, tmps := a.tmps, params := #[p], assign, body, defers := W.heap.size } := ⟨_, rfl⟩
 obtain ⟨W1, hW1⟩ : ∃ W1, (W.alloc (.deferred (some []))).alloc (.loop (rec .ready none)) = W1 := ⟨_, rfl⟩
 have hL1 : W1.heap[W.heap.size + 1]? = some (.loop (rec .ready none)) := by
   rw [← hW1]; have := World.alloc_heap_new (W.alloc (.deferred (some []))) (.loop (rec .ready none)); rwa [World.size_alloc] at this
 have hid : Idle (fun _ => False) W W1 := by rw [← hW1]; exact (Idle.alloc _ _ _).trans (Idle.alloc _ _ _)
 have hK1 : W1.heap[W.heap.size]? = some (.deferred (some [])) := by
   rw [← hW1]
   refine ((Idle.alloc (fun _ => False) (W.alloc (.deferred (some []))) (.loop (rec .ready none))).block _ (by simp) id).trans (World.alloc_heap_new W _)
 have hs1 : SRel P k β W1 σ := hs.idle hid fun b hb => hb.elim
 have j0 : Jl P k β σ W σd (rec .ready none) k β σd W1 := {
   srel := hs1.give hgv
   ghost := ⟨fun _ h => h, fun _ h => .inl h, fun _ _ h => h, fun _ _ h => .inl h, fun i hi => by
     rcases hgv i with e | ⟨e, _, _⟩
     · rw [e]; exact hi
     · exact absurd hi e⟩
   frm := ⟨hid.os, hid.tape, hid.output, hid.size, fun b hb _ => hid.block b hb id⟩
   turned := fun b hb => Turned.off hs hgv hb
   own := fun b hb => Off.new (hs.give hgv) (by omega)
   loop := hL1
   dfr := hK1 }
 refine ⟨W.heap.size + 1, [{ target := .collected W.heap.size, args := #[] }], W1, { target := .fn (.func f) lb, args := #[.func (.yield (W.heap.size + 1)) #[] #[]] }, W1, f,
   #[.func (.yield (W.heap.size + 1)) #[] #[]] ++ lb, W1, ?_, ?_, fun _ _ => trivial, ?_, fun h => (by cases h), ?_⟩
 · rw [← hW1, hrec]; exact run_enterLoop_outer _ _ _ _ _
 · simp only [resolve, hev]
   simp [go_sem]
 · simp [invoke, go_sem, callFunc_run hcall]
 · refine (hit (m - 1) (W.heap.size + 1) k β W1 lb (fun i W2 => ∃ k2 β2 σ2, Jl P k β σ W σd (rec .ready none) k2 β2 σ2 W2 ∧ I i σ2) (fun W2 => ∃ k2 β2 σ2, Jl P k β σ W σd (rec .done (some .ret)) k2 β2 σ2 W2 ∧ X σ2) hs1 ?_ ?_ ?_ ?_ ⟨_, _, _, j0, h0⟩).mono ?_
   · rw [← hlb]; exact V.mono (fun _ h => h) (fun _ _ h => h) (hid.keep hs fun b hb => hb.elim) hv
   · rintro i A B ⟨k2, β2, σ2, hj, hi⟩ hAB
     exact ⟨k2, β2, σ2, hj.idle hs hAB, hi⟩
   · rintro A B ⟨k2, β2, σ2, hj, hi⟩ hAB
     exact ⟨k2, β2, σ2, hj.idle hs hAB, hi⟩
   · rintro mm i s W2 hx ⟨k2, β2, σ2, hj, hi⟩
     rw [hrec] at hj ⊢
     exact round_ok (I := I i) hm an h hnd hnb hp hd1 hd2 hn1 hn2 hj (hr i s σ2 hx hi)
   · have key : ∀ (W2 : World) k2 β2 σ2 st pe (Y : Store → Prop), Jl P k β σ W σd (rec st pe) k2 β2 σ2 W2 → Y σ2 →
         After P k0 β0 σ0 W0 n γ env a Y { a with defers := [{ target := .collected W.heap.size, args := #[] }] } (W2.putObj (W.heap.size + 1) (.loop (rec .exhausted pe))) := fun W2 k2 β2 σ2 st pe Y hj hy => by
       have j2 := hj.put (rec' := rec .exhausted pe)
       exact ⟨W.heap.size, k2, β2, σ2, rfl, h.step j2.srel j2.ghost j2.frm, h.frm.size, j2.dfr, j2.own _ (.inl rfl), hy⟩
     rintro e W2 ⟨⟨v, rfl⟩, ⟨k2, β2, σ2, hj, hi⟩ | ⟨k2, β2, σ2, hj, hx⟩⟩
     · have hrun := run_endLoop (P := P) hj.loop (by rw [hrec]; simp)
       have hk := key W2 k2 β2 σ2 _ _ _ hj hi
       rw [hrec] at hrun hk
       refine ⟨_, _, hrun, ?_⟩
       rw [hdf]
       exact hq1 _ _ hk
     · have hrun := run_endLoop (P := P) hj.loop (by rw [hrec]; simp)
       have hk := key W2 k2 β2 σ2 _ _ _ hj hx
       rw [hrec] at hrun hk
       refine ⟨_, _, hrun, ?_⟩
       rw [hdf]
       exact wpIn_ret (hq2 _ _ hk)
end
end
end Go.Fw
namespace Go.Proofs.YtfdffboelecgoaaGreatDoor
open Go.Proofs Go.RowKit Go.Shelf
section
theorem hb_info : (Tryz.prog.info? 83).map (·.size) = some 2 := by kernel_rfl
theorem rowAt_mono {P : Program} {fits : TypeId → Bool} {d e c c' off n : Nat} (h : c ≤ c') (hr : rowAt P fits d e c off n = true) : rowAt P fits d e c' off n = true := by
 cases d with
 | zero => exact hr
 | succ d =>
   unfold rowAt at hr ⊢
   simp only at hr ⊢
   split at hr
   · cases hr
   · rename_i hs
     rw [if_neg hs]
     rw [Bool.or_eq_true] at hr ⊢
     rcases hr with hr | hr
     · left
       simp only [Bool.and_eq_true] at hr ⊢
       exact ⟨⟨hr.1.1, decide_eq_true (Nat.le_trans (of_decide_eq_true hr.1.2) h)⟩, hr.2⟩
     · right
       rw [Bool.and_eq_true] at hr ⊢
       exact ⟨decide_eq_true (Nat.lt_of_lt_of_le (of_decide_eq_true hr.1) h), hr.2⟩
theorem liesAt_mono {P : Program} {e c c' off : Nat} (h : c ≤ c') : ∀ {d u n : Nat}, liesAt P d e c off u n = true → liesAt P d e c' off u n = true
 | 0, _, _, hr => hr
 | d + 1, u, n, hr => by
   unfold liesAt at hr ⊢
   rw [Bool.or_eq_true] at hr ⊢
   rcases hr with hr | hr
   · exact .inl (rowAt_mono h hr)
   · right
     split at hr
     · exact liesAt_mono h hr
     · cases hr
theorem hb_cells : Tryz.prog.cellsOf 85 = 2 := by kernel_rfl
theorem hb_lies {n : Nat} (h : 2 ≤ n) : liesAt Tryz.prog Tryz.prog.depth 85 (n / Tryz.prog.cellsOf 85) 0 83 1 = true := by
 rw [hb_cells]
 exact liesAt_mono (show 1 ≤ n / 2 by omega) (by kernel_rfl)
set_option maxHeartbeats 1000000 in
set_option maxRecDepth 100000 in
theorem copyCheck_used (b : Nat) (w : World) (h0 : w.cell? ⟨b, 0, none⟩ = some (.pointer (some ⟨b, 0, none⟩))) :
   Calls Tryz.prog 107 #[.pointer (some ⟨b, 0, none⟩)] w fun e w' => e = .returned (.tuple #[]) ∧ w' = w := by
 obtain ⟨j, hj, _⟩ := Option.map_eq_some_iff.1 hb_info
 go_enter Tryz.func107, Tryz.ntmps107
 go_wp2
 rw [Lib.run_neq_ptr_same w _ Tryz.underlying81 hj]
 go_wp2
 go_end0
 exact ⟨rfl, rfl⟩
set_option maxHeartbeats 1000000 in
set_option maxRecDepth 100000 in
theorem copyCheck_fresh (b : Nat) (w : World) (h0 : w.cell? ⟨b, 0, none⟩ = some (.pointer none)) {n : Nat} (hn : 2 ≤ n) (hsh : w.shape? b = some (85, n)) (hfz : w.frozen? ⟨b, 0, none⟩ = false) :
   Calls Tryz.prog 107 #[.pointer (some ⟨b, 0, none⟩)] w fun e w' => e = .returned (.tuple #[]) ∧ w' = w.setCell ⟨b, 0, none⟩ (.pointer (some ⟨b, 0, none⟩)) := by
 obtain ⟨j, hj, hjs⟩ := Option.map_eq_some_iff.1 hb_info
 go_enter Tryz.func107, Tryz.ntmps107
 go_wp2
 rw [Lib.run_to_unsafe w ⟨b, 0, none⟩ Tryz.underlying81 Tryz.underlying183 hj (by rw [hjs]; decide) hsh (show 0 < n by omega)]
 simp only [Result.andThen]
 rw [Oper.upon_value]
 go_wp2
 rw [run_callFunc_extern Tryz.func136 (by kernel_rfl) (by kernel_rfl) (by kernel_rfl) (e := Extern.AbiNoEscape.same) (by kernel_rfl)]
 rw [Lib.run_noEscape]
 simp only [Result.andThen]
 rw [Oper.upon_value]
 go_wp2
 rw [Lib.run_from_unsafe w ⟨b, 0, none⟩ Tryz.underlying183 Tryz.underlying81 hj hsh (hb_lies hn)]
 simp only [Result.andThen]
 rw [Oper.upon_value]
 go_wp2
 go_end0
 exact ⟨rfl, rfl⟩
open Go.Fw
variable {σ : Store}
theorem setCell_row {W : World} {b : Nat} {arr : Array Value} {t : TypeId} {fz : Nat × Nat} (h : W.heap[b]? = some (.cells arr t fz)) (h0 : 0 < arr.size) {v : Value} {m : Nat} :
   W.setCell ⟨b, 0, none⟩ v = W.setRow b (arr.toList.take (0 * m + 0) ++ [v] ++ arr.toList.drop (0 * m + 0 + [v].length)).toArray := by
 have e1 : (arr.toList.take (0 * m + 0) ++ [v] ++ arr.toList.drop (0 * m + 0 + [v].length)).toArray = arr.setIfInBounds 0 v := by
   apply Array.toList_inj.1
   obtain ⟨l⟩ := arr
   cases l with
   | nil => exact absurd h0 (by simp)
   | cons x r => simp only [Nat.zero_mul, Nat.zero_add, List.take_zero, List.nil_append, List.length_singleton, List.drop_succ_cons, List.drop_zero, Array.toList_setIfInBounds, List.set_cons_zero, List.singleton_append]
 rw [e1]
 have hlt : b < W.heap.size := (Array.getElem?_eq_some_iff.1 h).1
 have hv : W.heap[b] = .cells arr t fz := (Array.getElem?_eq_some_iff.1 h).2
 have e2 : (W.setCell ⟨b, 0, none⟩ v).heap = (W.setRow b (arr.setIfInBounds 0 v)).heap := by
   apply Array.ext_getElem?
   intro m
   simp only [World.setCell, World.setRow, Array.getElem?_modify]
   by_cases e : b = m
   · rw [if_pos e, if_pos e, ← e, Array.getElem?_eq_getElem hlt, hv]
     rfl
   · rw [if_neg e, if_neg e]
 exact congrArg (fun x => ({ W with heap := x } : World)) e2
theorem copyCheck_ok {id : Nat} {p d : D} (h : σ id = .live t_conf_printer [[p, d]]) (hp : p = .nilp ∨ p = .el (.osl id 0 1) 0 0) :
   DCalls Tryz.prog n_strings_Builder_copyCheck [.one (.el (.osl id 0 1) 0 0)] σ fun r σ' => r = .tup [] ∧ σ' = σ.set id (.live t_conf_printer [[.el (.osl id 0 1) 0 0, d]]) := by
 refine ⟨by kernel_rfl, fun k β W vs hS hsz hv => ?_⟩
 obtain ⟨v, rfl, hV⟩ := one_arg hsz hv
 have hV : V k β W v (.el (.osl id 0 1) 0 0) := hV
 cases hV with
 | elosl _ _ _ _ _ bi hb hi =>
   obtain ⟨arr, g1, g2, g3, g4, g5, g6, g7⟩ := hS.obj id bi _ _ hb h
   have hes : bi.es = 2 := by rw [← g3]; exact hb_cells
   obtain ⟨v0, hv0, hV0⟩ := g7 0 [p, d] 0 p rfl rfl
   obtain ⟨v1, hv1, hV1⟩ := g7 0 [p, d] 1 d rfl rfl
   have hsz2 : 2 ≤ arr.size := by rw [hes] at g4; simpa using g4
   have c0 : W.cell? ⟨bi.blk, 0, none⟩ = some v0 := by rw [cell_of_heap g1]; simpa using hv0
   have e0 : (0 + 0) * bi.es + 0 = 0 := by simp
   rw [e0]
   have hself : V k β W (.pointer (some ⟨bi.blk, 0, none⟩)) (.el (.osl id 0 1) 0 0) := by
     have := V.elosl (k := k) (W := W) id 0 1 0 0 bi hb (by omega)
     rwa [e0] at this
   rcases hp with rfl | rfl
   · cases hV0
     have hw : W.setCell ⟨bi.blk, 0, none⟩ (.pointer (some ⟨bi.blk, 0, none⟩)) = W.setRow bi.blk (arr.toList.take (0 * bi.es + 0) ++ [Value.pointer (some ⟨bi.blk, 0, none⟩)] ++ arr.toList.drop (0 * bi.es + 0 + [Value.pointer (some ⟨bi.blk, 0, none⟩)].length)).toArray :=
       setCell_row g1 (by omega)
     refine (copyCheck_fresh bi.blk W c0 hsz2 (by simp [World.shape?, g1]) (by simp [World.frozen?, g1])).mono ?_
     rintro e W' ⟨rfl, rfl⟩
     rw [hw]
     have hS2 := hS.setRow hb h (r := 0) (row := [.nilp, d]) rfl (off := 0) (us := [.pointer (some ⟨bi.blk, 0, none⟩)]) (ys := [.el (.osl id 0 1) 0 0]) ⟨rfl, fun i v d hv hd => by
       match i, hv, hd with
       | 0, hv, hd => cases hv; cases hd; exact hself
       | i + 1, hv, hd => simp at hv⟩ (by simp) g1
     have hne : σ id ≠ .dead := by rw [h]; intro e; cases e
     refine ⟨.tuple #[], .tup [], _, k, β, rfl, ⟨rfl, rfl⟩, ⟨#[], rfl, rfl, fun i u x hu => by simp at hu⟩, hS2, ⟨fun _ h => h, fun _ h => .inl h, fun _ _ h => h, fun _ _ h => .inl h, fun i hi => ?_⟩, ⟨rfl, rfl, rfl, by rw [setRow_size]; exact Nat.le_refl _, fun b hb' hn => setRow_get _ _ _ _ fun e => hn id bi hb hne e.symm⟩⟩
     rw [Store.set_ne _ _ (by intro e; subst e; exact hne hi)]; exact hi
   · have : v0 = .pointer (some ⟨bi.blk, 0, none⟩) := by
       cases hV0 with
       | elosl _ _ _ _ _ bi' hb' _ =>
         rw [hb] at hb'; cases hb'
         simp
     subst this
     refine (copyCheck_used bi.blk W c0).mono ?_
     rintro e W' ⟨rfl, rfl⟩
     refine ⟨.tuple #[], .tup [], σ, k, β, rfl, ⟨rfl, ?_⟩, ⟨#[], rfl, rfl, fun i u x hu => by simp at hu⟩, hS, Ghost.refl _ _ _ _, Frm.refl _ _ _⟩
     funext i
     unfold Store.set
     split
     · rename_i hi; rw [hi, h]
     · rfl
end
section
theorem idle_freeze (w : World) (g n : Nat) : Fw.Idle (fun x => x = g) w (w.drew.freeze ⟨g, 0, none⟩ n) := by
 unfold World.freeze
 split
 · exact ⟨rfl, rfl, rfl, Nat.le_refl _, fun _ _ _ => rfl⟩
 · refine ⟨rfl, rfl, rfl, by simp, fun x hx hn => ?_⟩
   simp only [Array.getElem?_modify]
   rw [if_neg (show ¬ g = x from fun e => hn e.symm)]
   rfl
set_option maxHeartbeats 1000000 in
set_option maxRecDepth 100000 in
theorem string_in (b g cap : Nat) (w : World) (l : List UInt8) (cur : Array Value) (h0 : l ≠ []) (hb : w.cell? ⟨b, 1, none⟩ = some (.slice (some ⟨g, 0, none⟩) l.length cap)) (hg : w.heap[g]? = some (.cells cur 5 (0, 0)))
   (hc : ∀ (j : Nat) x, l[j]? = some x → cur[j]? = some (.int .u8 x.toNat)) (hcs : l.length ≤ cur.size) (hlc : l.length ≤ cap) (hsz : l.length ≤ 140737488355328) :
   Calls Tryz.prog 49 #[.pointer (some ⟨b, 0, none⟩)] w fun e w' => e = .returned (.string ⟨l.toArray⟩) ∧ Fw.Idle (fun x => x = g) w w' := by
 have hl0 : l.length ≠ 0 := by simpa using h0
 have c1 : w.drew.cell? ⟨b, 1, none⟩ = some (.slice (some ⟨g, 0, none⟩) l.length cap) := hb
 have hSD : (Builtin.unsafeSliceData_ #[72] 138 #[.slice (some ⟨g, 0, none⟩) l.length cap]).run Tryz.prog w.drew = .ok (.pointer (some ⟨g, 0, none⟩)) w.drew :=
   Lib.run_unsafeSliceData_row _ _ _ _ _ _ (by omega)
 have hUS : (Builtin.unsafeString_ #[138, 3] 9 #[.pointer (some ⟨g, 0, none⟩), .int .i64 l.length]).run Tryz.prog w.drew = .ok (.string ⟨l.toArray⟩) (w.drew.freeze ⟨g, 0, none⟩ l.length) := by
   refine Lib.run_unsafeString_row w.drew 138 3 9 5 Tryz.underlying138 (by kernel_rfl) g cur.size (by have hg' : w.drew.heap[g]? = some (.cells cur 5 (0, 0)) := hg; simp [World.shape?, hg']) l h0 (by omega) (by omega) ?_
   intro j x hx
   have := hc j x hx
   have hg' : w.drew.heap[g]? = some (.cells cur 5 (0, 0)) := hg
   rw [Fw.add_mk, Fw.cell_of_heap hg', Nat.zero_add]
   exact this
 have mixed : Tryz.prog.follows .mixedOrders = true := by kernel_rfl
 go_enter Tryz.func49, Tryz.ntmps49
 go_wp2
 go_region_o
 all_goals (go_wp2; go_ret; exact ⟨rfl, idle_freeze w g _⟩)
open Go.Fw
variable {σ : Store}
def byteRow (b : UInt8) : List D := [.int .u8 b.toNat]
theorem string_ok {id bid : Nat} {p : D} {rows : List (List D)} {l : List UInt8} (h : σ id = .live t_conf_printer [[p, .osl bid 0 l.length]]) (hb : σ bid = .live t_uint8 rows) (hr : rows.take l.length = l.map byteRow) (h0 : l ≠ []) (hsz : l.length ≤ 140737488355328) :
   DCalls Tryz.prog n_strings_Builder_String [.one (.el (.osl id 0 1) 0 0)] σ fun r σ' => r = .a (sA (baOf l)) ∧ σ' = σ.set bid .dead := by
 refine ⟨by kernel_rfl, fun k β W vs hS hvs hv => ?_⟩
 obtain ⟨v, rfl, hV⟩ := one_arg hvs hv
 have hV : V k β W v (.el (.osl id 0 1) 0 0) := hV
 have hl0 : 0 < l.length := List.length_pos_iff.2 h0
 cases hV with
 | elosl _ _ _ _ _ bi hbi hi =>
   obtain ⟨arr, g1, g2, g3, g4, g5, g6, g7⟩ := hS.obj id bi _ _ hbi h
   have hes : bi.es = 2 := by rw [← g3]; exact hb_cells
   obtain ⟨v1, hv1, hV1⟩ := g7 0 [p, .osl bid 0 l.length] 1 _ rfl rfl
   have e0 : (0 + 0) * bi.es + 0 = 0 := by simp
   rw [e0]
   cases hV1 with
   | osl _ _ _ cap a bj hbj ha hlc hs hcm =>
     have ha := ha (by omega)
     subst ha
     obtain ⟨cur, q1, q2, q3, q4, q5, q6, q7⟩ := hS.obj bid bj _ _ hbj hb
     have hes2 : bj.es = 1 := by rw [← q3]; exact c_uint8
     have hrl : l.length ≤ rows.length := by
       have := congrArg List.length hr
       simp at this; omega
     have c1 : W.cell? ⟨bi.blk, 1, none⟩ = some (.slice (some ⟨bj.blk, 0, none⟩) l.length cap) := by
       rw [cell_of_heap g1]; simpa using hv1
     rw [hes2] at q4 q7
     refine (string_in bi.blk bj.blk cap W l cur h0 c1 q1 (fun j x hx => ?_) (by omega) hlc hsz).mono ?_
     · have hrj : rows[j]? = some (byteRow x) := by
         have hj := (List.getElem?_eq_some_iff.1 hx).1
         have : (rows.take l.length)[j]? = some (byteRow x) := by rw [hr]; simp [hx]
         rwa [List.getElem?_take_of_lt hj] at this
       obtain ⟨u, hu, hVu⟩ := q7 j (byteRow x) 0 _ hrj rfl
       rw [V.inv_int hVu] at hu
       simpa using hu
     · rintro e W' ⟨rfl, hid⟩
       have hne : σ bid ≠ .dead := by rw [hb]; intro e; cases e
       have hgv : Given σ (σ.set bid .dead) := fun i => by
         by_cases e : i = bid
         · subst e; exact .inr ⟨hne, (by rw [hb]; intro e; cases e), Store.set_same _ _ _⟩
         · exact .inl (Store.set_ne _ _ e)
       have ht : Turned β σ (σ.set bid .dead) bj.blk := ⟨bid, bj, hbj, hne, Store.set_same _ _ _, rfl⟩
       refine ⟨_, .a (sA (baOf l)), _, k, β, rfl, ⟨rfl, rfl⟩, V.str _, (hS.give hgv).idle hid (fun b e => by subst e; exact Turned.off hS hgv ht), ⟨fun _ h => h, fun _ h => .inl h, fun _ _ h => h, fun _ _ h => .inl h, fun i hi => ?_⟩, ?_⟩
       · rcases hgv i with e | ⟨e, _, _⟩
         · rw [e]; exact hi
         · exact absurd hi e
       · exact (Frm.refl β σ W).idle hid fun b e _ => by subst e; exact ⟨bid, bj, hbj, hne, rfl⟩
end
end Go.Proofs.YtfdffboelecgoaaGreatDoor
namespace Go.Fw
section
section
variable {P : Program} {k k' k0 k2 : Nat → Prop} {β β' β0 β2 : Bk} {σ σ' σ0 σd σ2 : Store} {W W' W'' W0 W2 : World} {B B' : Nat → Prop} {b n : Nat} {γ γ2 : Nat → Nat} {env env2 : Env} {a : Act} {tmps tmps2 : Array Value}
def hasRange : Code → Bool
 | .rangeFunc .. => true
 | .seq x y => hasRange x || hasRange y
 | .cond _ x y => hasRange x || hasRange y
 | .block _ c => hasRange c
 | .loop c => hasRange c
 | _ => false
def NthB (xs : List ByteArray) (i : Nat) (s : ByteArray) : Prop := xs[i]? = some s
def dRange (P : Program) (an : Ann) (g : Operand) (ps : Array Tmp) (assign body : Code) (Qx : Exit → Kont) : Kont := fun env σ =>
 match g, ps.toList with
 | .tmp gt, [p] => match noDef assign, noDef body with
   | true, true => ∃ (f : FuncId) (caps : List (Bool × List D)) (σd : Store) (xs : List ByteArray) (I : Nat → Store → Prop) (X : Store → Prop), get (clE env) gt = .val (.one (.fn f [] caps)) ∧ SeqOk P f caps σ σd xs ∧ I 0 σd ∧
     (∀ (i : Nat) (s : ByteArray) (s0 : Store), NthB xs i s → I i s0 → dwp P an assign (fun e env1 s1 => match e with
       | .normal => dwp P an body (fun e _ s2 => match e with | .normal => I (i + 1) s2 | .ret => X s2 | _ => False) (clE env1) s1
       | _ => False) (setE (clE env) p (.val (.one (.str s)))) s0) ∧
     (∀ s : Store, I xs.length s → Qx .normal (clE env) s) ∧ ∀ s : Store, X s → Qx .ret (clE env) s
   | _, _ => False
 | _, _ => False
def dwpX (P : Program) (an : Ann) (n : Nat) : Code → (Exit → Kont) → Kont
 | .seq x y, Qx => match hasRange x with
   | true => dwpX P an n x (thenX (fun env σ => dwp P an y Qx (clE env) σ) Qx)
   | false => dwp P an x (thenX (dwpX P an n y Qx) Qx)
 | .block id c, Qx => dwpX P an n c (inBlockX id Qx)
 | .rangeFunc g ps assign body, Qx => dRange P an g ps assign body Qx
 | _, _ => fun _ _ => False
def OutR (P : Program) (k0 : Nat → Prop) (β0 : Bk) (σ0 : Store) (W0 : World) (n : Nat) (Qx : Exit → Kont) : Exit → Act → World → Prop := fun e a' W' =>
 ∃ env' σ' k' β' γ', Qx e env' σ' ∧ RelX P k0 β0 σ0 W0 n k' β' γ' a'.tmps W' env' σ' ∧ ND env' ∧
   (a'.defers = [] ∨ ∃ D, a'.defers = [{ target := .collected D, args := #[] }] ∧ W0.heap.size ≤ D ∧ W'.heap[D]? = some (.deferred (some [])) ∧ Off k' β' σ' D)
theorem OutR.mono {Q Q' : Exit → Kont} {e e' : Exit} {a' : Act} (hq : ∀ env σ, Q e env σ → Q' e' env σ) (h : OutR P k0 β0 σ0 W0 n Q e a' W') : OutR P k0 β0 σ0 W0 n Q' e' a' W' := by
 obtain ⟨env', σ', k', β', γ', h1, h2⟩ := h
 exact ⟨env', σ', k', β', γ', hq _ _ h1, h2⟩
theorem OutR.of {S : Nat → Prop} {env0 : Env} {Q : Exit → Kont} {e : Exit} {a' : Act} (h : OutX [] P k0 β0 σ0 W0 n S env0 Q e a' W') : OutR P k0 β0 σ0 W0 n Q e a' W' := by
 obtain ⟨env', σ', h1, ⟨⟨h2, k', β', γ', h3⟩, h4⟩, _⟩ := h
 exact ⟨env', σ', k', β', γ', h1, h3, h4, .inl h2⟩
theorem RelX.flat (h0 : RelX P k0 β0 σ0 W0 n k β γ tmps W env σ) (h : RelX P k β σ W n k2 β2 γ2 tmps2 W2 env2 σ2) : RelX P k0 β0 σ0 W0 n k2 β2 γ2 tmps2 W2 env2 σ2 where
 srel := h.srel
 slot := h.slot
 box s cs hb := by
   obtain ⟨h1, h2, h3, h4, h5⟩ := h.box s cs hb
   exact ⟨h1, h2, h3, Nat.le_trans h0.frm.size h4, h5⟩
 inj := h.inj
 ghost := h0.ghost.trans h0.frm.size h.ghost
 frm := h0.frm.trans h0.ghost h.frm
 size := h.size
theorem dwpX_ok (hm : P.follows .mixedOrders = true) (an : Ann) (m : Nat) :
   ∀ (c : Code) (Qx : Exit → Kont) (a : Act) (W : World) (env : Env) (σ : Store), (∀ d ∈ dsts c, d < n) → Rel [] P k0 β0 σ0 W0 n a W env σ ∧ ND env → dwpX P an n c Qx env σ →
     c.wpIn Fence.wide m P (OutR P k0 β0 σ0 W0 n Qx) a W
 | .seq x y, Qx, a, W, env, σ, hd, hr, h => by
   have hdx : ∀ d ∈ dsts x, d < n := fun d hd' => hd d (by simp [dsts, hd'])
   have hdy : ∀ d ∈ dsts y, d < n := fun d hd' => hd d (by simp [dsts, hd'])
   have h : (match hasRange x with
     | true => dwpX P an n x (thenX (fun env σ => dwp P an y Qx (clE env) σ) Qx)
     | false => dwp P an x (thenX (dwpX P an n y Qx) Qx)) env σ := h
   cases hx : hasRange x with
   | true =>
     rw [hx] at h
     refine wpIn_seq (wpIn_mono (dwpX_ok hm an m x _ a W env σ hdx hr h) fun e a1 W1 he => ?_)
     cases e with
     | normal =>
       obtain ⟨env1, σ1, k1, β1, γ1, q1, q2, q3, q4⟩ := he
       have q2 := q2.clean
       have q3 := clE_nd env1
       have hb := q2.anew (clE_noBx env1) q2.srel (Ghost.refl _ _ _ _) fun _ _ => rfl
       refine wpIn_wide.2 (Code.wp_mono (fun e a2 W2 he2 => ?_) (dwp_ok (df := a1.defers) hm an y Qx a1 W1 (clE env1) σ1 hdy ⟨⟨rfl, _, _, _, hb⟩, q3⟩ q1))
       obtain ⟨env2, σ2, r1, ⟨⟨r2, k2, β2, γ2, r3⟩, r4⟩, _⟩ := he2
       refine ⟨env2, σ2, k2, β2, γ2, r1, q2.flat r3, r4, ?_⟩
       rw [r2]
       rcases q4 with q4 | ⟨D, q4, q5, q6, q7⟩
       · exact .inl q4
       · have hlt : D < W1.heap.size := (Array.getElem?_eq_some_iff.1 q6).1
         exact .inr ⟨D, q4, q5, (r3.frm.block D hlt q7.2).trans q6, q7.ghost hlt r3.ghost⟩
     | _ => exact he.mono fun _ _ h => h
   | false =>
     rw [hx] at h
     refine wpIn_seq (wpIn_mono (wpIn_wide.2 (dwp_ok hm an x _ a W env σ hdx hr h)) fun e a1 W1 he => ?_)
     cases e with
     | normal =>
       obtain ⟨env1, σ1, q1, q2, _⟩ := he
       exact dwpX_ok hm an m y Qx a1 W1 env1 σ1 hdy q2 q1
     | _ => exact (OutR.of he).mono fun _ _ h => h
 | .block id c, Qx, a, W, env, σ, hd, hr, h => by
   refine wpIn_block (wpIn_mono (dwpX_ok hm an m c (inBlockX id Qx) a W env σ hd hr h) fun e a1 W1 he => ?_)
   cases e with
   | exit id' =>
     simp only [Exit.inBlock]
     by_cases h1 : id' = id
     · rw [if_pos h1]
       exact he.mono fun _ _ h => by simpa [inBlockX, h1] using h
     · rw [if_neg h1]
       exact he.mono fun _ _ h => by simpa [inBlockX, h1] using h
   | _ => exact he.mono fun _ _ h => h
 | .rangeFunc g ps assign body, Qx, a, W, env, σ, hd, hr, h => by
   obtain ⟨⟨hdf, k, β, γ, hX⟩, hnd⟩ := hr
   have hX := hX.clean
   have hnd := clE_nd env
   have h1 := clE_noBx env
   have h : dRange P an g ps assign body Qx env σ := h
   unfold dRange at h
   split at h
   · rename_i p hps _
     split at h
     · rename_i h2 h3
       obtain ⟨f, caps, σd, xs, I, X, h4, h5, h6, h7, h8, h9⟩ := h
       have hps : ps = #[p] := by
         have := congrArg List.toArray hps
         simpa using this
       subst hps
       have fin : ∀ (e : Exit) (Y : Store → Prop) a' W', (∀ s, Y s → Qx e (clE env) s) → After P k0 β0 σ0 W0 n γ (clE env) a Y a' W' → OutR P k0 β0 σ0 W0 n Qx e a' W' := by
         rintro e Y a' W' hY ⟨D, k', β', σ', rfl, r1, r2, r3, r4, r5⟩
         exact ⟨clE env, σ', k', β', γ, hY _ r5, r1, hnd, .inr ⟨D, rfl, r2, r3, r4⟩⟩
       exact range_ok hm an hX hnd h1 hdf (hd p (by simp [dsts])) (fun d hd' => hd d (by simp [dsts, hd'])) (fun d hd' => hd d (by simp [dsts, hd'])) h2 h3 h4 h5 h6 h7 (fun a' W' => fin _ _ a' W' h8) (fun a' W' => fin _ _ a' W' h9)
     · exact h.elim
   · exact h.elim
 | .skip, _, _, _, _, _, _, _, h => h.elim
 | .region .., _, _, _, _, _, _, _, h => h.elim
 | .cond .., _, _, _, _, _, _, _, h => h.elim
 | .loop _, _, _, _, _, _, _, _, h => h.elim
 | .label _, _, _, _, _, _, _, _, h => h.elim
 | .exit _, _, _, _, _, _, _, _, h => h.elim
 | .goto _, _, _, _, _, _, _, _, h => h.elim
 | .ret, _, _, _, _, _, _, _, h => h.elim
 | .scope _, _, _, _, _, _, _, _, h => h.elim
 | .refuse _, _, _, _, _, _, _, _, h => h.elim
def resOf (P : Program) (σ : Store) (env : Env) : ResultVar → A → Prop
 | .tmp t, x => toA (opE env (.tmp t)) = some x
 | .cell t ty, x => ∃ s i off row cs, opE env (.tmp t) = .el s i off ∧ Row σ s i row ∧ (row.drop off).take (P.cellsOf ty) = cs ∧ cs.length = P.cellsOf ty ∧
     ((isAggT P ty = some true ∧ x = .agg cs) ∨ (isAggT P ty = some false ∧ ∃ d, cs = [d] ∧ x = .one d))
def ress (P : Program) (σ : Store) (env : Env) : List ResultVar → List A → Prop
 | [], as0 => as0 = []
 | r :: rs, as0 => ∃ x xs, as0 = x :: xs ∧ resOf P σ env r x ∧ ress P σ env rs xs
def resK (P : Program) (σ : Store) (env : Env) (r : ResultVar) (K : A → Prop) : Prop := match r with
 | .tmp t => match toA (opE env (.tmp t)) with | some x => K x | none => False
 | .cell t ty => match opE env (.tmp t), isAggT P ty, zeroCells P ty with
   | .el s i off, some true, some zs => match decide (zs.length = P.cellsOf ty) with
     | true => ∃ row : List D, Row σ s i row ∧ dpat zs (fun r => r) fun cs => (row.drop off).take zs.length = cs ∧ K (.agg cs)
     | false => False
   | .el s i off, some false, some [z] => match decide (1 = P.cellsOf ty) with
     | true => ∃ row : List D, Row σ s i row ∧ dpat [z] (fun r => r) fun cs => (row.drop off).take 1 = cs ∧ match cs with | [d] => K (.one d) | _ => False
     | false => False
   | _, _, _ => False
def ressK (P : Program) (σ : Store) (env : Env) : List ResultVar → (List A → Prop) → Prop
 | [], K => K []
 | r :: rs, K => resK P σ env r fun x => ressK P σ env rs fun xs => K (x :: xs)
theorem resK_of {env : Env} {r : ResultVar} {K : A → Prop} (h : resK P σ env r K) : ∃ x, resOf P σ env r x ∧ K x := by
 unfold resK at h
 split at h
 · split at h
   · rename_i x hx; exact ⟨x, hx, h⟩
   · exact h.elim
 · split at h
   · rename_i e1 e2 e3
     split at h
     · rename_i hd
       obtain ⟨row, hr, h⟩ := h
       obtain ⟨cs, hl, h1, h2⟩ := dpat_cases h
       have hd := of_decide_eq_true hd
       exact ⟨.agg cs, ⟨_, _, _, row, cs, e1, hr, by rw [← hd]; exact h1, by rw [hl]; exact hd, .inl ⟨e2, rfl⟩⟩, h2⟩
     · exact h.elim
   · rename_i e1 e2 e3
     split at h
     · rename_i hd
       obtain ⟨row, hr, h⟩ := h
       obtain ⟨cs, hl, h1, h2⟩ := dpat_cases h
       have hd := of_decide_eq_true hd
       match cs, hl, h1, h2 with
       | [d], _, h1, h2 => exact ⟨.one d, ⟨_, _, _, row, [d], e1, hr, by rw [← hd]; exact h1, by rw [← hd]; rfl, .inr ⟨e2, d, rfl, rfl⟩⟩, h2⟩
       | [], _, _, h2 => exact h2.elim
       | _ :: _ :: _, _, _, h2 => exact h2.elim
     · exact h.elim
   · exact h.elim
theorem ressK_of {env : Env} : ∀ (rs : List ResultVar) (K : List A → Prop), ressK P σ env rs K → ∃ xs, ress P σ env rs xs ∧ K xs
 | [], K, h => ⟨[], rfl, h⟩
 | r :: rs, K, h => by
   obtain ⟨x, h1, h2⟩ := resK_of h
   obtain ⟨xs, h3, h4⟩ := ressK_of rs _ h2
   exact ⟨x :: xs, ⟨x, xs, rfl, h1, h3⟩, h4⟩
def retS (P : Program) (fn : Func) (Q : RV → Store → Prop) : Exit → Kont
 | .normal, env, σ | .ret, env, σ => ressK P σ (clE env) fn.results.toList fun as0 => match as0 with | [a] => Q (.a a) σ | as0 => Q (.tup as0) σ
 | _, _, _ => False
theorem res_run (h : RelX P k0 β0 σ0 W0 n k β γ tmps W env σ) {r : ResultVar} {x : A} (hr : resOf P σ env r x) : ∃ u, (rrun tmps r).run P W = .ok u W ∧ VA k β W u x := by
 cases r with
 | tmp t => exact ⟨_, rfl, toA_va (opE_ev h { tmps := tmps, defers := [] } rfl (.tmp t) 0).1 hr⟩
 | cell t ty =>
   obtain ⟨s, i, off, row, cs, he, hrow, hcs, hl, hx⟩ := hr
   have hev := (opE_ev h { tmps := tmps, defers := [] } rfl (.tmp t) 0).1
   rw [he] at hev
   have hev : V k β W (tmps.getD t undef) (.el s i off) := hev
   obtain ⟨b, o', vals, hv, hvl, hVL, hcell⟩ := el_vals h.srel hev hrow hcs hl
   have hrun : ∀ u, (loadVar ty ⟨b, o', none⟩).run P W = .ok u W → (rrun tmps (.cell t ty)).run P W = .ok u W := by
     intro u hu
     unfold rrun
     simp only [hv, asAddr, pure_bind]
     exact hu
   rcases hx with ⟨hagg, rfl⟩ | ⟨hagg, d, rfl, rfl⟩
   · obtain ⟨r1, _⟩ := loadVar_run (P := P) hagg hvl hcell
     exact ⟨_, hrun _ (r1 rfl), _, rfl, hVL⟩
   · obtain ⟨_, r2⟩ := loadVar_run (P := P) hagg hvl hcell
     match vals, hVL with
     | [u], hVL => exact ⟨u, hrun _ (r2 u rfl rfl), hVL.2 0 u d rfl rfl⟩
     | [], hVL => exact absurd hVL.1 (by simp)
     | _ :: _ :: _, hVL => exact absurd hVL.1 (by simp)
theorem ress_run (h : RelX P k0 β0 σ0 W0 n k β γ tmps W env σ) : ∀ (rs : List ResultVar) (as0 : List A), ress P σ env rs as0 →
   ∃ vs : List Value, (rs.mapM (rrun tmps)).run P W = .ok vs W ∧ vs.length = as0.length ∧ ∀ (i : Nat) v x, vs[i]? = some v → as0[i]? = some x → VA k β W v x
 | [], as0, hd => by subst hd; exact ⟨[], rfl, rfl, fun i v x hv => by simp at hv⟩
 | r :: rs, as0, hd => by
   obtain ⟨x, xs, rfl, h1, h2⟩ := hd
   obtain ⟨u, hu, hva⟩ := res_run h h1
   obtain ⟨vs, q1, q2, q3⟩ := ress_run h rs xs h2
   refine ⟨u :: vs, mapM_run_cons hu q1, by simp [q2], fun i v y hv hy => ?_⟩
   cases i with
   | zero => simp only [List.getElem?_cons_zero, Option.some.injEq] at hv hy; subst hv hy; exact hva
   | succ i => exact q3 i v y (by simpa using hv) (by simpa using hy)
theorem RelX.idle (h : RelX P k0 β0 σ0 W0 n k β γ tmps W env σ) (hnb : NoBx env) (g : Idle B W W2) (ho : ∀ b, B b → Off k β σ b) (hn : ∀ b, B b → W0.heap.size ≤ b) : RelX P k0 β0 σ0 W0 n k β γ tmps W2 env σ where
 srel := h.srel.idle g ho
 slot s := (h.slot s).mono (fun _ h => h) (fun _ _ h => h) (g.keep h.srel fun b hb => (ho b hb).1)
 box s cs hb := absurd hb (hnb s cs)
 inj s s' cs cs' hb := absurd hb (hnb s cs)
 ghost := h.ghost
 frm := h.frm.idle g fun b hb hlt => by have := hn b hb; omega
 size := h.size
def dbodyX (P : Program) (fn : Func) (an : Ann) (args : List A) (σ : Store) (Q : RV → Store → Prop) : Prop :=
 match fn.body with
 | some c => match (dsts c).all (fun d => Nat.blt d fn.ntmps), Nat.ble args.length fn.ntmps with
   | true, true => dwpX P an fn.ntmps c (retS P fn Q) (argsEnv 0 args) σ
   | _, _ => False
 | none => False
theorem dcalls_of_bodyX {f : FuncId} {fn : Func} {args : List A} {Q : RV → Store → Prop} (hm : P.follows .mixedOrders = true) (hok : callOk P f = true) (hf : P.funcs[f]? = some fn) (an : Ann)
   (h : dbodyX P fn an args σ Q) : DCalls P f args σ Q := by
 refine ⟨hok, fun k β W vs hS hsz hv => ?_⟩
 unfold dbodyX at h
 split at h
 · rename_i c hb
   obtain ⟨hd, hm', h⟩ : (∀ d ∈ dsts c, d < fn.ntmps) ∧ args.length ≤ fn.ntmps ∧ dwpX P an fn.ntmps c (retS P fn Q) (argsEnv 0 args) σ := by
     split at h
     · rename_i hd hm'
       exact ⟨fun d hd' => by have := List.all_eq_true.1 hd d hd'; exact Nat.lt_of_succ_le (Nat.le_of_ble_eq_true this), Nat.le_of_ble_eq_true hm', h⟩
     · exact h.elim
   obtain ⟨hr, hnd⟩ := rel_args hS hm' hsz hv
   refine callsIn_wide.1 (callsIn_of_wp_marks (n := 0) hf hb trivial (wpIn_mono (dwpX_ok hm an 0 c (retS P fn Q) _ W (argsEnv 0 args) σ hd ⟨hr, hnd⟩ h) fun e a' W' hq => ?_))
   obtain ⟨env', σ', k', β', γ', q1, q3, _, q4⟩ := hq
   have q3 := q3.clean
   have hnb := clE_noBx env'
   have fin : (ressK P σ' (clE env') fn.results.toList fun as0 => match as0 with | [a] => Q (.a a) σ' | as0 => Q (.tup as0) σ') →
       LeavesInM Fence.wide 0 P fn a'.tmps (fun e W' => ∃ v r σ' k' β', e = .returned v ∧ Q r σ' ∧ VR k' β' W' v r ∧ SRel P k' β' W' σ' ∧ Ghost k β σ W k' β' σ' ∧ Frm β σ W W') a'.defers .returning W' := by
     intro hK
     obtain ⟨as0, hres, q1⟩ := ressK_of _ _ hK
     have main : ∀ W2, RelX P k β σ W fn.ntmps k' β' γ' a'.tmps W2 (clE env') σ' → LeavesInM Fence.wide 0 P fn a'.tmps (fun e W' => ∃ v r σ' k' β', e = .returned v ∧ Q r σ' ∧ VR k' β' W' v r ∧ SRel P k' β' W' σ' ∧ Ghost k β σ W k' β' σ' ∧ Frm β σ W W') [] .returning W2 := by
       intro W2 hX
       obtain ⟨vs', r1, r2, r3⟩ := ress_run hX fn.results.toList as0 hres
       have hrun : (fn.results.mapM (rrun a'.tmps)).run P W2 = .ok vs'.toArray W2 := by
         have e1 : fn.results = fn.results.toList.toArray := by simp
         rw [e1, List.mapM_toArray]
         show ((fn.results.toList.mapM (rrun a'.tmps)) >>= fun x => pure x.toArray).run P W2 = _
         rw [Sem.run_bind, r1]
         rfl
       have hrr : (results fn a'.tmps).run P W2 = .ok (if h : vs'.toArray.size = 1 then vs'.toArray[0] else .tuple vs'.toArray) W2 := by
         show ((fn.results.mapM (rrun a'.tmps)) >>= fun vs => pure (if h : vs.size = 1 then vs[0] else .tuple vs)).run P W2 = _
         rw [Sem.run_bind, hrun]
         rfl
       refine ⟨_, hrr, ?_⟩
       match as0, r2, r3, q1 with
       | [x], r2, r3, q1 =>
         match vs', r2, r3 with
         | [v], _, r3 => exact ⟨v, .a x, σ', k', β', rfl, q1, r3 0 v x rfl rfl, hX.srel, hX.ghost, hX.frm⟩
       | [], r2, r3, q1 =>
         match vs', r2 with
         | [], _ => exact ⟨.tuple #[], .tup [], σ', k', β', rfl, q1, ⟨#[], rfl, rfl, fun i u y hu => by simp at hu⟩, hX.srel, hX.ghost, hX.frm⟩
       | x :: y :: r, r2, r3, q1 =>
         match vs', r2, r3 with
         | v :: u :: w, r2, r3 =>
           refine ⟨.tuple (v :: u :: w).toArray, .tup (x :: y :: r), σ', k', β', ?_, q1, ⟨_, rfl, by simpa using r2, fun i u' z hu hz => r3 i u' z (by simpa using hu) hz⟩, hX.srel, hX.ghost, hX.frm⟩
           rw [dif_neg (by simp)]
     rcases q4 with q4 | ⟨D, q4, q5, q6, q7⟩
     · rw [q4]; exact main W' q3
     · rw [q4]
       refine ⟨by simp, .inl ⟨D, _, rfl, run_takeDeferred q6, main _ (q3.idle hnb (Idle.put _ _ _) (fun b hb => by subst hb; exact q7) fun b hb => by subst hb; exact q5)⟩⟩
   cases e with
   | normal => exact fin q1
   | ret => exact fin q1
   | _ => exact q1.elim
 · exact h.elim
end
end
end Go.Fw
namespace Go.Proofs.YtfdffboelecgoaaGreatDoor
open Go.Proofs Go.RowKit Go.Shelf
section
attribute [local go_sem] Oper.semAt_some
theorem cell_setCell_ne {W : World} {b b' : Nat} {v : Value} (h : b' ≠ b) : (W.setCell ⟨b, 0, none⟩ v).cell? ⟨b', 0, none⟩ = W.cell? ⟨b', 0, none⟩ := by
 simp only [World.cell?, World.setCell, Array.getElem?_modify]
 rw [if_neg (Ne.symm h)]
theorem idle_setCell {W : World} {b : Nat} {v : Value} {B : Nat → Prop} (h : B b) : Fw.Idle B W (W.setCell ⟨b, 0, none⟩ v) :=
 ⟨rfl, rfl, rfl, by simp [World.setCell], fun x hx hn => by
   simp only [World.setCell, Array.getElem?_modify]
   rw [if_neg (show ¬ b = x from fun e => hn (e ▸ h))]⟩
set_option maxRecDepth 100000 in
set_option maxHeartbeats 1000000 in
theorem splitSeq_in (n l b1 b2 b3 : Nat) (c : UInt8) (xs : List ByteArray) (B : Nat → Prop) (J : Nat → World → Prop) (Jx : World → Prop) (h12 : b1 ≠ b2) (h13 : b1 ≠ b3) (h23 : b2 ≠ b3) (hB : B b2)
   (hJ : ∀ i W1 W2, J i W1 → Fw.Idle B W1 W2 → J i W2)
   (hY : ∀ m i s W1, xs[i]? = some s → J i W1 → YieldAt Fence.wide m Tryz.prog l #[.string s] W1 fun e W' =>
     ((e = .returned (.bool true) ∧ J (i + 1) W') ∨ (e = .returned (.bool false) ∧ Jx W')) ∧ W'.heap[b1]? = W1.heap[b1]? ∧ W'.heap[b2]? = W1.heap[b2]? ∧ W'.heap[b3]? = W1.heap[b3]?)
   (W : World) (s : ByteArray) (hxs : xs = Fw.pieces c s)
   (c1 : W.cell? ⟨b1, 0, none⟩ = some (.string ⟨#[c]⟩)) (c2 : W.cell? ⟨b2, 0, none⟩ = some (.string s)) (c3 : W.cell? ⟨b3, 0, none⟩ = some (.int .i64 0)) (f2 : W.frozen? ⟨b2, 0, none⟩ = false) (hs : s.size ≤ 9223372036854775807)
   (h0 : J 0 W) :
   CallsIn Fence.wide n Tryz.prog 109 #[.func (.yield l) #[] #[], .pointer (some ⟨b1, 0, none⟩), .pointer (some ⟨b2, 0, none⟩), .pointer (some ⟨b3, 0, none⟩)] W fun e W' =>
     (∃ v, e = .returned v) ∧ (J xs.length W' ∨ Jx W') := by
 refine callsIn_of_wp Tryz.func109 rfl trivial ?_ rfl
 simp only [Tryz.ntmps109, List.size_toArray, List.length_cons, List.length_nil, Nat.reduceAdd, Nat.reduceSub, Array.replicate_succ, Array.replicate_zero, List.push_toArray, List.append_toArray, List.nil_append, List.cons_append]
 gi_wp2
 gi_loopw [7, 8] (fun _ _ wr => ∃ (i : Nat) (r : ByteArray), r.size ≤ s.size ∧ xs.drop i = Fw.pieces c r ∧ i ≤ xs.length ∧ wr.cell? ⟨b1, 0, none⟩ = some (.string ⟨#[c]⟩) ∧ wr.cell? ⟨b2, 0, none⟩ = some (.string r) ∧ wr.cell? ⟨b3, 0, none⟩ = some (.int .i64 0) ∧ wr.frozen? ⟨b2, 0, none⟩ = false ∧ J i wr)
   (fun _ _ wr => match wr.cell? ⟨b2, 0, none⟩ with | some (.string r) => r.size | _ => 0)
 case atStart => exact ⟨0, s, Nat.le_refl _, by simp [hxs], Nat.zero_le _, c1, c2, c3, f2, h0⟩
 case round =>
   obtain ⟨i, r, hrs, hd, hi, d1, d2, d3, d4, hj⟩ := hrel
   rcases Lib.indexB_cases r ⟨#[c]⟩ with hix | ⟨j, hix, hjr⟩
   · have hp : Fw.pieces c r = [r] := by
       unfold Fw.pieces; exact Lib.splitB_miss _ _ _ _ hix
     have hxi : xs[i]? = some r := by
       have := congrArg (·[0]?) (hd.trans hp)
       simpa using this
     have hlen : xs.length = i + 1 := by
       have := congrArg List.length (hd.trans hp)
       simp at this; omega
     have hib : Lib.indexByte r.data.toList c = -1 := by rw [← Lib.index_one]; exact hix
     obtain ⟨fn, tmps, assign, body, hy, hR⟩ := hY (n - 1) i r wr hxi hj
     have hcall : ∀ W, Calls Tryz.prog 111 #[.string r, .string ⟨#[c]⟩] W fun e w' => e = .returned (.int .i64 (-1)) ∧ w' = W := fun W => hib ▸ Any.strings_Index_one indexLays r c W
     gi_wp2
     refine ⟨trivial, fun h => (by cases h), ?_⟩
     refine (callsIn_wide.2 (hcall _)).mono ?_
     rintro e w' ⟨rfl, rfl⟩
     gi_wp2
     refine ⟨fun h => (by cases h), hR.mono ?_⟩
     rintro e W' ⟨⟨rfl, hJ'⟩ | ⟨rfl, hJx⟩, _⟩
     · gi_wp2
       go_end0
       exact ⟨⟨_, rfl⟩, .inl (by rw [hlen]; exact hJ')⟩
     · gi_wp2
       go_end0
       exact ⟨⟨_, rfl⟩, .inr hJx⟩
   · have hjr : j + 1 ≤ r.size := hjr
     have hp : Fw.pieces c r = r.extract 0 j :: Fw.pieces c (r.extract (j + 1) r.size) := by
       unfold Fw.pieces
       rw [Lib.countB_hit r ⟨#[c]⟩ j (Nat.le_refl _) hix, Nat.add_comm, Lib.splitB_hit _ _ _ _ j hix]
       rfl
     have hxi : xs[i]? = some (r.extract 0 j) := by
       have := congrArg (·[0]?) (hd.trans hp)
       simpa using this
     have hlt : i < xs.length := (List.getElem?_eq_some_iff.1 hxi).1
     have hd2 : xs.drop (i + 1) = Fw.pieces c (r.extract (j + 1) r.size) := by
       rw [← List.drop_drop, hd, hp]; rfl
     have hib : Lib.indexByte r.data.toList c = (j : Int) := by rw [← Lib.index_one]; exact hix
     have hsz : r.size ≤ 9223372036854775807 := Nat.le_trans hrs hs
     obtain ⟨fn, tmps, assign, body, hy, hR⟩ := hY (n - 1) i (r.extract 0 j) wr hxi hj
     have hcall : ∀ W, Calls Tryz.prog 111 #[.string r, .string ⟨#[c]⟩] W fun e w' => e = .returned (.int .i64 (j : Int)) ∧ w' = W := fun W => hib ▸ Any.strings_Index_one indexLays r c W
     gi_wp2
     refine ⟨trivial, fun h => (by cases h), ?_⟩
     refine (callsIn_wide.2 (hcall _)).mono ?_
     rintro e w' ⟨rfl, rfl⟩
     gi_wp2
     refine ⟨fun h => (by cases h), hR.mono ?_⟩
     rintro e W' ⟨⟨rfl, hJ'⟩ | ⟨rfl, hJx⟩, g1, g2, g3⟩
     · have e1 : W'.cell? ⟨b1, 0, none⟩ = some (.string ⟨#[c]⟩) := by simp only [World.cell?] at d1 ⊢; rw [g1]; exact d1
       have e2 : W'.cell? ⟨b2, 0, none⟩ = some (.string r) := by simp only [World.cell?] at d2 ⊢; rw [g2]; exact d2
       have e3 : W'.cell? ⟨b3, 0, none⟩ = some (.int .i64 0) := by simp only [World.cell?] at d3 ⊢; rw [g3]; exact d3
       have e4 : W'.frozen? ⟨b2, 0, none⟩ = false := by simp only [World.frozen?] at d4 ⊢; rw [g2]; exact d4
       gi_wp2
       have hes : (r.extract (j + 1) r.size).size = r.size - (j + 1) := by simp
       have k1 : (W'.setCell ⟨b2, 0, none⟩ (.string (r.extract (j + 1) r.size))).cell? ⟨b1, 0, none⟩ = some (.string ⟨#[c]⟩) := (cell_setCell_ne h12).trans e1
       have k2 : (W'.setCell ⟨b2, 0, none⟩ (.string (r.extract (j + 1) r.size))).cell? ⟨b2, 0, none⟩ = some (.string (r.extract (j + 1) r.size)) := World.cell?_setCell_same' _ _ _ (by rw [e2]; rfl)
       have k3 : (W'.setCell ⟨b2, 0, none⟩ (.string (r.extract (j + 1) r.size))).cell? ⟨b3, 0, none⟩ = some (.int .i64 0) := (cell_setCell_ne (Ne.symm h23)).trans e3
       refine ⟨⟨i + 1, r.extract (j + 1) r.size, by omega, hd2, by omega, k1, k2, k3, by rw [World.frozen?_setCell]; exact e4, hJ _ _ _ hJ' (idle_setCell hB)⟩, ?_⟩
       rw [k2, d2]
       show (r.extract (j + 1) r.size).size < r.size
       omega
     · gi_wp2
       refine bodyPost_ret (results_none rfl _ _ _) rfl ?_
       exact ⟨⟨_, rfl⟩, .inr hJx⟩
open Go.Fw in
abbrev boxC (id : Nat) : Bool × List D := (false, [.el (.osl id 0 1) 0 0])
open Go.Fw in
theorem splitSeq_ok {σ : Store} {i1 i2 i3 : Nat} {c : UInt8} {s : ByteArray} (h1 : σ i1 = .live t_string [[.str ⟨#[c]⟩]]) (h2 : σ i2 = .live t_string [[.str s]]) (h3 : σ i3 = .live t_int [[.int .i64 0]])
   (h12 : i1 ≠ i2) (h13 : i1 ≠ i3) (h23 : i2 ≠ i3) (hs : s.size ≤ 9223372036854775807) :
   SeqOk Tryz.prog n_strings_splitSeq_1 [boxC i1, boxC i2, boxC i3] σ (((σ.set i1 .dead).set i2 .dead).set i3 .dead) (pieces c s) := by
 have hnl : ∀ {i t r}, σ i = SO.live t r → σ i ≠ .dead ∧ σ i ≠ .free := fun h => by rw [h]; exact ⟨(by intro e; cases e), (by intro e; cases e)⟩
 have hdead : ∀ i, (((σ.set i1 .dead).set i2 .dead).set i3 .dead) i = if i = i1 ∨ i = i2 ∨ i = i3 then .dead else σ i := fun i => by
   unfold Store.set
   by_cases e3 : i = i3
   · simp [e3]
   · by_cases e2 : i = i2
     · simp [e2]
     · by_cases e1 : i = i1 <;> simp [e1, e2, e3]
 refine ⟨by kernel_rfl, fun i => ?_, fun n l k β W lb J Jx hS hV hJ hJx hY h0 => ?_⟩
 · rw [hdead]
   by_cases e : i = i1 ∨ i = i2 ∨ i = i3
   · rw [if_pos e]
     rcases e with rfl | rfl | rfl
     · exact .inr ⟨(hnl h1).1, (hnl h1).2, rfl⟩
     · exact .inr ⟨(hnl h2).1, (hnl h2).2, rfl⟩
     · exact .inr ⟨(hnl h3).1, (hnl h3).2, rfl⟩
   · rw [if_neg e]; exact .inl rfl
 · -- the closure's values
   obtain ⟨p1, p2, p3, rfl, q1, q2, q3⟩ : ∃ p1 p2 p3, lb = #[p1, p2, p3] ∧ V k β W p1 (.el (.osl i1 0 1) 0 0) ∧ V k β W p2 (.el (.osl i2 0 1) 0 0) ∧ V k β W p3 (.el (.osl i3 0 1) 0 0) := by
     cases hV with
     | fn _ _ _ _ _ g g' a1 a2 a3 a4 a5 a6 =>
       exact ⟨g' 0 0, g' 1 0, g' 2 0, by rw [a4]; rfl, a6 0 false _ 0 _ rfl rfl, a6 1 false _ 0 _ rfl rfl, a6 2 false _ 0 _ rfl rfl⟩
   have box : ∀ {p i t d}, σ i = SO.live t [[d]] → V k β W p (.el (.osl i 0 1) 0 0) → ∃ bi v, β i = some bi ∧ p = .pointer (some ⟨bi.blk, 0, none⟩) ∧ W.cell? ⟨bi.blk, 0, none⟩ = some v ∧ V k β W v d ∧ W.frozen? ⟨bi.blk, 0, none⟩ = false := by
     intro p i t d hl hv
     cases hv with
     | elosl _ _ _ _ _ bi hb hi =>
       obtain ⟨arr, g1, g2, g3, g4, g5, g6, g7⟩ := hS.obj i bi t _ hb hl
       obtain ⟨v, hv, hV⟩ := g7 0 [d] 0 d rfl rfl
       refine ⟨bi, v, hb, by simp, ?_, hV, by simp [World.frozen?, g1]⟩
       rw [cell_of_heap g1]; simpa using hv
   obtain ⟨bi1, v1, hb1, rfl, c1, w1, _⟩ := box h1 q1
   obtain ⟨bi2, v2, hb2, rfl, c2, w2, f2⟩ := box h2 q2
   obtain ⟨bi3, v3, hb3, rfl, c3, w3, _⟩ := box h3 q3
   rw [V.inv_str w1] at c1
   rw [V.inv_str w2] at c2
   rw [V.inv_int w3] at c3
   have t1 : Turned β σ (((σ.set i1 .dead).set i2 .dead).set i3 .dead) bi1.blk := ⟨i1, bi1, hb1, (hnl h1).1, by rw [hdead, if_pos (.inl rfl)], rfl⟩
   have t2 : Turned β σ (((σ.set i1 .dead).set i2 .dead).set i3 .dead) bi2.blk := ⟨i2, bi2, hb2, (hnl h2).1, by rw [hdead, if_pos (.inr (.inl rfl))], rfl⟩
   have t3 : Turned β σ (((σ.set i1 .dead).set i2 .dead).set i3 .dead) bi3.blk := ⟨i3, bi3, hb3, (hnl h3).1, by rw [hdead, if_pos (.inr (.inr rfl))], rfl⟩
   refine splitSeq_in n l bi1.blk bi2.blk bi3.blk c (pieces c s) _ J Jx (fun e => h12 (hS.inj i1 i2 bi1 bi2 hb1 hb2 (hnl h1).1 (hnl h2).1 e)) (fun e => h13 (hS.inj i1 i3 bi1 bi3 hb1 hb3 (hnl h1).1 (hnl h3).1 e)) (fun e => h23 (hS.inj i2 i3 bi2 bi3 hb2 hb3 (hnl h2).1 (hnl h3).1 e)) t2 hJ
     (fun m i x W1 hx hj => (hY m i x W1 hx hj).mono fun e W' ⟨g1, _, g3⟩ => ⟨g1, g3 _ t1, g3 _ t2, g3 _ t3⟩) W s rfl c1 c2 c3 f2 hs h0
end
end Go.Proofs.YtfdffboelecgoaaGreatDoor
section
set_option maxRecDepth 20000
namespace Go.Proofs.YtfdffboelecgoaaGreatDoor
open Go.Fw Go.Proofs Go.RowKit
variable {σ : Store}
def i64 (n : Int) : Prop := -9223372036854775808 ≤ n ∧ n ≤ 9223372036854775807
theorem itoa_ok {n : Int} (h : i64 n) : Pure Tryz.prog n_strconv_Itoa [iA n] σ (.a (sA (baOf (Lib.itoa n)))) :=
 itoa_Pure itoaLays (g := Tryz.prog.globalNamed "internal/strconv.uint64pow10" |>.getD 0) (by kernel_rfl) h.1 h.2
theorem atoi_ok {s : ByteArray} (h : s.size ≤ 281474976710656) : Pure Tryz.prog n_strconv_Atoi [sA s] σ (.tup [iA (atoiR s.data.toList).1, .one (.ifc (atoiR s.data.toList).2)]) :=
 atoi_Pure atoiLays (by kernel_rfl) (by kernel_rfl) h
theorem hi9 : (Tryz.prog.info? (splitLays_ren.t 9)).map (fun i => (i.zero, i.size, i.bytes)) = some (some (.string ByteArray.empty), 1, 16) := by kernel_rfl
theorem genSplit_ok {s : ByteArray} {c : UInt8} (hs : s.size < 4294967281) :
   DCalls Tryz.prog n_strings_genSplit [sA s, sA ⟨#[c]⟩, iA 0, iA (-1)] σ fun r σ' => ∃ id, σ id = .free ∧ r = .a (.one (.osl id 0 (pieces c s).length)) ∧ σ' = σ.set id (.live t_string ((pieces c s).map strRow)) :=
 genSplit_DCalls splitLays hi9 hs
theorem split_ok {s : ByteArray} {c : UInt8} (hs : s.size < 4294967281) :
   DCalls Tryz.prog n_strings_Split [sA s, sA ⟨#[c]⟩] σ fun r σ' => ∃ id, σ id = .free ∧ r = .a (.one (.osl id 0 (pieces c s).length)) ∧ σ' = σ.set id (.live t_string ((pieces c s).map strRow)) := by
 refine W_strings_Split s ⟨#[c]⟩ σ _ ((genSplit_ok hs).mono ?_)
 rintro r σ' ⟨id, h1, rfl, h3⟩
 exact ⟨_, rfl, id, h1, rfl, h3⟩
theorem splitSeqF_ok {s : ByteArray} {c : UInt8} :
   DCalls Tryz.prog n_strings_SplitSeq [sA s, sA ⟨#[c]⟩] σ fun r σ' => ∃ i1 i2 i3, i1 ≠ i2 ∧ i1 ≠ i3 ∧ i2 ≠ i3 ∧ σ i1 = .free ∧ σ i2 = .free ∧ σ i3 = .free ∧ r = .a (.one (.fn n_strings_splitSeq_1 [] [boxC i1, boxC i2, boxC i3])) ∧
     σ' = ((σ.set i2 (.live t_string [[.str s]])).set i1 (.live t_string [[.str ⟨#[c]⟩]])).set i3 (.live t_int [[.int .i64 0]]) := by
 refine W_strings_SplitSeq s ⟨#[c]⟩ σ _ ((?_ : DCalls _ _ _ _ fun r σ' => ∃ i1 i2 i3, i1 ≠ i2 ∧ i1 ≠ i3 ∧ i2 ≠ i3 ∧ σ i1 = .free ∧ σ i2 = .free ∧ σ i3 = .free ∧ r = .a (.one (.fn n_strings_splitSeq_1 [] [boxC i1, boxC i2, boxC i3])) ∧
     σ' = ((σ.set i2 (.live t_string [[.str s]])).set i1 (.live t_string [[.str ⟨#[c]⟩]])).set i3 (.live t_int [[.int .i64 0]])).mono ?_)
 · refine W_strings_splitSeq s ⟨#[c]⟩ 0 σ _ fun i2 h2 i1 h1 i3 h3 => ?_
   have n12 : i1 ≠ i2 := fun e => by rw [e, Store.set_same] at h1; cases h1
   have n13 : i1 ≠ i3 := fun e => by rw [← e, Store.set_same] at h3; cases h3
   rw [Store.set_ne _ _ n12] at h1
   have n23 : i2 ≠ i3 := fun e => by rw [← e, Store.set_ne _ _ n12.symm, Store.set_same] at h3; cases h3
   rw [Store.set_ne _ _ n13.symm, Store.set_ne _ _ n23.symm] at h3
   exact ⟨i1, i2, i3, n12, n13, n23, h1, h2, h3, rfl, rfl⟩
 · rintro r σ' ⟨i1, i2, i3, a1, a2, a3, a4, a5, a6, rfl, a8⟩
   exact ⟨_, rfl, i1, i2, i3, a1, a2, a3, a4, a5, a6, rfl, a8⟩
def ends (c : UInt8) (s : ByteArray) : Bool := decide (1 ≤ s.size) && (ByteArray.toList (s.extract (s.size - 1) s.size) == ByteArray.toList ⟨#[c]⟩)
def cutEnd (c : UInt8) (s : ByteArray) : ByteArray := if ends c s then s.extract 0 (s.size - 1) else s
theorem hasSuffix_ok {s : ByteArray} {c : UInt8} (hs : s.size ≤ 9223372036854775807) : Pure Tryz.prog n_internal_stringslite_HasSuffix [sA s, sA ⟨#[c]⟩] σ (.a (bA (ends c s))) := by
 have e1 : (ByteArray.size ⟨#[c]⟩ : Int) = 1 := rfl
 refine W_internal_stringslite_HasSuffix s ⟨#[c]⟩ σ _ (bcd (fun h => ?_) (fun h => ?_))
 · rw [e1] at h ⊢
   have h1 : 1 ≤ s.size := by omega
   have e2 : w64 ((s.size : Int) - 1) = ((s.size - 1 : Nat) : Int) := by rw [w64_id (by omega) (by omega)]; omega
   rw [e2]
   refine ⟨by omega, by omega, ?_, rfl⟩
   rw [Int.toNat_natCast]
   unfold ends
   rw [decide_eq_true h1, Bool.true_and]
 · rw [e1] at h
   refine ⟨?_, rfl⟩
   unfold ends
   rw [decide_eq_false (by omega), Bool.false_and]
theorem cutSuffix_ok {s : ByteArray} {c : UInt8} (hs : s.size ≤ 9223372036854775807) : Pure Tryz.prog n_strings_CutSuffix [sA s, sA ⟨#[c]⟩] σ (.tup [sA (cutEnd c s), bA (ends c s)]) := by
 have e1 : (ByteArray.size ⟨#[c]⟩ : Int) = 1 := rfl
 have key : Pure Tryz.prog n_internal_stringslite_CutSuffix [sA s, sA ⟨#[c]⟩] σ (.tup [sA (cutEnd c s), bA (ends c s)]) := by
   refine W_internal_stringslite_CutSuffix s ⟨#[c]⟩ σ _ ((hasSuffix_ok hs).use ⟨_, rfl, bcnot (fun h => ?_) (fun h => ?_)⟩)
   · unfold cutEnd; rw [h]; exact ⟨rfl, rfl⟩
   · have h1 : 1 ≤ s.size := by
       unfold ends at h
       rw [Bool.and_eq_true] at h
       exact of_decide_eq_true h.1
     rw [e1]
     have e2 : w64 ((s.size : Int) - 1) = ((s.size - 1 : Nat) : Int) := by rw [w64_id (by omega) (by omega)]; omega
     rw [e2]
     refine ⟨by omega, by omega, by omega, ?_, rfl⟩
     rw [Int.toNat_natCast]
     unfold cutEnd; rw [if_pos h, h]; rfl
 exact W_strings_CutSuffix s ⟨#[c]⟩ σ _ (key.use ⟨_, _, rfl, rfl, rfl⟩)
end Go.Proofs.YtfdffboelecgoaaGreatDoor
end
section
set_option maxRecDepth 20000
namespace Go.Proofs.YtfdffboelecgoaaGreatDoor
open Go.Fw Go.Proofs Go.RowKit
variable {σ σ0 : Store}
theorem pr_store {s : Store} {id : Nat} {t : TypeId} {row xs : List D} {off : Nat} {K : Store → Prop} (hs : s id = .live t [row]) (ho : off + xs.length ≤ row.length)
   (hK : ∀ s', s' id = .live t [patch row off xs] → (∀ i, i ≠ id → s' i = s i) → K s') : storeEl xs s (.osl id 0 1) 0 off K :=
 ⟨id, 0, 1, t, [row], row, rfl, by omega, hs, rfl, ho, hK _ (Store.set_same _ _ _) fun i hi => Store.set_ne _ _ hi⟩
theorem pr_other {s s' : Store} {el : TypeId} {d : D} {rs : List (List D)} {id : Nat} (h : Own Tryz.prog σ0 s el d rs) (hid : σ0 id = .free) (hd : idOf d ≠ some id) (hs : ∀ i, i ≠ id → s' i = s i) : Own Tryz.prog σ0 s' el d rs :=
 ⟨h.at_.same fun i a n e => hs i fun e2 => hd (by subst e; rw [← e2]; rfl), fun i hi => by
   have hne : i ≠ id := fun e => hi (by rw [e]; exact hid)
   rw [hs i hne]; exact h.ext i hi, h.new, h.nsl, h.nz⟩
abbrev pO (id : Nat) : D := .el (.osl id 0 1) 0 0
def Buf (s : Store) (d : D) : Prop := ∀ bid i n, d = .osl bid i n → i = 0 ∧ ∃ rows, s bid = .live t_uint8 rows
theorem Buf.same {s s' : Store} {d : D} {id : Nat} (h : Buf s d) (hd : idOf d ≠ some id) (hs : ∀ i, i ≠ id → s' i = s i) : Buf s' d := fun b i n e => by
 obtain ⟨h1, rows, h2⟩ := h b i n e
 exact ⟨h1, rows, by rw [hs b fun e2 => hd (by rw [e, ← e2]; rfl)]; exact h2⟩
theorem Buf.ext {s s' : Store} {d : D} (h : Buf s d) (he : Ext s s') : Buf s' d := fun b i n e => by
 obtain ⟨h1, rows, h2⟩ := h b i n e
 exact ⟨h1, rows, by rw [he b (by rw [h2]; intro e; cases e)]; exact h2⟩
theorem append_buf {s : Store} {d x : D} {rs ns : List (List D)} {bytes : Nat} {K : D → Store → Prop} (h : Own Tryz.prog σ0 s t_uint8 d rs) (hb : Buf s d) (hx : At Tryz.prog s t_uint8 x ns) (h1 : bytes * (rs.length + ns.length) ≤ 140737488355328)
   (h2 : rs.length + ns.length < 2 ^ 60) (hk : ∀ d' s', Own Tryz.prog σ0 s' t_uint8 d' (rs ++ ns) → (∀ i, s i ≠ .free → (∀ a b, d ≠ .osl i a b) → s' i = s i) → (∀ i a b, d' = .osl i a b → s i = .free ∨ ∃ a b, d = .osl i a b) → Buf s' d' → K d' s') :
   appendTo Tryz.prog s t_uint8 bytes d x K := by
 obtain ⟨rs', ns', q1, q2, q3, q4, q5⟩ := h.append (K := fun d' s' => Own Tryz.prog σ0 s' t_uint8 d' (rs ++ ns) ∧ (∀ i, s i ≠ .free → (∀ a b, d ≠ .osl i a b) → s' i = s i) ∧ ∀ i a b, d' = .osl i a b → s i = .free ∨ ∃ a b, d = .osl i a b) hx h1 h2 fun d' s' a b c => ⟨a, b, c⟩
 refine ⟨rs', ns', q1, q2, q3, q4, fun d' s' ha => ?_⟩
 obtain ⟨a, b, c⟩ := q5 d' s' ha
 refine hk d' s' a b c ?_
 rcases ha with ⟨_, rfl, rfl⟩ | ⟨_, id, _, rfl, rfl⟩ | ⟨_, id, i0, len, t, rows, rfl, hl, rfl, rfl⟩
 · exact hb
 · intro b i n e
   injection e with e1 e2 e3
   subst e1 e2
   exact ⟨rfl, _, Store.set_same _ _ _⟩
 · intro b i n e
   injection e with e1 e2 e3
   subst e1 e2
   obtain ⟨g1, rows', g2⟩ := hb _ _ _ rfl
   rw [hl] at g2
   injection g2 with g2 _
   subst g2
   exact ⟨g1, _, Store.set_same _ _ _⟩
structure BlIn (σ0 s : Store) (id : Nat) (l : List UInt8) : Prop where
 new : σ0 id = .free
 cell : ∃ p d, s id = .live t_conf_printer [[p, d]] ∧ (p = .nilp ∨ p = pO id) ∧ Own Tryz.prog σ0 s t_uint8 d (l.map byteRow) ∧ idOf d ≠ some id ∧ Buf s d
theorem BlIn.ext {s : Store} {id : Nat} {l : List UInt8} (h : BlIn σ0 s id l) : Ext σ0 s := by
 obtain ⟨p, d, _, _, h, _⟩ := h.cell; exact h.ext
theorem BlIn.ext' {s s' : Store} {id : Nat} {l : List UInt8} (h : BlIn σ0 s id l) (he : Ext s s') : BlIn σ0 s' id l := by
 obtain ⟨p, d, h1, hp, h2, h3, h4⟩ := h.cell
 exact ⟨h.new, p, d, by rw [he id (by rw [h1]; intro e; cases e)]; exact h1, hp, h2.ext' he, h3, h4.ext he⟩
theorem appendToR_of {P : Program} {el : TypeId} {bytes es : Nat} {d : D} {ns : List (List D)} {K : D → Store → Prop} (h : appendTo P σ el bytes d (.sl es ns) K) : appendToR P σ el bytes d ns K := by
 obtain ⟨rs, ns', h1, h2, h3, h4, h5⟩ := h
 have h2 : ns' = ns := h2.1
 subst h2
 exact ⟨rs, h1, h3, h4, h5⟩
theorem at_bytes (s : Store) {l : List UInt8} (h : l.length < 2 ^ 60) : At Tryz.prog s t_uint8 (.sl 1 (l.map byteRow)) (l.map byteRow) :=
 ⟨⟨rfl, .inr c_uint8.symm⟩, by simpa using h, fun es rows e => by injection e with e1 _; rw [← e1, c_uint8]⟩
theorem slot_ne {s : Store} {id : Nat} {p d d2 : D} {rs : List (List D)} (h1 : s id = .live t_conf_printer [[p, d]]) (h3 : idOf d ≠ some id) (i2 : ∀ i a b, d2 = .osl i a b → s i = .free ∨ ∃ a b, d = .osl i a b) : idOf d2 ≠ some id := fun hi => by
 cases d2 with
 | osl j a m =>
   have : j = id := by simpa [idOf] using hi
   subst this
   rcases i2 j a m rfl with g | ⟨a', b', g⟩
   · rw [h1] at g; cases g
   · exact h3 (by rw [g]; rfl)
 | _ => simp [idOf] at hi
theorem BlIn.checked {s : Store} {id : Nat} {l : List UInt8} (h : BlIn σ0 s id l) {Q : RV → Store → Prop}
   (hQ : ∀ s' d, s' id = .live t_conf_printer [[pO id, d]] → Own Tryz.prog σ0 s' t_uint8 d (l.map byteRow) → idOf d ≠ some id → Buf s' d → Q (.tup []) s') : DCalls Tryz.prog n_strings_Builder_copyCheck [.one (pO id)] s Q := by
 obtain ⟨hn, p, d, h1, hp, h2, h3, h4⟩ := h
 refine (copyCheck_ok h1 hp).mono ?_
 rintro r s' ⟨rfl, rfl⟩
 exact hQ _ d (Store.set_same _ _ _) (pr_other h2 hn h3 fun i hi => Store.set_ne _ _ hi) h3 (h4.same h3 fun i hi => Store.set_ne _ _ hi)
theorem writeString_ok {s : Store} {id : Nat} {l : List UInt8} (h : BlIn σ0 s id l) {t : ByteArray} (hs : l.length + t.size ≤ 2 ^ 46) :
   DCalls Tryz.prog n_strings_Builder_WriteString [.one (pO id), sA t] s fun r s' => (∃ n, r = .tup [iA n, .one (.ifc false)]) ∧ BlIn σ0 s' id (l ++ t.data.toList) := by
 have hts : t.data.toList.length = t.size := by simp
 refine W_strings_Builder_WriteString (pO id) t s _ (h.checked fun s1 d h1 h2 h3 h4 => ⟨rfl, trivial, _, _, _, rfl, _, box_row h1, d, rfl, appendToR_of (es := 1) (append_buf h2 h4 (at_bytes s1 (l := t.data.toList) (by omega)) (by simp; omega) (by simp; omega) fun d2 s2 o2 k2 i2 b2 => ⟨trivial, _, _, _, rfl, ?_⟩)⟩)
 have hs2 : s2 id = .live t_conf_printer [[pO id, d]] := by
   rw [k2 id (by rw [h1]; intro e; cases e) (fun a b e => h3 (by rw [e]; rfl)), h1]
 have hd2 := slot_ne (rs := []) h1 h3 i2
 rw [← List.map_append] at o2
 refine pr_store hs2 (by simp) fun s3 hs3 ho3 => ⟨⟨_, rfl⟩, h.new, pO id, d2, by rw [hs3]; rfl, .inr rfl, pr_other o2 h.new hd2 ho3, hd2, b2.same hd2 ho3⟩
theorem writeByte_ok {s : Store} {id : Nat} {l : List UInt8} (h : BlIn σ0 s id l) {c : UInt8} (hs : l.length < 2 ^ 46) :
   DCalls Tryz.prog n_strings_Builder_WriteByte [.one (pO id), .one (.int .u8 c.toNat)] s fun r s' => (∃ d, r = .a (.one d)) ∧ BlIn σ0 s' id (l ++ [c]) := by
 refine W_strings_Builder_WriteByte (pO id) c.toNat s _ (h.checked fun s1 d h1 h2 h3 h4 => ⟨rfl, trivial, _, _, _, rfl, _, box_row h1, d, rfl, newObj_intro fun i s2 hi _ he hi2 => ?_⟩)
 have hA : At Tryz.prog s2 t_uint8 (.osl i 0 1) ([c].map byteRow) := At.fresh hi2 (by simp) rfl
 have h1' : s2 id = .live t_conf_printer [[pO id, d]] := by rw [he id (by rw [h1]; intro e; cases e)]; exact h1
 refine append_buf (h2.ext' he) (h4.ext he) hA (by simp; omega) (by simp; omega) fun d2 s3 o2 k2 i2 b2 => ⟨trivial, _, _, _, rfl, ?_⟩
 have hs3 : s3 id = .live t_conf_printer [[pO id, d]] := by
   rw [k2 id (by rw [h1']; intro e; cases e) (fun a b e => h3 (by rw [e]; rfl)), h1']
 have hd2 := slot_ne (rs := []) h1' h3 i2
 rw [← List.map_append] at o2
 refine pr_store hs3 (by simp) fun s4 hs4 ho4 => ⟨⟨_, rfl⟩, h.new, pO id, d2, by rw [hs4]; rfl, .inr rfl, pr_other o2 h.new hd2 ho4, hd2, b2.same hd2 ho4⟩
def sayL (w : List UInt8) (ns : List Int) : List UInt8 := w ++ (ns.map fun n => 32 :: Lib.itoa n).flatten
def lineL (w : List UInt8) (ns : List Int) : List UInt8 := sayL w ns ++ [10]
theorem sayL_nil (w : List UInt8) : sayL w [] = w := by simp [sayL]
theorem sayL_succ (w : List UInt8) {ns : List Int} {j : Nat} {x : Int} (hx : ns[j]? = some x) : sayL w (ns.take (j + 1)) = sayL w (ns.take j) ++ 32 :: Lib.itoa x := by
 unfold sayL
 rw [List.take_add_one, hx]
 simp
theorem itoa_len {n : Int} (h : i64 n) : (Lib.itoa n).length ≤ 21 := Lib.itoa_length_le n h.1 h.2
theorem sayL_take (w : List UInt8) (ns : List Int) (j : Nat) : (sayL w (ns.take j)).length ≤ (sayL w ns).length := by
 have e : sayL w ns = sayL w (ns.take j) ++ ((ns.drop j).map fun n => 32 :: Lib.itoa n).flatten := by
   unfold sayL
   rw [List.append_assoc, ← List.flatten_append, ← List.map_append, List.take_append_drop]
 rw [e, List.length_append]; omega
theorem say_ok {s : Store} {id : Nat} {l : List UInt8} (h : BlIn σ0 s id l) {w : ByteArray} {d : D} {ns : List Int} (hd : At Tryz.prog σ0 t_int d (ns.map Go.Fw.encI)) (hi : ∀ n ∈ ns, i64 n) (hs : l.length + (sayL w.data.toList ns).length ≤ 2 ^ 46) :
   DCalls Tryz.prog n_conf_printer_say [.one (pO id), sA w, .one d] s fun r s' => r = .tup [] ∧ BlIn σ0 s' id (l ++ sayL w.data.toList ns) := by
 have hws : w.data.toList.length = w.size := by simp
 have h0 := sayL_take w.data.toList ns 0
 rw [List.take_zero, sayL_nil] at h0
 have hds := hd.size
 rw [List.length_map] at hds
 refine W_conf_printer_say (pO id) w d s _ ⟨trivial, _, _, _, rfl, (writeString_ok h (t := w) (by omega)).mono ?_⟩
 rintro r s1 ⟨⟨n0, rfl⟩, h1⟩
 refine ⟨n0, _, rfl, (hd.ext h1.ext).lenK ⟨fun n s' => ∃ j : Nat, n = j ∧ j ≤ ns.length ∧ BlIn σ0 s' id (l ++ sayL w.data.toList (ns.take j)), fun n _ => ns.length - n.toNat, ⟨0, rfl, by omega, by rw [List.take_zero, sayL_nil]; exact h1⟩, ?_⟩⟩
 rintro n s2 ⟨j, rfl, hj, h2⟩
 rw [List.length_map]
 refine bcd (fun hlt => ?_) (fun hge => ⟨rfl, ?_⟩)
 · obtain ⟨x, hx⟩ := get_of_lt (l := ns) (j := j) (by omega)
   have hxi := hi x (List.mem_of_getElem? hx)
   have hl := itoa_len hxi
   have ht := sayL_take w.data.toList ns (j + 1)
   rw [sayL_succ _ hx, List.length_append, List.length_cons] at ht
   have hbs : (baOf (Lib.itoa x)).size = (Lib.itoa x).length := by show (Lib.itoa x).toArray.size = _; simp
   refine (hd.ext h2.ext).load (map_get hx) c_int rfl ⟨x, rfl, trivial, _, _, _, rfl, (itoa_ok hxi).use ⟨_, rfl, by rw [hbs]; omega, (writeString_ok h2 (t := baOf (32 :: Lib.itoa x)) ?_).mono ?_⟩⟩
   · have : (baOf (32 :: Lib.itoa x)).size = (Lib.itoa x).length + 1 := by show (32 :: Lib.itoa x).toArray.size = _; simp
     rw [this, List.length_append]; omega
   rintro r s3 ⟨⟨n1, rfl⟩, h3⟩
   refine ⟨n1, _, rfl, ⟨j + 1, by rw [w64_succ (by omega)], by omega, ?_⟩, by rw [w64_succ (by omega)]; show ns.length - ((j + 1 : Nat) : Int).toNat < ns.length - ((j : Nat) : Int).toNat; omega⟩
   rw [sayL_succ _ hx, ← List.append_assoc]; exact h3
 · have e : j = ns.length := by omega
   rw [e, List.take_length] at h2
   exact h2
theorem line_ok {s : Store} {id : Nat} {l : List UInt8} (h : BlIn σ0 s id l) {w : ByteArray} {d : D} {ns : List Int} (hd : At Tryz.prog σ0 t_int d (ns.map Go.Fw.encI)) (hi : ∀ n ∈ ns, i64 n) (hs : l.length + (lineL w.data.toList ns).length ≤ 2 ^ 46) :
   DCalls Tryz.prog n_conf_printer_line [.one (pO id), sA w, .one d] s fun r s' => r = .tup [] ∧ BlIn σ0 s' id (l ++ lineL w.data.toList ns) := by
 have hs' : l.length + ((sayL w.data.toList ns).length + 1) ≤ 2 ^ 46 := by
   unfold lineL at hs
   rw [List.length_append] at hs
   exact hs
 refine W_conf_printer_line (pO id) w d s _ ((say_ok h hd hi (by omega)).mono ?_)
 rintro r s1 ⟨rfl, h1⟩
 refine ⟨rfl, trivial, _, _, _, rfl, (writeByte_ok h1 (c := 10) (by rw [List.length_append]; omega)).mono ?_⟩
 rintro r s2 ⟨⟨e, rfl⟩, h2⟩
 refine ⟨_, rfl, rfl, ?_⟩
 unfold lineL
 rw [← List.append_assoc]; exact h2
theorem pr_live {s : Store} {el : TypeId} {d : D} {rs : List (List D)} (h : At Tryz.prog s el d rs) {i : Nat} (hi : idOf d = some i) : s i ≠ .free := by
 cases d with
 | osl id a n =>
   have e : id = i := by simpa [idOf] using hi
   subst e
   obtain ⟨t, rows, g1, _⟩ := h.rows
   rw [g1]; intro e; cases e
 | _ => simp [idOf] at hi
theorem pr_id {s : Store} {el : TypeId} {d : D} {rs : List (List D)} {i : Nat} (h : Own Tryz.prog σ0 s el d rs) (hi : idOf d = some i) : σ0 i = .free := by
 cases d with
 | osl id a n =>
   have e : id = i := by simpa [idOf] using hi
   subst e
   exact h.new _ _ _ rfl
 | _ => simp [idOf] at hi
theorem BlIn.newList {s : Store} {id : Nat} {l : List UInt8} (h : BlIn σ0 s id l) {i : Nat} {so : SO} (hi : s i = .free) : ∃ τ, BlIn τ (s.set i so) id l ∧ Ext σ0 τ ∧ τ i = so := by
 obtain ⟨hn, p, d, h1, hp, h2, h3, h4⟩ := h
 have hne : i ≠ id := fun e => by rw [e, h1] at hi; cases hi
 have hd : idOf d ≠ some i := fun e => pr_live h2.at_ e hi
 have he : Ext s (s.set i so) := Ext.new hi so
 have h2' := h2.ext' he
 refine ⟨fun j => if j = id ∨ idOf d = some j then .free else (s.set i so) j, ⟨by simp, p, d, ?_, hp, ⟨h2'.at_, fun j hj => ?_, fun j a b e => ?_, h2.nsl, h2.nz⟩, h3, h4.ext he⟩, fun j hj => ?_, ?_⟩
 · rw [Store.set_ne _ _ (Ne.symm hne)]; exact h1
 · by_cases hc : j = id ∨ idOf d = some j
   · exact absurd (if_pos hc) hj
   · exact (if_neg hc).symm
 · subst e; simp [idOf]
 · have c1 : j ≠ id := fun e => hj (by rw [e]; exact hn)
   have c2 : idOf d ≠ some j := fun e => hj (pr_id h2 e)
   exact (if_neg (show ¬ (j = id ∨ idOf d = some j) from fun g => g.elim c1 c2)).trans (h2'.ext j hj)
 · exact (if_neg (show ¬ (i = id ∨ idOf d = some i) from fun g => g.elim hne hd)).trans (Store.set_same _ _ _)
theorem BlIn.base {τ s : Store} {id : Nat} {l : List UInt8} (h : BlIn τ s id l) (he : Ext σ0 τ) (hn : σ0 id = .free) : BlIn σ0 s id l := by
 obtain ⟨_, p, d, h1, hp, h2, h3, h4⟩ := h
 exact ⟨hn, p, d, h1, hp, h2.from he, h3, h4⟩
theorem new_say {s : Store} {id : Nat} {l : List UInt8} (h : BlIn σ0 s id l) {w : ByteArray} {ns : List Int} (hi : ∀ n ∈ ns, i64 n) (hn : ns.length < 2 ^ 60) (hs : l.length + (sayL w.data.toList ns).length ≤ 2 ^ 46) {Q : RV → Store → Prop}
   (hQ : ∀ s', BlIn σ0 s' id (l ++ sayL w.data.toList ns) → Q (.tup []) s') :
   Fw.newObj s (.live t_int (ns.map Go.Fw.encI)) fun i s1 => DCalls Tryz.prog n_conf_printer_say [.one (pO id), sA w, .one (.osl i 0 ns.length)] s1 Q := fun i hf => by
 obtain ⟨τ, g1, g2, g3⟩ := h.newList hf (so := .live t_int (ns.map Go.Fw.encI))
 refine (say_ok g1 (At.fresh g3 (by rw [List.length_map]; exact hn) (by rw [List.length_map])) hi hs).mono ?_
 rintro r s2 ⟨rfl, g4⟩
 exact hQ s2 (g4.base g2 h.new)
theorem new_line {s : Store} {id : Nat} {l : List UInt8} (h : BlIn σ0 s id l) {w : ByteArray} {ns : List Int} (hi : ∀ n ∈ ns, i64 n) (hn : ns.length < 2 ^ 60) (hs : l.length + (lineL w.data.toList ns).length ≤ 2 ^ 46) {Q : RV → Store → Prop}
   (hQ : ∀ s', BlIn σ0 s' id (l ++ lineL w.data.toList ns) → Q (.tup []) s') :
   Fw.newObj s (.live t_int (ns.map Go.Fw.encI)) fun i s1 => DCalls Tryz.prog n_conf_printer_line [.one (pO id), sA w, .one (.osl i 0 ns.length)] s1 Q := fun i hf => by
 obtain ⟨τ, g1, g2, g3⟩ := h.newList hf (so := .live t_int (ns.map Go.Fw.encI))
 refine (line_ok g1 (At.fresh g3 (by rw [List.length_map]; exact hn) (by rw [List.length_map])) hi hs).mono ?_
 rintro r s2 ⟨rfl, g4⟩
 exact hQ s2 (g4.base g2 h.new)
theorem text_ok {s : Store} {id : Nat} {l : List UInt8} (h : BlIn σ0 s id l) (h0 : l ≠ []) (hs : l.length ≤ 2 ^ 46) : DCalls Tryz.prog n_strings_Builder_String [.one (pO id)] s fun r s' => r = .a (sA (baOf l)) ∧ Ext σ0 s' := by
 obtain ⟨hn, p, d, h1, hp, h2, h3, h4⟩ := h
 have hr := h2.at_.rows
 have hne : l.map byteRow ≠ [] := by simpa using h0
 cases d with
 | osl bid i n =>
   obtain ⟨rfl, rows, hb⟩ := h4 _ _ _ rfl
   obtain ⟨t, rows', g1, g2, g3, g4⟩ := hr
   rw [hb] at g1
   injection g1 with e1 e2
   subst e1 e2
   rw [List.drop_zero] at g4
   have hn2 : n = l.length := by
     have := congrArg List.length g4
     rw [List.length_map, List.length_take] at this
     omega
   subst hn2
   refine (string_ok h1 hb g4.symm h0 (by omega)).mono ?_
   rintro r s' ⟨rfl, rfl⟩
   exact ⟨rfl, h2.ext.set (h2.new _ _ _ rfl) _⟩
 | nils => exact absurd (show l.map byteRow = [] from hr) hne
 | zsl => exact absurd rfl h2.nz
 | sl es rows => exact absurd trivial h2.nsl
 | _ => exact hr.elim
end Go.Proofs.YtfdffboelecgoaaGreatDoor
end
section
set_option maxRecDepth 20000
namespace Go.Proofs.YtfdffboelecgoaaGreatDoor
open Go.Fw Go.Proofs Go.RowKit
variable {σ σ0 : Store}
def cat {α : Type} (f : α → List UInt8) (xs : List α) : List UInt8 := (xs.map f).flatten
theorem cat_succ {α : Type} {f : α → List UInt8} {xs : List α} {j : Nat} {x : α} (hx : xs[j]? = some x) : cat f (xs.take (j + 1)) = cat f (xs.take j) ++ f x := by
 unfold cat
 rw [List.take_add_one, hx]
 simp
theorem cat_take {α : Type} (f : α → List UInt8) (xs : List α) (j : Nat) : (cat f (xs.take j)).length ≤ (cat f xs).length := by
 have e : cat f xs = cat f (xs.take j) ++ cat f (xs.drop j) := by
   unfold cat
   rw [← List.flatten_append, ← List.map_append, List.take_append_drop]
 rw [e, List.length_append]; omega
theorem cat_nil {α : Type} (f : α → List UInt8) : cat f [] = [] := rfl
def stL (s : St) : List UInt8 := sayL [] [s.Sec, s.In, s.Out]
def ndL (n : Nd) : List UInt8 := sayL [] [n.Sec, n.Pos]
def wRoute : List UInt8 := [114, 111, 117, 116, 101]
def wPath : List UInt8 := [32, 112, 97, 116, 104]
def wFlank : List UInt8 := [32, 102, 108, 97, 110, 107]
def wOver : List UInt8 := [32, 111, 118, 101, 114, 108, 97, 112]
def rtL (x : Rt) : List UInt8 := sayL wRoute [x.Entry, x.Exit, if x.Shunt then 1 else 0] ++ wPath ++ cat stL x.Path ++ wFlank ++ cat ndL x.Flank ++ lineL wOver x.Overlap
def rt64 (x : Rt) : Prop := i64 x.Entry ∧ i64 x.Exit ∧ (∀ s ∈ x.Path, i64 s.Sec ∧ i64 s.In ∧ i64 s.Out) ∧ (∀ n ∈ x.Flank, i64 n.Sec ∧ i64 n.Pos) ∧ ∀ n ∈ x.Overlap, i64 n
theorem at_nil3 {a b c : Int} (ha : i64 a) (hb : i64 b) (hc : i64 c) : ∀ n ∈ [a, b, c], i64 n := fun n hn => by
 simp only [List.mem_cons, List.not_mem_nil, or_false] at hn
 rcases hn with rfl | rfl | rfl <;> assumption
theorem at_nil2 {a b : Int} (ha : i64 a) (hb : i64 b) : ∀ n ∈ [a, b], i64 n := fun n hn => by
 simp only [List.mem_cons, List.not_mem_nil, or_false] at hn
 rcases hn with rfl | rfl <;> assumption
theorem word_ok {s : Store} {id : Nat} {l w : List UInt8} (h : BlIn σ0 s id l) (hs : l.length + w.length ≤ 2 ^ 46) :
   DCalls Tryz.prog n_conf_printer_say [.one (pO id), sA (baOf w), .one .nils] s fun r s' => r = .tup [] ∧ BlIn σ0 s' id (l ++ w) := by
 have e : sayL (baOf w).data.toList [] = w := sayL_nil w
 have := say_ok (ns := []) (d := .nils) h (w := baOf w) .nil (fun n hn => by cases hn) (by rw [e]; exact hs)
 rw [e] at this
 exact this
set_option maxHeartbeats 1000000 in
theorem printer_route_ok {s : Store} {id : Nat} {l : List UInt8} (h : BlIn σ0 s id l) {x : Rt} {d1 d2 d3 : D} (h1 : At Tryz.prog σ0 t_Step d1 (x.Path.map St.enc)) (h2 : At Tryz.prog σ0 t_Need d2 (x.Flank.map Nd.enc)) (h3 : At Tryz.prog σ0 t_int d3 (x.Overlap.map Go.Fw.encI))
   (hx : rt64 x) (hs : l.length + (rtL x).length ≤ 2 ^ 46) :
   DCalls Tryz.prog n_conf_printer_route [.one (pO id), rtA d1 d2 d3 x] s fun r s' => r = .tup [] ∧ BlIn σ0 s' id (l ++ rtL x) := by
 obtain ⟨x1, x2, x3, x4, x5⟩ := hx
 have hsz1 := h1.size
 have hsz2 := h2.size
 rw [List.length_map] at hsz1 hsz2
 have hlen : (rtL x).length = (sayL wRoute [x.Entry, x.Exit, if x.Shunt then 1 else 0]).length + wPath.length + (cat stL x.Path).length + wFlank.length + (cat ndL x.Flank).length + (lineL wOver x.Overlap).length := by
   unfold rtL; simp only [List.length_append]
 refine W_conf_printer_route (pO id) x.Entry x.Exit d1 d2 d3 x.Shunt s _ fun R hR => ?_
 have main : ∀ n : Int, n = (if x.Shunt then 1 else 0) → R n s := fun n hn => hR n s (new_say h (w := baOf wRoute) (ns := [x.Entry, x.Exit, n]) (at_nil3 x1 x2 (by rw [hn]; split <;> exact ⟨by decide, by decide⟩)) (by simp) (by
     show l.length + (sayL wRoute [x.Entry, x.Exit, n]).length ≤ _
     rw [hn]; omega) fun s1 g1 => ?_)
 · refine bc (fun e => main 1 (by rw [e]; rfl)) (fun e => main 0 (by rw [e]; rfl))
 · subst hn
   have g1 : BlIn σ0 s1 id (l ++ sayL wRoute [x.Entry, x.Exit, if x.Shunt then 1 else 0]) := g1
   refine ⟨rfl, (word_ok (w := wPath) g1 (by rw [List.length_append]; omega)).mono ?_⟩
   rintro r s2 ⟨rfl, g2⟩
   refine ⟨rfl, (h1.ext g2.ext).lenK ?_⟩
   rw [List.length_map]
   refine ⟨fun n s' => ∃ j : Nat, n = j ∧ j ≤ x.Path.length ∧ BlIn σ0 s' id (l ++ sayL wRoute [x.Entry, x.Exit, if x.Shunt then 1 else 0] ++ wPath ++ cat stL (x.Path.take j)), fun n _ => x.Path.length - n.toNat, ⟨0, rfl, by omega, by rw [List.take_zero, cat_nil, List.append_nil]; exact g2⟩, ?_⟩
   rintro n s3 ⟨j, rfl, hj, g3⟩
   refine bcd (fun hlt => ?_) (fun hge => ?_)
   · obtain ⟨y, hy⟩ := get_of_lt (l := x.Path) (j := j) (by omega)
     obtain ⟨y1, y2, y3⟩ := x3 y (List.mem_of_getElem? hy)
     have hl := cat_take stL x.Path (j + 1)
     rw [cat_succ hy, List.length_append] at hl
     refine (h1.ext g3.ext).load (map_get hy) c_Step rfl ⟨y.Sec, y.In, y.Out, rfl, new_say g3 (w := baOf []) (ns := [y.Sec, y.In, y.Out]) (at_nil3 y1 y2 y3) (by simp) ?_ fun s4 g4 => ⟨rfl, ⟨j + 1, by rw [w64_succ (by omega)], by omega, ?_⟩, ?_⟩⟩
     · show _ + (stL y).length ≤ _
       simp only [List.length_append]; omega
     · rw [cat_succ hy, ← List.append_assoc]; exact g4
     · rw [w64_succ (by omega)]; show x.Path.length - ((j + 1 : Nat) : Int).toNat < x.Path.length - ((j : Nat) : Int).toNat; omega
   · have e : j = x.Path.length := by omega
     rw [e, List.take_length] at g3
     refine (word_ok (w := wFlank) g3 (by simp only [List.length_append]; omega)).mono ?_
     rintro r s4 ⟨rfl, g4⟩
     refine ⟨rfl, (h2.ext g4.ext).lenK ?_⟩
     rw [List.length_map]
     refine ⟨fun n s' => ∃ j : Nat, n = j ∧ j ≤ x.Flank.length ∧ BlIn σ0 s' id (l ++ sayL wRoute [x.Entry, x.Exit, if x.Shunt then 1 else 0] ++ wPath ++ cat stL x.Path ++ wFlank ++ cat ndL (x.Flank.take j)), fun n _ => x.Flank.length - n.toNat, ⟨0, rfl, by omega, by rw [List.take_zero, cat_nil, List.append_nil]; exact g4⟩, ?_⟩
     rintro n s5 ⟨j, rfl, hj, g5⟩
     refine bcd (fun hlt => ?_) (fun hge => ?_)
     · obtain ⟨y, hy⟩ := get_of_lt (l := x.Flank) (j := j) (by omega)
       obtain ⟨y1, y2⟩ := x4 y (List.mem_of_getElem? hy)
       have hl := cat_take ndL x.Flank (j + 1)
       rw [cat_succ hy, List.length_append] at hl
       refine (h2.ext g5.ext).load (map_get hy) c_Need rfl ⟨y.Sec, y.Pos, rfl, new_say g5 (w := baOf []) (ns := [y.Sec, y.Pos]) (at_nil2 y1 y2) (by simp) ?_ fun s6 g6 => ⟨rfl, ⟨j + 1, by rw [w64_succ (by omega)], by omega, ?_⟩, ?_⟩⟩
       · show _ + (ndL y).length ≤ _
         simp only [List.length_append]; omega
       · rw [cat_succ hy, ← List.append_assoc]; exact g6
       · rw [w64_succ (by omega)]; show x.Flank.length - ((j + 1 : Nat) : Int).toNat < x.Flank.length - ((j : Nat) : Int).toNat; omega
     · have e : j = x.Flank.length := by omega
       rw [e, List.take_length] at g5
       refine (line_ok g5 (w := baOf wOver) h3 x5 (by show _ + (lineL wOver x.Overlap).length ≤ _; simp only [List.length_append]; omega)).mono ?_
       rintro r s6 ⟨rfl, g6⟩
       refine ⟨rfl, rfl, ?_⟩
       have e2 : l ++ rtL x = l ++ sayL wRoute [x.Entry, x.Exit, if x.Shunt then 1 else 0] ++ wPath ++ cat stL x.Path ++ wFlank ++ cat ndL x.Flank ++ lineL (baOf wOver).data.toList x.Overlap := by
         show l ++ rtL x = l ++ sayL wRoute [x.Entry, x.Exit, if x.Shunt then 1 else 0] ++ wPath ++ cat stL x.Path ++ wFlank ++ cat ndL x.Flank ++ lineL wOver x.Overlap
         unfold rtL; simp only [List.append_assoc]
       rw [e2]; exact g6
def wSec : List UInt8 := [115, 101, 99, 116, 105, 111, 110]
def wJt : List UInt8 := [106, 111, 105, 110, 116]
def wSg : List UInt8 := [115, 105, 103, 110, 97, 108]
def wX : List UInt8 := [99, 114, 111, 115, 115, 105, 110, 103]
def wTim : List UInt8 := [116, 105, 109, 105, 110, 103]
def secL (s : Sec) : List UInt8 := lineL wSec [s.Kind, s.OC, s.Line]
def jtL (s : Jt) : List UInt8 := lineL wJt [s.A, s.AEnd, s.B, s.BEnd]
def sgL (s : Sg) : List UInt8 := lineL wSg [s.Sec, s.End_]
def xL (s : Int) : List UInt8 := lineL wX [s]
def timL (c : Cf) : List UInt8 := lineL wTim [c.Age, c.Brake, c.Hold, c.Budget]
def cfTxt (c : Cf) : List UInt8 := cat secL c.Secs ++ cat jtL c.Jts ++ cat sgL c.Sigs ++ cat xL c.Xs ++ cat rtL c.Rts ++ timL c
structure cf64 (c : Cf) : Prop where
 secs : ∀ s ∈ c.Secs, i64 s.Kind ∧ i64 s.OC ∧ i64 s.Line
 jts : ∀ s ∈ c.Jts, i64 s.A ∧ i64 s.AEnd ∧ i64 s.B ∧ i64 s.BEnd
 sigs : ∀ s ∈ c.Sigs, i64 s.Sec ∧ i64 s.End_
 xs : ∀ s ∈ c.Xs, i64 s
 rts : ∀ x ∈ c.Rts, rt64 x
 tim : i64 c.Age ∧ i64 c.Brake ∧ i64 c.Hold ∧ i64 c.Budget
theorem at_nil4 {a b c d : Int} (ha : i64 a) (hb : i64 b) (hc : i64 c) (hd : i64 d) : ∀ n ∈ [a, b, c, d], i64 n := fun n hn => by
 simp only [List.mem_cons, List.not_mem_nil, or_false] at hn
 rcases hn with rfl | rfl | rfl | rfl <;> assumption
set_option maxHeartbeats 2000000 in
theorem conf_Text_ok {c0 c1 c2 c3 c4 : D} {c : Cf} (h : CfAt σ c0 c1 c2 c3 c4 c) (hc : cf64 c) (hs : (cfTxt c).length ≤ 2 ^ 46) : Fw.Pure Tryz.prog n_conf_Text [cfA c0 c1 c2 c3 c4 c] σ (.a (sA (baOf (cfTxt c)))) := by
 refine Pure.of ?_ (.one _ (.str _))
 have hlen : (cfTxt c).length = (cat secL c.Secs).length + (cat jtL c.Jts).length + (cat sgL c.Sigs).length + (cat xL c.Xs).length + (cat rtL c.Rts).length + (timL c).length := by
   unfold cfTxt; simp only [List.length_append]
 have z0 := h.secs.size
 have z1 := h.jts.size
 have z2 := h.sigs.size
 have z3 := h.xs.size
 rw [List.length_map] at z0 z1 z2 z3
 obtain ⟨rows, r1, r2, r3⟩ := h.rts
 have z4 := r1.size
 refine W_conf_Text c0 c1 c2 c3 c4 c.Age c.Brake c.Hold c.Budget σ _ (newObj_intro fun id s0 hid _ he0 hs0 => ?_)
 have b0 : BlIn σ s0 id [] := ⟨hid, .nilp, .nils, hs0, .inl rfl, .nil σ he0, (by intro e; cases e), fun b i n e => (by cases e)⟩
 refine (h.secs.ext b0.ext).lenK ?_
 rw [List.length_map]
 refine ⟨fun n s' => ∃ j : Nat, n = j ∧ j ≤ c.Secs.length ∧ BlIn σ s' id ([] ++ cat secL (c.Secs.take j)), fun n _ => c.Secs.length - n.toNat, ⟨0, rfl, by omega, by rw [List.take_zero, cat_nil, List.append_nil]; exact b0⟩, ?_⟩
 rintro n t0 ⟨j, rfl, hj, g0⟩
 refine bcd (fun hlt => ?_) (fun hge => ?_)
 · obtain ⟨y, hy⟩ := get_of_lt (l := c.Secs) (j := j) (by omega)
   obtain ⟨y1, y2, y3⟩ := hc.secs y (List.mem_of_getElem? hy)
   have hl := cat_take secL c.Secs (j + 1)
   rw [cat_succ hy, List.length_append] at hl
   refine (h.secs.ext g0.ext).load (map_get hy) c_Section rfl ⟨y.Kind, y.OC, y.Line, rfl, new_line g0 (w := baOf wSec) (ns := [y.Kind, y.OC, y.Line]) (at_nil3 y1 y2 y3) (by simp) ?_ fun s4 g4 => ⟨rfl, ⟨j + 1, by rw [w64_succ (by omega)], by omega, ?_⟩, ?_⟩⟩
   · show _ + (secL y).length ≤ _
     simp only [List.length_append, List.length_nil]; omega
   · rw [cat_succ hy, ← List.append_assoc]; exact g4
   · rw [w64_succ (by omega)]; show c.Secs.length - ((j + 1 : Nat) : Int).toNat < c.Secs.length - ((j : Nat) : Int).toNat; omega
 have e0 : j = c.Secs.length := by omega
 rw [e0, List.take_length] at g0
 have b1 := g0
 refine (h.jts.ext b1.ext).lenK ?_
 rw [List.length_map]
 refine ⟨fun n s' => ∃ j : Nat, n = j ∧ j ≤ c.Jts.length ∧ BlIn σ s' id ([] ++ cat secL c.Secs ++ cat jtL (c.Jts.take j)), fun n _ => c.Jts.length - n.toNat, ⟨0, rfl, by omega, by rw [List.take_zero, cat_nil, List.append_nil]; exact b1⟩, ?_⟩
 rintro n t1 ⟨j, rfl, hj, g1⟩
 refine bcd (fun hlt => ?_) (fun hge => ?_)
 · obtain ⟨y, hy⟩ := get_of_lt (l := c.Jts) (j := j) (by omega)
   obtain ⟨y1, y2, y3, y4⟩ := hc.jts y (List.mem_of_getElem? hy)
   have hl := cat_take jtL c.Jts (j + 1)
   rw [cat_succ hy, List.length_append] at hl
   refine (h.jts.ext g1.ext).load (map_get hy) c_Joint rfl ⟨y.A, y.AEnd, y.B, y.BEnd, rfl, new_line g1 (w := baOf wJt) (ns := [y.A, y.AEnd, y.B, y.BEnd]) (at_nil4 y1 y2 y3 y4) (by simp) ?_ fun s4 g4 => ⟨rfl, ⟨j + 1, by rw [w64_succ (by omega)], by omega, ?_⟩, ?_⟩⟩
   · show _ + (jtL y).length ≤ _
     simp only [List.length_append, List.length_nil]; omega
   · rw [cat_succ hy, ← List.append_assoc]; exact g4
   · rw [w64_succ (by omega)]; show c.Jts.length - ((j + 1 : Nat) : Int).toNat < c.Jts.length - ((j : Nat) : Int).toNat; omega
 have e1 : j = c.Jts.length := by omega
 rw [e1, List.take_length] at g1
 have b2 := g1
 refine (h.sigs.ext b2.ext).lenK ?_
 rw [List.length_map]
 refine ⟨fun n s' => ∃ j : Nat, n = j ∧ j ≤ c.Sigs.length ∧ BlIn σ s' id ([] ++ cat secL c.Secs ++ cat jtL c.Jts ++ cat sgL (c.Sigs.take j)), fun n _ => c.Sigs.length - n.toNat, ⟨0, rfl, by omega, by rw [List.take_zero, cat_nil, List.append_nil]; exact b2⟩, ?_⟩
 rintro n t2 ⟨j, rfl, hj, g2⟩
 refine bcd (fun hlt => ?_) (fun hge => ?_)
 · obtain ⟨y, hy⟩ := get_of_lt (l := c.Sigs) (j := j) (by omega)
   obtain ⟨y1, y2⟩ := hc.sigs y (List.mem_of_getElem? hy)
   have hl := cat_take sgL c.Sigs (j + 1)
   rw [cat_succ hy, List.length_append] at hl
   refine (h.sigs.ext g2.ext).load (map_get hy) c_Signal rfl ⟨y.Sec, y.End_, rfl, new_line g2 (w := baOf wSg) (ns := [y.Sec, y.End_]) (at_nil2 y1 y2) (by simp) ?_ fun s4 g4 => ⟨rfl, ⟨j + 1, by rw [w64_succ (by omega)], by omega, ?_⟩, ?_⟩⟩
   · show _ + (sgL y).length ≤ _
     simp only [List.length_append, List.length_nil]; omega
   · rw [cat_succ hy, ← List.append_assoc]; exact g4
   · rw [w64_succ (by omega)]; show c.Sigs.length - ((j + 1 : Nat) : Int).toNat < c.Sigs.length - ((j : Nat) : Int).toNat; omega
 have e2 : j = c.Sigs.length := by omega
 rw [e2, List.take_length] at g2
 have b3 := g2
 refine (h.xs.ext b3.ext).lenK ?_
 rw [List.length_map]
 refine ⟨fun n s' => ∃ j : Nat, n = j ∧ j ≤ c.Xs.length ∧ BlIn σ s' id ([] ++ cat secL c.Secs ++ cat jtL c.Jts ++ cat sgL c.Sigs ++ cat xL (c.Xs.take j)), fun n _ => c.Xs.length - n.toNat, ⟨0, rfl, by omega, by rw [List.take_zero, cat_nil, List.append_nil]; exact b3⟩, ?_⟩
 rintro n t3 ⟨j, rfl, hj, g3⟩
 refine bcd (fun hlt => ?_) (fun hge => ?_)
 · obtain ⟨y, hy⟩ := get_of_lt (l := c.Xs) (j := j) (by omega)
   have y1 := hc.xs y (List.mem_of_getElem? hy)
   have hl := cat_take xL c.Xs (j + 1)
   rw [cat_succ hy, List.length_append] at hl
   refine (h.xs.ext g3.ext).load (map_get hy) c_int rfl ⟨y, rfl, new_line g3 (w := baOf wX) (ns := [y]) (fun n hn => by rw [List.mem_singleton.1 hn]; exact y1) (by simp) ?_ fun s4 g4 => ⟨rfl, ⟨j + 1, by rw [w64_succ (by omega)], by omega, ?_⟩, ?_⟩⟩
   · show _ + (xL y).length ≤ _
     simp only [List.length_append, List.length_nil]; omega
   · rw [cat_succ hy, ← List.append_assoc]; exact g4
   · rw [w64_succ (by omega)]; show c.Xs.length - ((j + 1 : Nat) : Int).toNat < c.Xs.length - ((j : Nat) : Int).toNat; omega
 have e3 : j = c.Xs.length := by omega
 rw [e3, List.take_length] at g3
 have b4 := g3
 refine (r1.ext b4.ext).lenK ?_
 rw [r2]
 refine ⟨fun n s' => ∃ j : Nat, n = j ∧ j ≤ c.Rts.length ∧ BlIn σ s' id ([] ++ cat secL c.Secs ++ cat jtL c.Jts ++ cat sgL c.Sigs ++ cat xL c.Xs ++ cat rtL (c.Rts.take j)), fun n _ => c.Rts.length - n.toNat, ⟨0, rfl, by omega, by rw [List.take_zero, cat_nil, List.append_nil]; exact b4⟩, ?_⟩
 rintro n t4 ⟨j, rfl, hj, g4⟩
 refine bcd (fun hlt => ?_) (fun hge => ?_)
 · obtain ⟨y, hy⟩ := get_of_lt (l := c.Rts) (j := j) (by omega)
   obtain ⟨row, hrow⟩ := get_of_lt (l := rows) (j := j) (by omega)
   obtain ⟨d1, d2, d3, rfl, q1, q2, q3⟩ := r3 j row y hrow hy
   have hl := cat_take rtL c.Rts (j + 1)
   rw [cat_succ hy, List.length_append] at hl
   refine (r1.ext g4.ext).load hrow c_Route rfl ⟨y.Entry, y.Exit, d1, d2, d3, y.Shunt, rfl, (printer_route_ok g4 q1 q2 q3 (hc.rts y (List.mem_of_getElem? hy)) ?_).mono ?_⟩
   · simp only [List.length_append, List.length_nil]; omega
   rintro r s4 ⟨rfl, k4⟩
   refine ⟨rfl, ⟨j + 1, by rw [w64_succ (by omega)], by omega, ?_⟩, ?_⟩
   · rw [cat_succ hy, ← List.append_assoc]; exact k4
   · rw [w64_succ (by omega)]; show c.Rts.length - ((j + 1 : Nat) : Int).toNat < c.Rts.length - ((j : Nat) : Int).toNat; omega
 have e4 : j = c.Rts.length := by omega
 rw [e4, List.take_length] at g4
 obtain ⟨y1, y2, y3, y4⟩ := hc.tim
 refine new_line g4 (w := baOf wTim) (ns := [c.Age, c.Brake, c.Hold, c.Budget]) (at_nil4 y1 y2 y3 y4) (by simp) ?_ fun s5 g5 => ⟨rfl, ?_⟩
 · show _ + (timL c).length ≤ _
   simp only [List.length_append, List.length_nil]; omega
 have g5 : BlIn σ s5 id (cfTxt c) := by
   have e : cfTxt c = [] ++ cat secL c.Secs ++ cat jtL c.Jts ++ cat sgL c.Sigs ++ cat xL c.Xs ++ cat rtL c.Rts ++ lineL (baOf wTim).data.toList [c.Age, c.Brake, c.Hold, c.Budget] := by
     show cfTxt c = [] ++ cat secL c.Secs ++ cat jtL c.Jts ++ cat sgL c.Sigs ++ cat xL c.Xs ++ cat rtL c.Rts ++ timL c
     unfold cfTxt; rw [List.nil_append]
   rw [e]; exact g5
 have hne : cfTxt c ≠ [] := by
   unfold cfTxt timL lineL
   intro e
   have := congrArg List.length e
   simp at this
 refine (text_ok g5 hne hs).mono ?_
 rintro r s6 ⟨rfl, he⟩
 exact ⟨_, rfl, rfl, he⟩
end Go.Proofs.YtfdffboelecgoaaGreatDoor
end
section
set_option maxRecDepth 20000
namespace Go.Proofs.YtfdffboelecgoaaGreatDoor
open Go.Fw Go.Proofs Go.RowKit
variable {σ σ0 : Store}
theorem baOf_size (l : List UInt8) : (baOf l).size = l.length := by show l.toArray.size = _; simp
theorem baOf_toL (s : ByteArray) : baOf s.data.toList = s := by cases s; rfl
theorem app_data (a b : ByteArray) : (ByteArray.append a b).data.toList = a.data.toList ++ b.data.toList := by
 show (a ++ b).data.toList = _
 simp
theorem ref06_words_ok {w : ByteArray} {d : D} {ns : List Int} (hd : At Tryz.prog σ t_int d (ns.map Go.Fw.encI)) (hi : ∀ n ∈ ns, i64 n) (hs : (sayL w.data.toList ns).length ≤ 2 ^ 46) :
   Fw.Pure Tryz.prog n_ref06_words [sA w, .one d] σ (.a (sA (baOf (sayL w.data.toList ns)))) := by
 have hsz := hd.size
 rw [List.length_map] at hsz
 refine W_ref06_words w d σ _ (hd.lenK ?_)
 rw [List.length_map]
 refine ⟨fun s n s' => ∃ j : Nat, n = j ∧ j ≤ ns.length ∧ s' = σ ∧ s = baOf (sayL w.data.toList (ns.take j)), fun _ n _ => ns.length - n.toNat, ⟨0, rfl, by omega, rfl, by rw [List.take_zero, sayL_nil, baOf_toL]⟩, ?_⟩
 rintro s n s' ⟨j, rfl, hj, rfl, rfl⟩
 refine bcd (fun hlt => ?_) (fun hge => ?_)
 · obtain ⟨x, hx⟩ := get_of_lt (l := ns) (j := j) (by omega)
   have hxi := hi x (List.mem_of_getElem? hx)
   have hl := itoa_len hxi
   have ht := sayL_take w.data.toList ns (j + 1)
   have hsucc := sayL_succ w.data.toList hx
   rw [hsucc, List.length_append, List.length_cons] at ht
   refine hd.load (map_get hx) c_int rfl ⟨x, rfl, (itoa_ok hxi).use ⟨_, rfl, ?_, ?_, ⟨j + 1, by rw [w64_succ (by omega)], by omega, rfl, ?_⟩, ?_⟩⟩
   · rw [baOf_size]; omega
   · rw [baOf_size]
     show ((sayL w.data.toList (ns.take j)).length : Int) + (((ByteArray.mk (Array.mk ([32] ++ Lib.itoa x))).size : Nat) : Int) ≤ _
     have : (ByteArray.mk (Array.mk ([32] ++ Lib.itoa x))).size = (Lib.itoa x).length + 1 := by show ([32] ++ Lib.itoa x).toArray.size = _; simp
     rw [this]; omega
   · rw [app_data, hsucc]; rfl
   · rw [w64_succ (by omega)]; show ns.length - ((j + 1 : Nat) : Int).toNat < ns.length - ((j : Nat) : Int).toNat; omega
 · have e : j = ns.length := by omega
   rw [e, List.take_length]
   exact ⟨rfl, rfl⟩
theorem add_bytes {s : Store} {d : D} {l : List UInt8} (h : Own Tryz.prog σ0 s t_uint8 d (l.map byteRow)) {t : List UInt8} (hs : l.length + t.length ≤ 2 ^ 46) {K : D → Store → Prop} (hK : ∀ d' s', Own Tryz.prog σ0 s' t_uint8 d' ((l ++ t).map byteRow) → K d' s') :
   appendToR Tryz.prog s 5 1 d (bytesD (baOf t)) K :=
 appendToR_of (es := 1) (h.append (at_bytes s (l := t) (by omega)) (by simp; omega) (by simp; omega) fun d' s' o _ _ => hK d' s' (by rw [List.map_append]; exact o))
theorem add_nl {s : Store} {d : D} {l : List UInt8} (h : Own Tryz.prog σ0 s t_uint8 d (l.map byteRow)) (hs : l.length + 1 ≤ 2 ^ 46) {K : D → Store → Prop} (hK : ∀ d' s', Own Tryz.prog σ0 s' t_uint8 d' ((l ++ [10]).map byteRow) → K d' s') :
   Fw.newObj s (.live t_uint8 [[.int .u8 10]]) fun i s' => appendTo Tryz.prog s' t_uint8 1 d (.osl i 0 1) K := newObj_intro fun i s1 hi _ he h1 => by
 have hA : At Tryz.prog s1 t_uint8 (.osl i 0 1) (([10] : List UInt8).map byteRow) := At.fresh h1 (by simp) rfl
 exact (h.ext' he).append hA (by simp; omega) (by simp; omega) fun d' s' o _ _ => hK d' s' (by rw [List.map_append]; exact o)
theorem new_words {s : Store} {w : List UInt8} {ns : List Int} (hi : ∀ n ∈ ns, i64 n) (hn : ns.length < 2 ^ 60) (hs : (sayL w ns).length ≤ 2 ^ 46) {Q : RV → Store → Prop} (hQ : ∀ s', Ext s s' → Q (.a (sA (baOf (sayL w ns)))) s') :
   Fw.newObj s (.live t_int (ns.map Go.Fw.encI)) fun i s1 => DCalls Tryz.prog n_ref06_words [sA (baOf w), .one (.osl i 0 ns.length)] s1 Q := newObj_intro fun i s1 hi1 _ he h1 =>
 (ref06_words_ok (w := baOf w) (At.fresh h1 (by rw [List.length_map]; exact hn) (by rw [List.length_map])) hi hs).use (hQ s1 he)
theorem ref_line {s : Store} {d : D} {l w : List UInt8} {ns : List Int} (h : Own Tryz.prog σ0 s t_uint8 d (l.map byteRow)) (hi : ∀ n ∈ ns, i64 n) (hn : ns.length < 2 ^ 60) (hs : l.length + (lineL w ns).length ≤ 2 ^ 46) {K : D → Store → Prop}
   (hK : ∀ d' s', Own Tryz.prog σ0 s' t_uint8 d' ((l ++ lineL w ns).map byteRow) → K d' s') :
   Fw.newObj s (.live t_int (ns.map Go.Fw.encI)) fun i s1 => DCalls Tryz.prog n_ref06_words [sA (baOf w), .one (.osl i 0 ns.length)] s1 fun r s2 => ∃ t, r = .a (.one (.str t)) ∧ appendToR Tryz.prog s2 5 1 d (bytesD t) fun d1 s3 =>
     Fw.newObj s3 (.live t_uint8 [[.int .u8 10]]) fun i1 s4 => appendTo Tryz.prog s4 t_uint8 1 d1 (.osl i1 0 1) K := by
 have hs' : l.length + ((sayL w ns).length + 1) ≤ 2 ^ 46 := by
   unfold lineL at hs
   rw [List.length_append] at hs
   exact hs
 refine new_words hi hn (by omega) fun s2 he => ⟨_, rfl, add_bytes (h.ext' he) (by omega) fun d1 s3 h3 => add_nl h3 (by rw [List.length_append]; omega) fun d2 s5 h5 => hK d2 s5 ?_⟩
 unfold lineL
 rw [← List.append_assoc]; exact h5
set_option maxHeartbeats 4000000 in
theorem ref06_Text_ok {c0 c1 c2 c3 c4 : D} {c : Cf} (h : CfAt σ c0 c1 c2 c3 c4 c) (hc : cf64 c) (hs : (cfTxt c).length ≤ 2 ^ 46) : Fw.Pure Tryz.prog n_ref06_Text [cfA c0 c1 c2 c3 c4 c] σ (.a (sA (baOf (cfTxt c)))) := by
 refine Pure.of ?_ (.one _ (.str _))
 have hlen : (cfTxt c).length = (cat secL c.Secs).length + (cat jtL c.Jts).length + (cat sgL c.Sigs).length + (cat xL c.Xs).length + (cat rtL c.Rts).length + (timL c).length := by
   unfold cfTxt; simp only [List.length_append]
 have z0 := h.secs.size
 have z1 := h.jts.size
 have z2 := h.sigs.size
 have z3 := h.xs.size
 rw [List.length_map] at z0 z1 z2 z3
 obtain ⟨rows, r1, r2, r3⟩ := h.rts
 have z4 := r1.size
 refine W_ref06_Text c0 c1 c2 c3 c4 c.Age c.Brake c.Hold c.Budget σ _ ?_
 have b0 : Own Tryz.prog σ σ t_uint8 .nils (([] : List UInt8).map byteRow) := .nil σ (.refl _)
 refine (h.secs.ext b0.ext).lenK ?_
 rw [List.length_map]
 refine ⟨fun d n s' => ∃ j : Nat, n = j ∧ j ≤ c.Secs.length ∧ Own Tryz.prog σ s' t_uint8 d (([] ++ cat secL (c.Secs.take j)).map byteRow), fun _ n _ => c.Secs.length - n.toNat, ⟨0, rfl, by omega, by rw [List.take_zero, cat_nil, List.append_nil]; exact b0⟩, ?_⟩
 rintro d n t0 ⟨j, rfl, hj, b1⟩
 refine bcd (fun hlt => ?_) (fun hge => ?_)
 · obtain ⟨y, hy⟩ := get_of_lt (l := c.Secs) (j := j) (by omega)
   obtain ⟨y1, y2, y3⟩ := hc.secs y (List.mem_of_getElem? hy)
   have hl := cat_take secL c.Secs (j + 1)
   rw [cat_succ hy, List.length_append] at hl
   refine (h.secs.ext b1.ext).load (map_get hy) c_Section rfl ⟨y.Kind, y.OC, y.Line, rfl, ref_line b1 (w := wSec) (ns := [y.Kind, y.OC, y.Line]) (at_nil3 y1 y2 y3) (by simp) ?_ fun d4 s4 g4 => ⟨⟨j + 1, by rw [w64_succ (by omega)], by omega, ?_⟩, ?_⟩⟩
   · show _ + (secL y).length ≤ _
     simp only [List.length_append, List.length_nil]; omega
   · rw [cat_succ hy, ← List.append_assoc]; exact g4
   · rw [w64_succ (by omega)]; show c.Secs.length - ((j + 1 : Nat) : Int).toNat < c.Secs.length - ((j : Nat) : Int).toNat; omega
 have e0 : j = c.Secs.length := by omega
 rw [e0, List.take_length] at b1
 refine (h.jts.ext b1.ext).lenK ?_
 rw [List.length_map]
 refine ⟨fun d n s' => ∃ j : Nat, n = j ∧ j ≤ c.Jts.length ∧ Own Tryz.prog σ s' t_uint8 d (([] ++ cat secL c.Secs ++ cat jtL (c.Jts.take j)).map byteRow), fun _ n _ => c.Jts.length - n.toNat, ⟨0, rfl, by omega, by rw [List.take_zero, cat_nil, List.append_nil]; exact b1⟩, ?_⟩
 rintro d n t1 ⟨j, rfl, hj, b2⟩
 refine bcd (fun hlt => ?_) (fun hge => ?_)
 · obtain ⟨y, hy⟩ := get_of_lt (l := c.Jts) (j := j) (by omega)
   obtain ⟨y1, y2, y3, y4⟩ := hc.jts y (List.mem_of_getElem? hy)
   have hl := cat_take jtL c.Jts (j + 1)
   rw [cat_succ hy, List.length_append] at hl
   refine (h.jts.ext b2.ext).load (map_get hy) c_Joint rfl ⟨y.A, y.AEnd, y.B, y.BEnd, rfl, ref_line b2 (w := wJt) (ns := [y.A, y.AEnd, y.B, y.BEnd]) (at_nil4 y1 y2 y3 y4) (by simp) ?_ fun d4 s4 g4 => ⟨⟨j + 1, by rw [w64_succ (by omega)], by omega, ?_⟩, ?_⟩⟩
   · show _ + (jtL y).length ≤ _
     simp only [List.length_append, List.length_nil]; omega
   · rw [cat_succ hy, ← List.append_assoc]; exact g4
   · rw [w64_succ (by omega)]; show c.Jts.length - ((j + 1 : Nat) : Int).toNat < c.Jts.length - ((j : Nat) : Int).toNat; omega
 have e1 : j = c.Jts.length := by omega
 rw [e1, List.take_length] at b2
 refine (h.sigs.ext b2.ext).lenK ?_
 rw [List.length_map]
 refine ⟨fun d n s' => ∃ j : Nat, n = j ∧ j ≤ c.Sigs.length ∧ Own Tryz.prog σ s' t_uint8 d (([] ++ cat secL c.Secs ++ cat jtL c.Jts ++ cat sgL (c.Sigs.take j)).map byteRow), fun _ n _ => c.Sigs.length - n.toNat, ⟨0, rfl, by omega, by rw [List.take_zero, cat_nil, List.append_nil]; exact b2⟩, ?_⟩
 rintro d n t2 ⟨j, rfl, hj, b3⟩
 refine bcd (fun hlt => ?_) (fun hge => ?_)
 · obtain ⟨y, hy⟩ := get_of_lt (l := c.Sigs) (j := j) (by omega)
   obtain ⟨y1, y2⟩ := hc.sigs y (List.mem_of_getElem? hy)
   have hl := cat_take sgL c.Sigs (j + 1)
   rw [cat_succ hy, List.length_append] at hl
   refine (h.sigs.ext b3.ext).load (map_get hy) c_Signal rfl ⟨y.Sec, y.End_, rfl, ref_line b3 (w := wSg) (ns := [y.Sec, y.End_]) (at_nil2 y1 y2) (by simp) ?_ fun d4 s4 g4 => ⟨⟨j + 1, by rw [w64_succ (by omega)], by omega, ?_⟩, ?_⟩⟩
   · show _ + (sgL y).length ≤ _
     simp only [List.length_append, List.length_nil]; omega
   · rw [cat_succ hy, ← List.append_assoc]; exact g4
   · rw [w64_succ (by omega)]; show c.Sigs.length - ((j + 1 : Nat) : Int).toNat < c.Sigs.length - ((j : Nat) : Int).toNat; omega
 have e2 : j = c.Sigs.length := by omega
 rw [e2, List.take_length] at b3
 refine (h.xs.ext b3.ext).lenK ?_
 rw [List.length_map]
 refine ⟨fun d n s' => ∃ j : Nat, n = j ∧ j ≤ c.Xs.length ∧ Own Tryz.prog σ s' t_uint8 d (([] ++ cat secL c.Secs ++ cat jtL c.Jts ++ cat sgL c.Sigs ++ cat xL (c.Xs.take j)).map byteRow), fun _ n _ => c.Xs.length - n.toNat, ⟨0, rfl, by omega, by rw [List.take_zero, cat_nil, List.append_nil]; exact b3⟩, ?_⟩
 rintro d n t3 ⟨j, rfl, hj, b4⟩
 refine bcd (fun hlt => ?_) (fun hge => ?_)
 · obtain ⟨y, hy⟩ := get_of_lt (l := c.Xs) (j := j) (by omega)
   have y1 := hc.xs y (List.mem_of_getElem? hy)
   have hl := cat_take xL c.Xs (j + 1)
   rw [cat_succ hy, List.length_append] at hl
   refine (h.xs.ext b4.ext).load (map_get hy) c_int rfl ⟨y, rfl, ref_line b4 (w := wX) (ns := [y]) (fun n hn => by rw [List.mem_singleton.1 hn]; exact y1) (by simp) ?_ fun d4 s4 g4 => ⟨⟨j + 1, by rw [w64_succ (by omega)], by omega, ?_⟩, ?_⟩⟩
   · show _ + (xL y).length ≤ _
     simp only [List.length_append, List.length_nil]; omega
   · rw [cat_succ hy, ← List.append_assoc]; exact g4
   · rw [w64_succ (by omega)]; show c.Xs.length - ((j + 1 : Nat) : Int).toNat < c.Xs.length - ((j : Nat) : Int).toNat; omega
 have e3 : j = c.Xs.length := by omega
 rw [e3, List.take_length] at b4
 refine (r1.ext b4.ext).lenK ?_
 rw [r2]
 refine ⟨fun d n s' => ∃ j : Nat, n = j ∧ j ≤ c.Rts.length ∧ Own Tryz.prog σ s' t_uint8 d (([] ++ cat secL c.Secs ++ cat jtL c.Jts ++ cat sgL c.Sigs ++ cat xL c.Xs ++ cat rtL (c.Rts.take j)).map byteRow), fun _ n _ => c.Rts.length - n.toNat, ⟨0, rfl, by omega, by rw [List.take_zero, cat_nil, List.append_nil]; exact b4⟩, ?_⟩
 rintro d n t4 ⟨j, rfl, hj, b5⟩
 refine bcd (fun hlt => ?_) (fun hge => ?_)
 · obtain ⟨y, hy⟩ := get_of_lt (l := c.Rts) (j := j) (by omega)
   obtain ⟨row, hrow⟩ := get_of_lt (l := rows) (j := j) (by omega)
   obtain ⟨d1, d2, d3, rfl, q1, q2, q3⟩ := r3 j row y hrow hy
   obtain ⟨x1, x2, x3, x4, x5⟩ := hc.rts y (List.mem_of_getElem? hy)
   have hl := cat_take rtL c.Rts (j + 1)
   rw [cat_succ hy, List.length_append] at hl
   have hlr : (rtL y).length = (sayL wRoute [y.Entry, y.Exit, if y.Shunt then 1 else 0]).length + wPath.length + (cat stL y.Path).length + wFlank.length + (cat ndL y.Flank).length + (lineL wOver y.Overlap).length := by
     unfold rtL; simp only [List.length_append]
   have k1 := q1.size
   have k2 := q2.size
   have k3 := q3.size
   rw [List.length_map] at k1 k2 k3
   refine (r1.ext b5.ext).load hrow c_Route rfl ⟨y.Entry, y.Exit, d1, d2, d3, y.Shunt, rfl, fun R hR => ?_⟩
   have main : ∀ n : Int, n = (if y.Shunt then 1 else 0) → R n t4 := fun n hn => hR n t4 (new_words (w := wRoute) (ns := [y.Entry, y.Exit, n]) (at_nil3 x1 x2 (by rw [hn]; split <;> exact ⟨by decide, by decide⟩)) (by simp) (by rw [hn]; omega) fun s1 he1 => ⟨_, rfl, by rw [baOf_size, hn]; omega, ?_⟩)
   · exact bc (fun e => ⟨by first | rfl | trivial, main 1 (by rw [e]; rfl)⟩) (fun e => ⟨by first | rfl | trivial, main 0 (by rw [e]; rfl)⟩)
   subst hn
   refine add_bytes (t := sayL wRoute [y.Entry, y.Exit, if y.Shunt then 1 else 0] ++ wPath) (b5.ext' he1) (by simp only [List.length_append, List.length_nil]; omega) fun d8 s2 h8 => ?_
   refine (q1.ext h8.ext).lenK ?_
   rw [List.length_map]
   refine ⟨fun d n s' => ∃ i : Nat, n = i ∧ i ≤ y.Path.length ∧ Own Tryz.prog σ s' t_uint8 d (([] ++ cat secL c.Secs ++ cat jtL c.Jts ++ cat sgL c.Sigs ++ cat xL c.Xs ++ cat rtL (c.Rts.take j) ++ (sayL wRoute [y.Entry, y.Exit, if y.Shunt then 1 else 0] ++ wPath) ++ cat stL (y.Path.take i)).map byteRow), fun _ n _ => y.Path.length - n.toNat, ⟨0, rfl, by omega, by rw [List.take_zero, cat_nil, List.append_nil]; exact h8⟩, ?_⟩
   rintro d n s3 ⟨i, rfl, hi, h9⟩
   refine bcd (fun hlt => ?_) (fun hge => ?_)
   · obtain ⟨z, hz⟩ := get_of_lt (l := y.Path) (j := i) (by omega)
     obtain ⟨y1, y2, y3⟩ := x3 z (List.mem_of_getElem? hz)
     have hl2 := cat_take stL y.Path (i + 1)
     rw [cat_succ hz, List.length_append] at hl2
     have e1 : (stL z).length = (sayL [] [z.Sec, z.In, z.Out]).length := rfl
     refine (q1.ext h9.ext).load (map_get hz) c_Step rfl ⟨z.Sec, z.In, z.Out, rfl, new_words (w := []) (ns := [z.Sec, z.In, z.Out]) (at_nil3 y1 y2 y3) (by simp) (by omega) fun s4 he4 => ⟨_, rfl, add_bytes (h9.ext' he4) (by simp only [List.length_append, List.length_nil]; omega) fun d9 s5 g5 => ⟨by first | rfl | trivial, ⟨i + 1, by rw [w64_succ (by omega)], by omega, ?_⟩, ?_⟩⟩⟩
     · rw [cat_succ hz, ← List.append_assoc]; exact g5
     · rw [w64_succ (by omega)]; show y.Path.length - ((i + 1 : Nat) : Int).toNat < y.Path.length - ((i : Nat) : Int).toNat; omega
   have e5 : i = y.Path.length := by omega
   rw [e5, List.take_length] at h9
   refine add_bytes (t := wFlank) h9 (by simp only [List.length_append, List.length_nil]; omega) fun d10 s6 h10 => ?_
   refine (q2.ext h10.ext).lenK ?_
   rw [List.length_map]
   refine ⟨fun d n s' => ∃ i : Nat, n = i ∧ i ≤ y.Flank.length ∧ Own Tryz.prog σ s' t_uint8 d (([] ++ cat secL c.Secs ++ cat jtL c.Jts ++ cat sgL c.Sigs ++ cat xL c.Xs ++ cat rtL (c.Rts.take j) ++ (sayL wRoute [y.Entry, y.Exit, if y.Shunt then 1 else 0] ++ wPath) ++ cat stL y.Path ++ wFlank ++ cat ndL (y.Flank.take i)).map byteRow), fun _ n _ => y.Flank.length - n.toNat, ⟨0, rfl, by omega, by rw [List.take_zero, cat_nil, List.append_nil]; exact h10⟩, ?_⟩
   rintro d n s7 ⟨m, rfl, hm, h11⟩
   refine bcd (fun hlt => ?_) (fun hge => ?_)
   · obtain ⟨z, hz⟩ := get_of_lt (l := y.Flank) (j := m) (by omega)
     obtain ⟨y1, y2⟩ := x4 z (List.mem_of_getElem? hz)
     have hl2 := cat_take ndL y.Flank (m + 1)
     rw [cat_succ hz, List.length_append] at hl2
     have e1 : (ndL z).length = (sayL [] [z.Sec, z.Pos]).length := rfl
     refine (q2.ext h11.ext).load (map_get hz) c_Need rfl ⟨z.Sec, z.Pos, rfl, new_words (w := []) (ns := [z.Sec, z.Pos]) (at_nil2 y1 y2) (by simp) (by omega) fun s8 he8 => ⟨_, rfl, add_bytes (h11.ext' he8) (by simp only [List.length_append, List.length_nil]; omega) fun d9 s9 g9 => ⟨by first | rfl | trivial, ⟨m + 1, by rw [w64_succ (by omega)], by omega, ?_⟩, ?_⟩⟩⟩
     · rw [cat_succ hz, ← List.append_assoc]; exact g9
     · rw [w64_succ (by omega)]; show y.Flank.length - ((m + 1 : Nat) : Int).toNat < y.Flank.length - ((m : Nat) : Int).toNat; omega
   have e6 : m = y.Flank.length := by omega
   rw [e6, List.take_length] at h11
   have hov : (lineL wOver y.Overlap).length = (sayL wOver y.Overlap).length + 1 := by unfold lineL; rw [List.length_append]; rfl
   refine (ref06_words_ok (w := baOf wOver) (q3.ext h11.ext) x5 (by show (sayL wOver y.Overlap).length ≤ _; omega)).use ⟨_, rfl, add_bytes (t := sayL wOver y.Overlap) h11 (by simp only [List.length_append, List.length_nil]; omega) fun d12 s10 h12 => add_nl h12 (by simp only [List.length_append, List.length_nil]; omega) fun d13 s11 h13 => ⟨⟨j + 1, by rw [w64_succ (by omega)], by omega, ?_⟩, ?_⟩⟩
   · rw [cat_succ hy]
     have e7 : [] ++ cat secL c.Secs ++ cat jtL c.Jts ++ cat sgL c.Sigs ++ cat xL c.Xs ++ (cat rtL (c.Rts.take j) ++ rtL y) = [] ++ cat secL c.Secs ++ cat jtL c.Jts ++ cat sgL c.Sigs ++ cat xL c.Xs ++ cat rtL (c.Rts.take j) ++ (sayL wRoute [y.Entry, y.Exit, if y.Shunt then 1 else 0] ++ wPath) ++ cat stL y.Path ++ wFlank ++ cat ndL y.Flank ++ sayL wOver y.Overlap ++ [10] := by
       unfold rtL lineL; simp only [List.append_assoc]
     rw [e7]; exact h13
   · rw [w64_succ (by omega)]; show c.Rts.length - ((j + 1 : Nat) : Int).toNat < c.Rts.length - ((j : Nat) : Int).toNat; omega
 have e4 : j = c.Rts.length := by omega
 rw [e4, List.take_length] at b5
 obtain ⟨y1, y2, y3, y4⟩ := hc.tim
 refine ref_line b5 (w := wTim) (ns := [c.Age, c.Brake, c.Hold, c.Budget]) (at_nil4 y1 y2 y3 y4) (by simp) ?_ fun d5 s5 g5 => ⟨baOf (cfTxt c), ?_, rfl, g5.ext⟩
 · show _ + (timL c).length ≤ _
   simp only [List.length_append, List.length_nil]; omega
 have e : cfTxt c = [] ++ cat secL c.Secs ++ cat jtL c.Jts ++ cat sgL c.Sigs ++ cat xL c.Xs ++ cat rtL c.Rts ++ lineL wTim [c.Age, c.Brake, c.Hold, c.Budget] := by
   show cfTxt c = [] ++ cat secL c.Secs ++ cat jtL c.Jts ++ cat sgL c.Sigs ++ cat xL c.Xs ++ cat rtL c.Rts ++ timL c
   unfold cfTxt; rw [List.nil_append]
 rw [e]; exact g5.at_.rows
end Go.Proofs.YtfdffboelecgoaaGreatDoor
end
section
set_option maxRecDepth 20000
namespace Go.Proofs.YtfdffboelecgoaaGreatDoor
open Go.Fw Go.Proofs Go.RowKit
variable {σ σ0 : Store}
theorem toList_baOf (l : List UInt8) : ByteArray.toList (baOf l) = l := by
 rw [Lib.toList_data]; rfl
theorem law06_same_ok {a0 a1 a2 a3 a4 b0 b1 b2 b3 b4 : D} {a b : Cf} (ha : CfAt σ a0 a1 a2 a3 a4 a) (hb : CfAt σ b0 b1 b2 b3 b4 b) (ha6 : cf64 a) (hb6 : cf64 b) (hsa : (cfTxt a).length ≤ 2 ^ 46) (hsb : (cfTxt b).length ≤ 2 ^ 46) :
   Fw.Pure Tryz.prog n_law06_same [cfA a0 a1 a2 a3 a4 a, cfA b0 b1 b2 b3 b4 b] σ (.a (bA (cfTxt a == cfTxt b))) :=
 W_law06_same a0 a1 a2 a3 a4 a.Age a.Brake a.Hold a.Budget b0 b1 b2 b3 b4 b.Age b.Brake b.Hold b.Budget σ _
   ((ref06_Text_ok ha ha6 hsa).use ⟨_, rfl, (ref06_Text_ok hb hb6 hsb).use ⟨_, rfl, by rw [toList_baOf, toList_baOf], rfl⟩⟩)
structure WdIn (σ0 s : Store) (id : Nat) (ws : List ByteArray) (bad : Bool) : Prop where
 new : σ0 id = .free
 ext : Ext σ0 s
 cell : ∃ d, s id = .live t_conf_words [[d, .bool bad]] ∧ At Tryz.prog σ0 t_string d (ws.map strRow)
theorem ext_away {s s' : Store} {id : Nat} (h : Ext σ0 s) (hn : σ0 id = .free) (ho : ∀ i, i ≠ id → s' i = s i) : Ext σ0 s' := fun i hi => by
 rw [ho i fun e => hi (e ▸ hn)]; exact h i hi
theorem next_ok {s : Store} {id : Nat} {ws : List ByteArray} {bad : Bool} (h : WdIn σ0 s id ws bad) :
   DCalls Tryz.prog n_conf_words_next [.one (pO id)] s fun r s' => r = .a (sA (ws.headD (baOf []))) ∧ WdIn σ0 s' id ws.tail (bad || ws.isEmpty) ∧ ∀ i, i ≠ id → s' i = s i := by
 obtain ⟨hn, he, d, h1, h0⟩ := h
 have h2 := h0.ext he
 have hsz := h2.size
 rw [List.length_map] at hsz
 refine W_conf_words_next (pO id) s _ ⟨trivial, _, _, _, rfl, _, box_row h1, d, rfl, h2.lenK ?_⟩
 rw [List.length_map]
 refine bce (fun e => ?_) (fun e => ?_)
 · have : ws = [] := List.length_eq_zero_iff.1 (by omega)
   subst this
   refine ⟨trivial, _, _, _, rfl, pr_store h1 (by simp) fun s' hs ho => ⟨rfl, ⟨hn, ext_away he hn ho, d, by rw [hs]; simp [patch], h0⟩, ho⟩⟩
 · cases ws with
   | nil => exact absurd rfl e
   | cons w ws =>
     refine ⟨trivial, _, _, _, rfl, _, box_row h1, d, rfl, h2.load (n := 0) (j := 0) rfl c_string rfl ⟨w, rfl, trivial, _, _, _, rfl, _, box_row h1, d, rfl, h2.sliceFromK (lo := 1) c_string rfl (by simp) ⟨trivial, _, _, _, rfl, pr_store h1 (by simp) fun s' hs ho => ⟨rfl, ⟨hn, ext_away he hn ho, dsub d 1 ((w :: ws).map strRow).length, by rw [hs]; simp [patch], ?_⟩, ho⟩⟩⟩⟩
     have hA := h0.sub (lo := 1) (hi := ((w :: ws).map strRow).length) (by simp) (Nat.le_refl _)
     have e2 : ((((w :: ws).map strRow).drop 1).take (((w :: ws).map strRow).length - 1)) = ws.map strRow := by
       rw [List.take_of_length_le (by simp)]; rfl
     rw [e2] at hA
     exact hA
theorem atoiR_i64 (l : List UInt8) : i64 (atoiR l).1 := by
 unfold atoiR
 cases h : Lib.atoiAll l with
 | range =>
   show i64 (Lib.atoiSat l)
   unfold Lib.atoiSat
   split <;> exact ⟨by decide, by decide⟩
 | ok v =>
   show i64 v
   cases l with
   | nil => simp [Lib.atoiAll] at h
   | cons c r =>
     unfold Lib.atoiAll at h
     simp only at h
     split at h
     · cases h
     · cases h
     · split at h
       · cases h
       · split at h
         · cases h
         · injection h with h
           unfold i64
           rw [← h]
           split <;> omega
 | _ => exact (show i64 0 from ⟨by decide, by decide⟩)
def numOk (w : ByteArray) : Bool := !(atoiR w.data.toList).2 && (Lib.itoa (atoiR w.data.toList).1 == w.data.toList)
theorem num_ok {s : Store} {id : Nat} {ws : List ByteArray} {bad : Bool} (h : WdIn σ0 s id ws bad) (hsz : (ws.headD (baOf [])).size ≤ 281474976710656) :
   DCalls Tryz.prog n_conf_words_num [.one (pO id)] s fun r s' => r = .a (iA (atoiR (ws.headD (baOf [])).data.toList).1) ∧ WdIn σ0 s' id ws.tail (bad || ws.isEmpty || !numOk (ws.headD (baOf []))) ∧ ∀ i, i ≠ id → s' i = s i := by
 refine W_conf_words_num (pO id) s _ ((next_ok h).mono ?_)
 rintro r s1 ⟨rfl, h1, ho1⟩
 generalize ws.headD (baOf []) = w at *
 refine ⟨w, rfl, (atoi_ok hsz).use ⟨_, _, rfl, ?_⟩⟩
 obtain ⟨hn, he, d, g1, g2⟩ := h1
 have hi := atoiR_i64 w.data.toList
 have fin : ∀ b : Bool, b = (bad || ws.isEmpty || !numOk w) → storeEl [.bool b] s1 (.osl id 0 1) 0 (0 + 1) fun s' => (RV.a (iA (atoiR w.data.toList).1) = RV.a (iA (atoiR w.data.toList).1) ∧ WdIn σ0 s' id ws.tail (bad || ws.isEmpty || !numOk w) ∧ ∀ i, i ≠ id → s' i = s i) := fun b hb =>
   pr_store g1 (by simp) fun s' hs ho => ⟨rfl, ⟨hn, ext_away he hn ho, d, by rw [hs, hb]; simp [patch], g2⟩, fun i hne => (ho i hne).trans (ho1 i hne)⟩
 refine ⟨trivial, _, _, _, rfl, _, box_row g1, bad || ws.isEmpty, rfl, bc (fun e => ?_) (fun e => ?_)⟩
 · exact ⟨trivial, _, _, _, rfl, fin true (by rw [e]; rfl)⟩
 · refine ⟨!(atoiR w.data.toList).2, rfl, ?_⟩
   cases hee : (atoiR w.data.toList).2 with
   | true => exact bc (fun _ => ⟨trivial, _, _, _, rfl, fin true (by rw [e]; unfold numOk; rw [hee]; rfl)⟩) (fun e => absurd e (by decide))
   | false =>
     refine bc (fun e => absurd e (by decide)) (fun _ => (itoa_ok hi).use ⟨_, rfl, trivial, _, _, _, rfl, fin _ ?_⟩)
     rw [e, toList_baOf, Lib.toList_data]
     unfold numOk
     rw [hee]
     simp
end Go.Proofs.YtfdffboelecgoaaGreatDoor
end
namespace Go.Proofs.YtfdffboelecgoaaGreatDoor
open Go.Fw Go.Proofs
section
abbrev Ws := List ByteArray × Bool
def rdNext (s : Ws) : ByteArray × Ws := (s.1.headD (baOf []), (s.1.tail, s.2 || s.1.isEmpty))
def rdNum (s : Ws) : Int × Ws := ((atoiR (s.1.headD (baOf [])).data.toList).1, (s.1.tail, s.2 || s.1.isEmpty || !numOk (s.1.headD (baOf []))))
def rdMore (word : List UInt8) (s : Ws) : Bool := !s.2 && !s.1.isEmpty && (word.isEmpty || !((s.1.headD (baOf [])).data.toList == word))
def rdLoop {α : Type} (word : List UInt8) (step : α → Ws → α × Ws) : Nat → α → Ws → α × Ws
 | 0, x, s => (x, s)
 | n + 1, x, s => if rdMore word s then rdLoop word step n (step x s).1 (step x s).2 else (x, s)
def rdEach {α : Type} (word : List UInt8) (step : α → Ws → α × Ws) (x : α) (s : Ws) : α × Ws :=
 let p := rdLoop word step s.1.length x s
 if word.isEmpty then p else (p.1, ((rdNext p.2).2.1, !((rdNext p.2).1.data.toList == word) || (rdNext p.2).2.2))
def rdStep (x : Rt) (s : Ws) : Rt × Ws :=
 let a := rdNum s; let b := rdNum a.2; let c := rdNum b.2
 ({ x with Path := x.Path ++ [⟨a.1, b.1, c.1⟩] }, c.2)
def rdNeed (x : Rt) (s : Ws) : Rt × Ws :=
 let a := rdNum s; let b := rdNum a.2
 ({ x with Flank := x.Flank ++ [⟨a.1, b.1⟩] }, b.2)
def rdOver (x : Rt) (s : Ws) : Rt × Ws :=
 let a := rdNum s
 ({ x with Overlap := x.Overlap ++ [a.1] }, a.2)
def rdRoute (s : Ws) : Rt × Ws :=
 let a := rdNum s; let b := rdNum a.2; let c := rdNum b.2
 let p := rdNext c.2
 let w : Ws := if c.2.2 || !(decide (0 ≤ c.1) && decide (c.1 ≤ 1)) then (c.2.1, true) else (p.2.1, !(p.1.data.toList == [112, 97, 116, 104]))
 let r := rdEach (wFlank.drop 1) rdStep ⟨a.1, b.1, [], [], [], c.1 == 1⟩ w
 let q := rdEach (wOver.drop 1) rdNeed r.1 r.2
 rdEach [] rdOver q.1 q.2
def rdLine (c : Cf) (s : Ws) : Int × Cf × Ws :=
 let h := rdNext s
 let w := h.1.data.toList
 if w = wSec then let x := rdNum h.2; let y := rdNum x.2; let z := rdNum y.2; (1, { c with Secs := c.Secs ++ [⟨x.1, y.1, z.1⟩] }, z.2)
 else if w = wJt then let x := rdNum h.2; let y := rdNum x.2; let z := rdNum y.2; let u := rdNum z.2; (2, { c with Jts := c.Jts ++ [⟨x.1, y.1, z.1, u.1⟩] }, u.2)
 else if w = wSg then let x := rdNum h.2; let y := rdNum x.2; (3, { c with Sigs := c.Sigs ++ [⟨x.1, y.1⟩] }, y.2)
 else if w = wX then let x := rdNum h.2; (4, { c with Xs := c.Xs ++ [x.1] }, x.2)
 else if w = wRoute then let x := rdRoute h.2; (5, { c with Rts := c.Rts ++ [x.1] }, x.2)
 else if w = wTim then let x := rdNum h.2; let y := rdNum x.2; let z := rdNum y.2; let u := rdNum z.2; (6, { c with Age := x.1, Brake := y.1, Hold := z.1, Budget := u.1 }, u.2)
 else (0, c, (h.2.1, true))
def rdLines : List ByteArray → Cf → Int → Option (Cf × Int)
 | [], c, last => some (c, last)
 | l :: r, c, last =>
   let x := rdLine c (pieces 32 l, false)
   if x.2.2.2 || !x.2.2.1.isEmpty || decide (x.1 < last) || (x.1 == last && x.1 == 6) then none else rdLines r x.2.1 x.1
def noCf : Cf := ⟨[], [], [], [], [], 0, 0, 0, 0⟩
def rdText (t : ByteArray) : Option Cf :=
 match rdLines (pieces 10 (cutEnd 10 t)) noCf 0 with
 | some (c, last) => if ends 10 t && last == 6 then some c else none
 | none => none
end
end Go.Proofs.YtfdffboelecgoaaGreatDoor
section
set_option maxRecDepth 20000
namespace Go.Proofs.YtfdffboelecgoaaGreatDoor
open Go.Fw Go.Proofs Go.RowKit
variable {σ σ0 : Store} {F : Nat → Prop} {wid : Nat}
theorem at_ne {s : Store} {el el' : TypeId} {d d' : D} {rs rs' : List (List D)} (h : At Tryz.prog s el d rs) (h' : At Tryz.prog s el' d' rs') (hc : Tryz.prog.cellsOf el ≠ Tryz.prog.cellsOf el') : Apart d d' := fun i h1 h2 => by
 cases d with
 | osl a b c =>
   cases d' with
   | osl a' b' c' =>
     simp only [idOf, Option.some.injEq] at h1 h2
     subst h1 h2
     obtain ⟨t, rows, g1, g2, _⟩ := h.lt_live
     obtain ⟨t', rows', k1, k2, _⟩ := h'.lt_live
     rw [g1] at k1
     injection k1 with k1 _
     exact hc (by rw [← g2, ← k2, k1])
   | _ => simp [idOf] at h2
 | _ => simp [idOf] at h1
theorem at_ne_obj {s : Store} {el t : TypeId} {d : D} {rs rows : List (List D)} {id : Nat} (h : At Tryz.prog s el d rs) (h' : s id = .live t rows) (hc : Tryz.prog.cellsOf el ≠ Tryz.prog.cellsOf t) : idOf d ≠ some id := fun h1 => by
 cases d with
 | osl a b c =>
   simp only [idOf, Option.some.injEq] at h1
   subst h1
   obtain ⟨t', rows', g1, g2, _⟩ := h.lt_live
   rw [h'] at g1
   injection g1 with g1 _
   exact hc (by rw [← g2, ← g1])
 | _ => simp [idOf] at h1
theorem app1 {s : Store} {el : TypeId} {bytes : Nat} {d : D} {rs : List (List D)} {ns : List D} {K : D → Store → Prop} (h : Own Tryz.prog σ0 s el d rs) (hb : bytes * (rs.length + 1) ≤ 140737488355328) (hsz : rs.length + 1 < 2 ^ 60)
   (hk : ∀ d' s', Own Tryz.prog σ0 s' el d' (rs ++ [ns]) → (∀ i, s i ≠ .free → idOf d ≠ some i → s' i = s i) → (∀ i, idOf d' = some i → idOf d = some i ∨ s i = .free) → K d' s') :
   Fw.newObj s (.live el [ns]) fun id s1 => appendTo Tryz.prog s1 el bytes d (.osl id 0 1) K := by
 refine newObj_intro fun id s1 hid _ he hs => ?_
 refine (h.ext' he).append (At.fresh hs (by simp) rfl) (by simpa using hb) (by simpa using hsz) fun d' s' h1 h2 h3 => ?_
 refine hk d' s' h1 (fun i hi hd => ?_) (fun i hi => ?_)
 · rw [h2 i (by rw [he i hi]; exact hi) (fun a b e => hd (by rw [e]; rfl)), he i hi]
 · cases d' with
   | osl a b c =>
     simp only [idOf, Option.some.injEq] at hi
     subst hi
     rcases h3 a b c rfl with g | ⟨a', b', g⟩
     · by_cases hf : s a = .free
       · exact .inr hf
       · rw [he a hf] at g; exact .inr g
     · exact .inl (by rw [g]; rfl)
   | _ => simp [idOf] at hi
def Wx (σ0 s : Store) (wid : Nat) (ws : List ByteArray) (bad : Bool) : Prop := WdIn σ0 s wid ws bad ∧ ∀ w ∈ ws, w.size ≤ 281474976710656
theorem tail_mem {ws : List ByteArray} (h : ∀ w ∈ ws, w.size ≤ 281474976710656) : ∀ w ∈ ws.tail, w.size ≤ 281474976710656 := fun w hw => h w (List.mem_of_mem_tail hw)
theorem head_le {ws : List ByteArray} (h : ∀ w ∈ ws, w.size ≤ 281474976710656) : (ws.headD (baOf [])).size ≤ 281474976710656 := by
 cases ws with
 | nil => exact Nat.zero_le _
 | cons a l => exact h a (by simp)
theorem Wx.frame {s s' : Store} {ws : List ByteArray} {bad : Bool} (h : Wx σ0 s wid ws bad) (hs : s' wid = s wid) (he : Ext σ0 s') : Wx σ0 s' wid ws bad := by
 obtain ⟨⟨h1, h2, d, h3, h4⟩, h5⟩ := h
 exact ⟨⟨h1, he, d, hs.trans h3, h4⟩, h5⟩
theorem num_at {s cur : Store} {ws : List ByteArray} {bad : Bool} (h : Wx σ0 cur wid ws bad) (ho : ∀ i, i ≠ wid → cur i = s i) :
   DCalls Tryz.prog n_conf_words_num [.one (pO wid)] cur fun r s' => r = .a (iA (rdNum (ws, bad)).1) ∧ Wx σ0 s' wid (rdNum (ws, bad)).2.1 (rdNum (ws, bad)).2.2 ∧ ∀ i, i ≠ wid → s' i = s i :=
 (num_ok h.1 (head_le h.2)).mono fun r s' ⟨h1, h2, h3⟩ => ⟨h1, ⟨h2, tail_mem h.2⟩, fun i hi => (h3 i hi).trans (ho i hi)⟩
theorem next_at {s cur : Store} {ws : List ByteArray} {bad : Bool} (h : Wx σ0 cur wid ws bad) (ho : ∀ i, i ≠ wid → cur i = s i) :
   DCalls Tryz.prog n_conf_words_next [.one (pO wid)] cur fun r s' => r = .a (sA (rdNext (ws, bad)).1) ∧ Wx σ0 s' wid (rdNext (ws, bad)).2.1 (rdNext (ws, bad)).2.2 ∧ ∀ i, i ≠ wid → s' i = s i :=
 (next_ok h.1).mono fun r s' ⟨h1, h2, h3⟩ => ⟨h1, ⟨h2, tail_mem h.2⟩, fun i hi => (h3 i hi).trans (ho i hi)⟩
structure RtD (σ0 : Store) (F : Nat → Prop) (s : Store) (rid : Nat) (x : Rt) (d1 d2 d3 : D) : Prop where
 new : σ0 rid = .free
 nf : ¬ F rid
 fl : ∀ i, F i → s i ≠ .free
 cell : s rid = .live t_Route [[iD x.Entry, iD x.Exit, d1, d2, d3, .bool x.Shunt]]
 o1 : Own Tryz.prog σ0 s t_Step d1 (x.Path.map St.enc)
 o2 : Own Tryz.prog σ0 s t_Need d2 (x.Flank.map Nd.enc)
 o3 : Own Tryz.prog σ0 s t_int d3 (x.Overlap.map Go.Fw.encI)
 f1 : ∀ i, F i → idOf d1 ≠ some i
 f2 : ∀ i, F i → idOf d2 ≠ some i
 f3 : ∀ i, F i → idOf d3 ≠ some i
theorem cneq {a b : TypeId} {m n : Nat} (ha : Tryz.prog.cellsOf a = m) (hb : Tryz.prog.cellsOf b = n) (h : m ≠ n) : Tryz.prog.cellsOf a ≠ Tryz.prog.cellsOf b := by rw [ha, hb]; exact h
theorem RtD.away {s s' : Store} {rid : Nat} {x : Rt} {d1 d2 d3 : D} (h : RtD σ0 F s rid x d1 d2 d3) (hw : F wid) (hn : σ0 wid = .free) (hl : s' wid ≠ .free) (ho : ∀ i, i ≠ wid → s' i = s i) : RtD σ0 F s' rid x d1 d2 d3 where
 new := h.new
 nf := h.nf
 fl i hi := by
   by_cases e : i = wid
   · rw [e]; exact hl
   · rw [ho i e]; exact h.fl i hi
 cell := by rw [ho rid fun e => h.nf (e ▸ hw)]; exact h.cell
 o1 := pr_other h.o1 hn (h.f1 wid hw) ho
 o2 := pr_other h.o2 hn (h.f2 wid hw) ho
 o3 := pr_other h.o3 hn (h.f3 wid hw) ho
 f1 := h.f1
 f2 := h.f2
 f3 := h.f3
theorem Wx.live {s : Store} {ws : List ByteArray} {bad : Bool} (h : Wx σ0 s wid ws bad) : s wid ≠ .free := by
 obtain ⟨⟨_, _, d, h3, _⟩, _⟩ := h
 rw [h3]; intro e; cases e
theorem own_beside {s s' s2 : Store} {el : TypeId} {d e : D} {qs : List (List D)} {oid : Nat} (g : Own Tryz.prog σ0 s el e qs) (h1 : ∀ i, s i ≠ .free → idOf d ≠ some i → s' i = s i) (ha : Apart e d) (he : Ext σ0 s2) (hs : ∀ i, i ≠ oid → s2 i = s' i) (hd : idOf e ≠ some oid) :
   Own Tryz.prog σ0 s2 el e qs :=
 ⟨g.at_.same fun i a n h => by
   have hi : s i ≠ .free := by
     have := g.at_.rows; subst h
     obtain ⟨t, rows, h1, _⟩ := this
     rw [h1]; intro e; cases e
   rw [hs i fun e => hd (by rw [h, ← e]; rfl), h1 i hi (ha i (by rw [h]; rfl))], he, g.new, g.nsl, g.nz⟩
theorem ext_put {s' s2 : Store} {oid : Nat} (h : Ext σ0 s') (hn : σ0 oid = .free) (hs : ∀ i, i ≠ oid → s2 i = s' i) : Ext σ0 s2 := fun i hi => by
 rw [hs i fun e => hi (e ▸ hn)]; exact h i hi
theorem RtD.addStep {s : Store} {rid : Nat} {x : Rt} {d1 d2 d3 : D} {z : St} {K : Store → Prop} (h : RtD σ0 F s rid x d1 d2 d3) (hl : x.Path.length < 2 ^ 40)
   (hk : ∀ d' s', RtD σ0 F s' rid { x with Path := x.Path ++ [z] } d' d2 d3 → (∀ i, F i → s' i = s i) → K s') :
   Fw.newObj s (.live t_Step [St.enc z]) fun id s1 => appendTo Tryz.prog s1 t_Step 24 d1 (.osl id 0 1) fun dd s2 => ∃ (e : D) (i off : Nat), (pO rid = .el e i off) ∧ storeEl [dd] s2 e i (off + 2) K := by
 refine app1 h.o1 (by rw [List.length_map]; omega) (by rw [List.length_map]; omega) fun d' s2 g1 g2 g3 => ⟨_, _, _, rfl, ?_⟩
 have hr : s rid ≠ .free := by rw [h.cell]; intro e; cases e
 have hr1 : idOf d1 ≠ some rid := at_ne_obj h.o1.at_ h.cell (cneq c_Step c_Route (by decide))
 have hc : s2 rid = .live t_Route [[iD x.Entry, iD x.Exit, d1, d2, d3, .bool x.Shunt]] := by rw [g2 rid hr hr1]; exact h.cell
 refine pr_store hc (by simp) fun s3 hs3 ho3 => hk d' s3 ?_ fun i hi => ?_
 · have he := ext_put g1.ext h.new ho3
   have ed : idOf d' ≠ some rid := fun e => by
     rcases g3 rid e with g | g
     · exact hr1 g
     · exact hr g
   have nn : ∀ i, F i → s3 i = s i := fun i hi => by rw [ho3 i fun e => h.nf (e ▸ hi), g2 i (h.fl i hi) (h.f1 i hi)]
   exact {
     new := h.new, nf := h.nf, fl := fun i hi => by rw [nn i hi]; exact h.fl i hi
     cell := by rw [hs3]; rfl
     o1 := by rw [List.map_append]; exact pr_other g1 h.new ed ho3
     o2 := own_beside h.o2 g2 (at_ne h.o2.at_ h.o1.at_ (cneq c_Need c_Step (by decide))) he ho3 (at_ne_obj h.o2.at_ h.cell (cneq c_Need c_Route (by decide)))
     o3 := own_beside h.o3 g2 (at_ne h.o3.at_ h.o1.at_ (cneq c_int c_Step (by decide))) he ho3 (at_ne_obj h.o3.at_ h.cell (cneq c_int c_Route (by decide)))
     f1 := fun i hi e => by
       rcases g3 i e with g | g
       · exact h.f1 i hi g
       · exact h.fl i hi g
     f2 := h.f2, f3 := h.f3 }
 · rw [ho3 i fun e => h.nf (e ▸ hi), g2 i (h.fl i hi) (h.f1 i hi)]
theorem RtD.addNeed {s : Store} {rid : Nat} {x : Rt} {d1 d2 d3 : D} {z : Nd} {K : Store → Prop} (h : RtD σ0 F s rid x d1 d2 d3) (hl : x.Flank.length < 2 ^ 40)
   (hk : ∀ d' s', RtD σ0 F s' rid { x with Flank := x.Flank ++ [z] } d1 d' d3 → (∀ i, F i → s' i = s i) → K s') :
   Fw.newObj s (.live t_Need [Nd.enc z]) fun id s1 => appendTo Tryz.prog s1 t_Need 16 d2 (.osl id 0 1) fun dd s2 => ∃ (e : D) (i off : Nat), (pO rid = .el e i off) ∧ storeEl [dd] s2 e i (off + 3) K := by
 refine app1 h.o2 (by rw [List.length_map]; omega) (by rw [List.length_map]; omega) fun d' s2 g1 g2 g3 => ⟨_, _, _, rfl, ?_⟩
 have hr : s rid ≠ .free := by rw [h.cell]; intro e; cases e
 have hr1 : idOf d2 ≠ some rid := at_ne_obj h.o2.at_ h.cell (cneq c_Need c_Route (by decide))
 have hc : s2 rid = .live t_Route [[iD x.Entry, iD x.Exit, d1, d2, d3, .bool x.Shunt]] := by rw [g2 rid hr hr1]; exact h.cell
 refine pr_store hc (by simp) fun s3 hs3 ho3 => hk d' s3 ?_ fun i hi => ?_
 · have he := ext_put g1.ext h.new ho3
   have ed : idOf d' ≠ some rid := fun e => by
     rcases g3 rid e with g | g
     · exact hr1 g
     · exact hr g
   have nn : ∀ i, F i → s3 i = s i := fun i hi => by rw [ho3 i fun e => h.nf (e ▸ hi), g2 i (h.fl i hi) (h.f2 i hi)]
   exact {
     new := h.new, nf := h.nf, fl := fun i hi => by rw [nn i hi]; exact h.fl i hi
     cell := by rw [hs3]; rfl
     o1 := own_beside h.o1 g2 (at_ne h.o1.at_ h.o2.at_ (cneq c_Step c_Need (by decide))) he ho3 (at_ne_obj h.o1.at_ h.cell (cneq c_Step c_Route (by decide)))
     o2 := by rw [List.map_append]; exact pr_other g1 h.new ed ho3
     o3 := own_beside h.o3 g2 (at_ne h.o3.at_ h.o2.at_ (cneq c_int c_Need (by decide))) he ho3 (at_ne_obj h.o3.at_ h.cell (cneq c_int c_Route (by decide)))
     f2 := fun i hi e => by
       rcases g3 i e with g | g
       · exact h.f2 i hi g
       · exact h.fl i hi g
     f1 := h.f1, f3 := h.f3 }
 · rw [ho3 i fun e => h.nf (e ▸ hi), g2 i (h.fl i hi) (h.f2 i hi)]
theorem RtD.addOver {s : Store} {rid : Nat} {x : Rt} {d1 d2 d3 : D} {z : Int} {K : Store → Prop} (h : RtD σ0 F s rid x d1 d2 d3) (hl : x.Overlap.length < 2 ^ 40)
   (hk : ∀ d' s', RtD σ0 F s' rid { x with Overlap := x.Overlap ++ [z] } d1 d2 d' → (∀ i, F i → s' i = s i) → K s') :
   Fw.newObj s (.live t_int [Go.Fw.encI z]) fun id s1 => appendTo Tryz.prog s1 t_int 8 d3 (.osl id 0 1) fun dd s2 => ∃ (e : D) (i off : Nat), (pO rid = .el e i off) ∧ storeEl [dd] s2 e i (off + 4) K := by
 refine app1 h.o3 (by rw [List.length_map]; omega) (by rw [List.length_map]; omega) fun d' s2 g1 g2 g3 => ⟨_, _, _, rfl, ?_⟩
 have hr : s rid ≠ .free := by rw [h.cell]; intro e; cases e
 have hr1 : idOf d3 ≠ some rid := at_ne_obj h.o3.at_ h.cell (cneq c_int c_Route (by decide))
 have hc : s2 rid = .live t_Route [[iD x.Entry, iD x.Exit, d1, d2, d3, .bool x.Shunt]] := by rw [g2 rid hr hr1]; exact h.cell
 refine pr_store hc (by simp) fun s3 hs3 ho3 => hk d' s3 ?_ fun i hi => ?_
 · have he := ext_put g1.ext h.new ho3
   have ed : idOf d' ≠ some rid := fun e => by
     rcases g3 rid e with g | g
     · exact hr1 g
     · exact hr g
   have nn : ∀ i, F i → s3 i = s i := fun i hi => by rw [ho3 i fun e => h.nf (e ▸ hi), g2 i (h.fl i hi) (h.f3 i hi)]
   exact {
     new := h.new, nf := h.nf, fl := fun i hi => by rw [nn i hi]; exact h.fl i hi
     cell := by rw [hs3]; rfl
     o1 := own_beside h.o1 g2 (at_ne h.o1.at_ h.o3.at_ (cneq c_Step c_int (by decide))) he ho3 (at_ne_obj h.o1.at_ h.cell (cneq c_Step c_Route (by decide)))
     o2 := own_beside h.o2 g2 (at_ne h.o2.at_ h.o3.at_ (cneq c_Need c_int (by decide))) he ho3 (at_ne_obj h.o2.at_ h.cell (cneq c_Need c_Route (by decide)))
     o3 := by rw [List.map_append]; exact pr_other g1 h.new ed ho3
     f3 := fun i hi e => by
       rcases g3 i e with g | g
       · exact h.f3 i hi g
       · exact h.fl i hi g
     f1 := h.f1, f2 := h.f2 }
 · rw [ho3 i fun e => h.nf (e ▸ hi), g2 i (h.fl i hi) (h.f3 i hi)]
structure RtIn (σ0 : Store) (F : Nat → Prop) (s0 : Store) (wid rid bid : Nat) (s : Store) (x : Rt) (ws : List ByteArray) : Prop where
 cell : ∃ d1 d2 d3, RtD σ0 F s rid x d1 d2 d3
 box : s bid = .live t_p_conf_words [[pO wid]]
 same : ∀ i, F i → i ≠ wid → s i = s0 i
 l1 : x.Path.length + ws.length < 2 ^ 40
 l2 : x.Flank.length + ws.length < 2 ^ 40
 l3 : x.Overlap.length + ws.length < 2 ^ 40
section
variable {s0 s : Store} {rid bid : Nat} {x : Rt} {ws : List ByteArray} {bad : Bool}
theorem step_ok (hw : Wx σ0 s wid ws bad) (hne : ws ≠ []) (h : RtIn σ0 F s0 wid rid bid s x ws) (hFw : F wid) (hFb : F bid) (hbw : bid ≠ wid) :
   DCalls Tryz.prog n_conf_words_route_1 [.one (pO rid), .one (pO bid)] s fun r s' => r = .tup [] ∧ Wx σ0 s' wid (rdStep x (ws, bad)).2.1 (rdStep x (ws, bad)).2.2 ∧ RtIn σ0 F s0 wid rid bid s' (rdStep x (ws, bad)).1 (rdStep x (ws, bad)).2.1 := by
 obtain ⟨⟨d1, d2, d3, hr⟩, hb, hsm, l1, l2, l3⟩ := h
 have hrw : rid ≠ wid := fun e => hr.nf (e ▸ hFw)
 have hnw : σ0 wid = .free := hw.1.new
 have hlen : ws.tail.tail.tail.length + 1 ≤ ws.length := by
   cases ws with
   | nil => exact absurd rfl hne
   | cons a l => simp only [List.tail_cons, List.length_cons, List.length_tail]; omega
 refine W_conf_words_route_1 (pO rid) (pO bid) s _ ?_
 have ho : ∀ i, i ≠ wid → s i = s i := fun _ _ => rfl
 repeat' apply And.intro
 all_goals
   repeat (first
     | refine ⟨_, _, _, rfl, _, box_row ((ho _ hrw).trans hr.cell), _, rfl, ?_⟩
     | refine ⟨_, _, _, rfl, _, box_row ((ho _ hbw).trans hb), _, rfl, ?_⟩
     | refine ⟨_, box_row ((ho _ hrw).trans hr.cell), _, rfl, ?_⟩
     | refine ⟨_, box_row ((ho _ hbw).trans hb), _, rfl, ?_⟩
     | refine ⟨_, _, _, rfl, ?_⟩
     | (refine (num_at hw ho).mono ?_; rintro _ _ ⟨rfl, hw, ho⟩; refine ⟨_, rfl, ?_⟩))
 all_goals
   refine (hr.away hFw hnw hw.live ho).addStep (z := ⟨_, _, _⟩) (by omega) fun d' s' k1 k2 => ⟨rfl, hw.frame (k2 wid hFw) k1.o1.ext, ⟨_, _, _, k1⟩, by rw [k2 bid hFb, ho bid hbw, hb], fun i hi hiw => by rw [k2 i hi, ho i hiw, hsm i hi hiw], ?_, ?_, ?_⟩
 all_goals
   simp only [rdStep, rdNum, List.length_append, List.length_cons, List.length_nil]
   omega
theorem need_ok (hw : Wx σ0 s wid ws bad) (hne : ws ≠ []) (h : RtIn σ0 F s0 wid rid bid s x ws) (hFw : F wid) (hFb : F bid) (hbw : bid ≠ wid) :
   DCalls Tryz.prog n_conf_words_route_2 [.one (pO rid), .one (pO bid)] s fun r s' => r = .tup [] ∧ Wx σ0 s' wid (rdNeed x (ws, bad)).2.1 (rdNeed x (ws, bad)).2.2 ∧ RtIn σ0 F s0 wid rid bid s' (rdNeed x (ws, bad)).1 (rdNeed x (ws, bad)).2.1 := by
 obtain ⟨⟨d1, d2, d3, hr⟩, hb, hsm, l1, l2, l3⟩ := h
 have hrw : rid ≠ wid := fun e => hr.nf (e ▸ hFw)
 have hnw : σ0 wid = .free := hw.1.new
 have hlen : ws.tail.tail.length + 1 ≤ ws.length := by
   cases ws with
   | nil => exact absurd rfl hne
   | cons a l => simp only [List.tail_cons, List.length_cons, List.length_tail]; omega
 refine W_conf_words_route_2 (pO rid) (pO bid) s _ ?_
 have ho : ∀ i, i ≠ wid → s i = s i := fun _ _ => rfl
 repeat' apply And.intro
 all_goals
   repeat (first
     | refine ⟨_, _, _, rfl, _, box_row ((ho _ hrw).trans hr.cell), _, rfl, ?_⟩
     | refine ⟨_, _, _, rfl, _, box_row ((ho _ hbw).trans hb), _, rfl, ?_⟩
     | refine ⟨_, box_row ((ho _ hrw).trans hr.cell), _, rfl, ?_⟩
     | refine ⟨_, box_row ((ho _ hbw).trans hb), _, rfl, ?_⟩
     | refine ⟨_, _, _, rfl, ?_⟩
     | (refine (num_at hw ho).mono ?_; rintro _ _ ⟨rfl, hw, ho⟩; refine ⟨_, rfl, ?_⟩))
 all_goals
   refine (hr.away hFw hnw hw.live ho).addNeed (z := ⟨_, _⟩) (by omega) fun d' s' k1 k2 => ⟨rfl, hw.frame (k2 wid hFw) k1.o1.ext, ⟨_, _, _, k1⟩, by rw [k2 bid hFb, ho bid hbw, hb], fun i hi hiw => by rw [k2 i hi, ho i hiw, hsm i hi hiw], ?_, ?_, ?_⟩
 all_goals
   simp only [rdNeed, rdNum, List.length_append, List.length_cons, List.length_nil]
   omega
theorem over_ok (hw : Wx σ0 s wid ws bad) (hne : ws ≠ []) (h : RtIn σ0 F s0 wid rid bid s x ws) (hFw : F wid) (hFb : F bid) (hbw : bid ≠ wid) :
   DCalls Tryz.prog n_conf_words_route_3 [.one (pO rid), .one (pO bid)] s fun r s' => r = .tup [] ∧ Wx σ0 s' wid (rdOver x (ws, bad)).2.1 (rdOver x (ws, bad)).2.2 ∧ RtIn σ0 F s0 wid rid bid s' (rdOver x (ws, bad)).1 (rdOver x (ws, bad)).2.1 := by
 obtain ⟨⟨d1, d2, d3, hr⟩, hb, hsm, l1, l2, l3⟩ := h
 have hrw : rid ≠ wid := fun e => hr.nf (e ▸ hFw)
 have hnw : σ0 wid = .free := hw.1.new
 have hlen : ws.tail.length + 1 ≤ ws.length := by
   cases ws with
   | nil => exact absurd rfl hne
   | cons a l => simp only [List.tail_cons, List.length_cons, List.length_tail]; omega
 refine W_conf_words_route_3 (pO rid) (pO bid) s _ ?_
 have ho : ∀ i, i ≠ wid → s i = s i := fun _ _ => rfl
 repeat' apply And.intro
 all_goals
   repeat (first
     | refine ⟨_, _, _, rfl, _, box_row ((ho _ hrw).trans hr.cell), _, rfl, ?_⟩
     | refine ⟨_, _, _, rfl, _, box_row ((ho _ hbw).trans hb), _, rfl, ?_⟩
     | refine ⟨_, box_row ((ho _ hrw).trans hr.cell), _, rfl, ?_⟩
     | refine ⟨_, box_row ((ho _ hbw).trans hb), _, rfl, ?_⟩
     | refine ⟨_, _, _, rfl, ?_⟩
     | (refine (num_at hw ho).mono ?_; rintro _ _ ⟨rfl, hw, ho⟩; refine ⟨_, rfl, ?_⟩))
 all_goals
   refine (hr.away hFw hnw hw.live ho).addOver (z := (rdNum (ws, bad)).1) (by omega) fun d' s' k1 k2 => ⟨rfl, hw.frame (k2 wid hFw) k1.o1.ext, ⟨_, _, _, k1⟩, by rw [k2 bid hFb, ho bid hbw, hb], fun i hi hiw => by rw [k2 i hi, ho i hiw, hsm i hi hiw], ?_, ?_, ?_⟩
 all_goals
   simp only [rdOver, rdNum, List.length_append, List.length_cons, List.length_nil]
   omega
end
end Go.Proofs.YtfdffboelecgoaaGreatDoor
end
section
set_option maxRecDepth 20000
namespace Go.Proofs.YtfdffboelecgoaaGreatDoor
open Go.Fw Go.Proofs Go.RowKit
variable {σ σ0 : Store} {F : Nat → Prop} {wid : Nat}
def wlenOf (s : Store) (wid : Nat) : Nat := match s wid with
 | .live _ [[d, _]] => dlen d
 | _ => 0
theorem Wx.wlen {s : Store} {ws : List ByteArray} {bad : Bool} (h : Wx σ0 s wid ws bad) : wlenOf s wid = ws.length := by
 obtain ⟨⟨_, _, d, h3, h4⟩, _⟩ := h
 unfold wlenOf
 rw [h3]
 show dlen d = _
 rw [h4.dlen, List.length_map]
theorem rdLoop_le {α : Type} {word : List UInt8} {step : α → Ws → α × Ws} (hdec : ∀ x ws bad, ws ≠ [] → (step x (ws, bad)).2.1.length < ws.length) : ∀ (n : Nat) (x : α) (s : Ws), s.1.length ≤ n → rdLoop word step n x s = rdLoop word step s.1.length x s
 | 0, x, s, h => by rw [Nat.le_zero.1 h]
 | n + 1, x, s, h => by
   cases hl : s.1.length with
   | zero =>
     have e : s.1 = [] := List.length_eq_zero_iff.1 hl
     have : rdMore word s = false := by unfold rdMore; rw [e]; simp
     show (if rdMore word s then _ else (x, s)) = (x, s)
     rw [this]; rfl
   | succ m =>
     rw [rdLoop, rdLoop]
     split
     · have hne : s.1 ≠ [] := fun e => by rw [e] at hl; cases hl
       have hd := hdec x s.1 s.2 hne
       have hd : (step x s).2.1.length < s.1.length := hd
       rw [rdLoop_le hdec n _ _ (by omega), rdLoop_le hdec m _ _ (by omega)]
     · rfl
theorem each_ok {α : Type} {word : ByteArray} {f : FuncId} {caps : List (Bool × List D)} {bs : List A} {step : α → Ws → α × Ws} {J : Store → α → List ByteArray → Prop} {s : Store} {x : α} {ws : List ByteArray} {bad : Bool} (hcap : capAs caps = some bs)
   (hstep : ∀ s x ws bad, Wx σ0 s wid ws bad → ws ≠ [] → J s x ws → DCalls Tryz.prog f bs s fun r s' => r = .tup [] ∧ Wx σ0 s' wid (step x (ws, bad)).2.1 (step x (ws, bad)).2.2 ∧ J s' (step x (ws, bad)).1 (step x (ws, bad)).2.1)
   (hdec : ∀ x ws bad, ws ≠ [] → (step x (ws, bad)).2.1.length < ws.length)
   (haway : ∀ s s' x ws, J s x ws → s' wid ≠ .free → σ0 wid = .free → (∀ i, i ≠ wid → s' i = s i) → J s' x ws.tail) (hw : Wx σ0 s wid ws bad) (hJ : J s x ws) (hwl : ws.length < 2 ^ 40) :
   DCalls Tryz.prog n_conf_words_each [.one (pO wid), sA word, .one (.fn f [] caps)] s fun r s' => r = .tup [] ∧ Wx σ0 s' wid (rdEach word.data.toList step x (ws, bad)).2.1 (rdEach word.data.toList step x (ws, bad)).2.2 ∧
     J s' (rdEach word.data.toList step x (ws, bad)).1 (rdEach word.data.toList step x (ws, bad)).2.1 := by
 have en : ByteArray.toList (ByteArray.mk (List.toArray [])) = [] := by rw [Lib.toList_data]
 refine W_conf_words_each (pO wid) word (.fn f [] caps) s _ ⟨fun s' => ∃ x' ws' bad', Wx σ0 s' wid ws' bad' ∧ J s' x' ws' ∧ ws'.length < 2 ^ 40 ∧ rdLoop word.data.toList step ws.length x (ws, bad) = rdLoop word.data.toList step ws'.length x' (ws', bad'),
   fun s' => wlenOf s' wid, ⟨x, ws, bad, hw, hJ, hwl, rfl⟩, ?_⟩
 rintro s1 ⟨y, vs, b, h1, h2, hvl, h3⟩
 obtain ⟨hn, he, d, g1, g2⟩ := h1.1
 have g3 := g2.ext he
 have fin : rdMore word.data.toList (vs, b) = false → rdLoop word.data.toList step ws.length x (ws, bad) = (y, (vs, b)) := fun hm => by
   rw [h3]
   cases hl : vs.length with
   | zero => rfl
   | succ m => rw [rdLoop, hm]; rfl
 have stop : rdMore word.data.toList (vs, b) = false → bcase (!((ByteArray.toList word) == (ByteArray.toList (ByteArray.mk (List.toArray [])))))
     (DCalls Tryz.prog n_conf_words_next [.one (pO wid)] s1 fun r s2 => ∃ t, (r = .a (.one (.str t))) ∧ bcase (!((ByteArray.toList t) == (ByteArray.toList word)))
       ((NotNil (pO wid)) ∧ ∃ (e : D) (i off : Nat), (pO wid = (.el e i off : D)) ∧ storeEl [.bool true] s2 e i (off + 1) fun s3 => ((RV.tup [] = RV.tup []) ∧ Wx σ0 s3 wid (rdEach word.data.toList step x (ws, bad)).2.1 (rdEach word.data.toList step x (ws, bad)).2.2 ∧ J s3 (rdEach word.data.toList step x (ws, bad)).1 (rdEach word.data.toList step x (ws, bad)).2.1))
       ((NotNil (pO wid)) ∧ ∃ (e : D) (i off : Nat), (pO wid = (.el e i off : D)) ∧ ∃ row : List D, (Row s2 e i row) ∧ ∃ b1 : Bool, ((List.take 1 (List.drop (off + 1) row)) = ([.bool b1] : List D)) ∧ (NotNil (pO wid)) ∧ ∃ (e : D) (i off : Nat), (pO wid = (.el e i off : D)) ∧ storeEl [.bool b1] s2 e i (off + 1) fun s3 => ((RV.tup [] = RV.tup []) ∧ Wx σ0 s3 wid (rdEach word.data.toList step x (ws, bad)).2.1 (rdEach word.data.toList step x (ws, bad)).2.2 ∧ J s3 (rdEach word.data.toList step x (ws, bad)).1 (rdEach word.data.toList step x (ws, bad)).2.1)))
     ((RV.tup [] = RV.tup []) ∧ Wx σ0 s1 wid (rdEach word.data.toList step x (ws, bad)).2.1 (rdEach word.data.toList step x (ws, bad)).2.2 ∧ J s1 (rdEach word.data.toList step x (ws, bad)).1 (rdEach word.data.toList step x (ws, bad)).2.1) := by
   intro hm
   have hf := fin hm
   rw [en, Lib.toList_data]
   unfold rdEach
   rw [hf]
   cases hwd : word.data.toList.isEmpty with
   | true =>
     rw [List.isEmpty_iff.1 hwd]
     exact ⟨rfl, h1, h2⟩
   | false =>
     have hb : (word.data.toList == []) = false := by
       cases hc : word.data.toList with
       | nil => rw [hc] at hwd; cases hwd
       | cons _ _ => rfl
     rw [hb]
     rw [if_neg Bool.false_ne_true]
     refine (next_at h1 fun _ _ => rfl).mono ?_
     rintro _ s2 ⟨rfl, k1, k2⟩
     refine ⟨_, rfl, ?_⟩
     rw [Lib.toList_data]
     obtain ⟨hn2, he2, d2, p1, p2⟩ := k1.1
     have put : ∀ v : Bool, v = (!((rdNext (vs, b)).1.data.toList == word.data.toList) || (rdNext (vs, b)).2.2) → storeEl [.bool v] s2 (.osl wid 0 1) 0 (0 + 1) fun s3 => ((RV.tup [] = RV.tup []) ∧ Wx σ0 s3 wid (rdNext (vs, b)).2.1 (!((rdNext (vs, b)).1.data.toList == word.data.toList) || (rdNext (vs, b)).2.2) ∧ J s3 y (rdNext (vs, b)).2.1) := fun v hv =>
       pr_store p1 (by simp) fun s3 hs ho => ⟨rfl, ⟨⟨hn2, ext_away he2 hn2 ho, d2, by rw [hs, ← hv]; rfl, p2⟩, k1.2⟩, haway s1 s3 y vs h2 (by rw [hs]; intro e; cases e) hn fun i hi => (ho i hi).trans (k2 i hi)⟩
     exact bc (fun e => ⟨trivial, _, _, _, rfl, put true (by rw [e] <;> rfl)⟩) (fun e => ⟨trivial, _, _, _, rfl, _, box_row p1, _, rfl, trivial, _, _, _, rfl, put (rdNext (vs, b)).2.2 (by rw [e] <;> rfl)⟩)
 have go : ∀ w r, vs = w :: r → b = false → rdMore word.data.toList (vs, b) = true → ∃ f' : FuncId, ∃ a : List (Bool × (List D)), ∃ b1 : List (Bool × (List D)), ∃ as0' : List A, ∃ bs' : List A, ((.fn f [] caps : D) = (.fn f' a b1 : D)) ∧ ((capAs a) = (Option.some as0')) ∧ ((capAs b1) = (Option.some bs')) ∧
     DCalls Tryz.prog f' (HAppend.hAppend (HAppend.hAppend as0' []) bs') s1 fun r s2 => (r = .tup []) ∧ (∃ x' ws' bad', Wx σ0 s2 wid ws' bad' ∧ J s2 x' ws' ∧ ws'.length < 2 ^ 40 ∧ rdLoop word.data.toList step ws.length x (ws, bad) = rdLoop word.data.toList step ws'.length x' (ws', bad')) ∧ (wlenOf s2 wid < wlenOf s1 wid) := by
   rintro w r rfl rfl hm
   refine ⟨f, [], caps, [], bs, rfl, rfl, hcap, (hstep s1 y _ _ h1 (by simp) h2).mono ?_⟩
   rintro _ s2 ⟨rfl, k1, k2⟩
   have hd := hdec y (w :: r) false (by simp)
   refine ⟨rfl, ⟨_, _, _, k1, k2, by omega, ?_⟩, by rw [k1.wlen, h1.wlen]; exact hd⟩
   rw [h3, List.length_cons, rdLoop, if_pos hm]
   exact rdLoop_le hdec _ _ _ (by simp only [List.length_cons] at hd; omega)
 refine ⟨trivial, _, _, _, rfl, _, box_row g1, b, rfl, bcnot (fun hb => ?_) (fun hb => stop (by unfold rdMore; rw [hb]; rfl))⟩
 subst hb
 refine ⟨trivial, _, _, _, rfl, _, box_row g1, d, rfl, g3.lenK ?_⟩
 rw [List.length_map]
 refine bcd (fun hlt => ?_) (fun hge => stop ?_)
 · cases vs with
   | nil => simp at hlt
   | cons w r =>
     refine bc (fun e => ?_) (fun e => ?_)
     · rw [en, Lib.toList_data] at e
       exact go w r rfl rfl (by unfold rdMore; rw [eq_of_beq e]; rfl)
     · rw [en, Lib.toList_data] at e
       refine ⟨trivial, _, _, _, rfl, _, box_row g1, d, rfl, g3.load (n := 0) (j := 0) rfl c_string rfl ⟨w, rfl, bcnot (fun e2 => ?_) (fun e2 => stop ?_)⟩⟩
       · rw [Lib.toList_data, Lib.toList_data] at e2
         exact go w r rfl rfl (by unfold rdMore; simp only [List.headD_cons]; rw [e2]; simp)
       · rw [Lib.toList_data, Lib.toList_data] at e2
         unfold rdMore
         simp only [List.headD_cons]
         rw [e2]
         have : word.data.toList.isEmpty = false := by
           cases hc : word.data.toList with
           | nil => rw [hc] at e; cases e
           | cons _ _ => rfl
         rw [this]; simp
 · have : vs = [] := List.length_eq_zero_iff.1 (by omega)
   subst this
   unfold rdMore; simp
end Go.Proofs.YtfdffboelecgoaaGreatDoor
end
section
set_option maxRecDepth 20000
namespace Go.Proofs.YtfdffboelecgoaaGreatDoor
open Go.Fw Go.Proofs Go.RowKit
variable {σ σ0 : Store} {F : Nat → Prop} {wid : Nat}
theorem tell_pure {f : FuncId} (G : List A → Option RV) (h : ∀ az r s, G az = some r → Pure Tryz.prog f az s r) :
   SpecOk Tryz.prog f (fun az _ => ∃ r, G az = some r) (fun az s r s' => G az = some r ∧ s' = s) := by
 refine ⟨?_, ?_, ?_, ?_, ?_⟩
 · rintro az s ⟨r, hr⟩
   exact (h az r s hr).mono fun r' s' ⟨e1, e2⟩ => ⟨by rw [e1]; exact hr, e2⟩
 · rintro az s ⟨r, hr⟩ hf
   exact ⟨r, s, ⟨hr, rfl⟩, hf⟩
 · rintro az s r s' ⟨_, rfl⟩ hf; exact hf
 · rintro az s id so h0 hso ⟨r, hr⟩
   refine ⟨⟨r, hr⟩, ?_⟩
   rintro r' s' ⟨h1, rfl⟩
   exact ⟨s, ⟨h1, rfl⟩, h0, rfl⟩
 · rintro az s r s' _ ⟨_, rfl⟩ i hi
   rfl
def betwG : List A → Option RV
 | [.one (.int .i64 n), .one (.int .i64 lo), .one (.int .i64 hi)] => some (.a (bA (decide (lo ≤ n ∧ n ≤ hi))))
 | _ => none
theorem betw_spec : SpecOk Tryz.prog n_conf_between (fun az _ => ∃ r, betwG az = some r) (fun az s r s' => betwG az = some r ∧ s' = s) := tell_pure betwG fun az r s h => by
 unfold betwG at h
 split at h
 · injection h with h; subst h; exact conf_between_ok _ _ _
 · cases h
theorem rdNum_len (s : Ws) : (rdNum s).2.1.length ≤ s.1.length := by show s.1.tail.length ≤ _; rw [List.length_tail]; omega
section
variable {s : Store} {ws : List ByteArray} {bad : Bool}
def rtAfter (s : Ws) : Ws :=
 let c := rdNum (rdNum (rdNum s).2).2
 let p := rdNext c.2
 if c.2.2 || !(decide (0 ≤ c.1) && decide (c.1 ≤ 1)) then (c.2.1, true) else (p.2.1, !(p.1.data.toList == [112, 97, 116, 104]))
def rtHead (s : Ws) : Rt := ⟨(rdNum s).1, (rdNum (rdNum s).2).1, [], [], [], (rdNum (rdNum (rdNum s).2).2).1 == 1⟩
theorem rtAfter_len (s : Ws) : (rtAfter s).1.length ≤ s.1.length := by
 have h1 := rdNum_len s
 have h2 := rdNum_len (rdNum s).2
 have h3 := rdNum_len (rdNum (rdNum s).2).2
 unfold rtAfter
 simp only
 split
 · simp only; omega
 · show (rdNum (rdNum (rdNum s).2).2).2.1.tail.length ≤ _
   rw [List.length_tail]; omega
theorem RtIn.off {s0 s s' : Store} {rid bid : Nat} {x : Rt} {ws : List ByteArray} (h : RtIn σ0 F s0 wid rid bid s x ws) (hFw : F wid) (hbw : bid ≠ wid) (hl : s' wid ≠ .free) (hn : σ0 wid = .free) (ho : ∀ i, i ≠ wid → s' i = s i) : RtIn σ0 F s0 wid rid bid s' x ws.tail := by
 obtain ⟨⟨d1, d2, d3, hr⟩, hb, hs, l1, l2, l3⟩ := h
 have := List.length_tail (l := ws)
 exact ⟨⟨d1, d2, d3, hr.away hFw hn hl ho⟩, (ho _ hbw).trans hb, fun i hi hiw => (ho i hiw).trans (hs i hi hiw), by omega, by omega, by omega⟩
theorem dec_tail {ws : List ByteArray} (h : ws ≠ []) : ws.tail.length < ws.length ∧ ws.tail.tail.length < ws.length ∧ ws.tail.tail.tail.length < ws.length := by
 cases ws with
 | nil => exact absurd rfl h
 | cons a l => simp only [List.tail_cons, List.length_cons, List.length_tail]; omega
theorem route_live (hw : Wx σ0 s wid ws bad) (hwl : ws.length < 2 ^ 39) :
   DCalls Tryz.prog n_conf_words_route [.one (pO wid)] s fun r s' => ∃ d1 d2 d3 rid bid F, r = .a (rtA d1 d2 d3 (rdRoute (ws, bad)).1) ∧ Wx σ0 s' wid (rdRoute (ws, bad)).2.1 (rdRoute (ws, bad)).2.2 ∧ RtD σ0 F s' rid (rdRoute (ws, bad)).1 d1 d2 d3 ∧
     s rid = .free ∧ s bid = .free ∧ s' bid = .live t_p_conf_words [[pO wid]] ∧ (∀ i, s i ≠ .free → F i) ∧ ∀ i, s i ≠ .free → i ≠ wid → s' i = s i := by
 have hnw := hw.1.new
 refine W_conf_words_route (pO wid) s _ (newObj_intro fun bid s1 hbid _ he1 hb => ?_)
 have hbw : bid ≠ wid := fun e => hw.live (by rw [← e]; exact hbid)
 have hw1 : Wx σ0 s1 wid ws bad := hw.frame (he1 wid hw.live) (hw.1.ext.trans he1)
 have hn0 : ∀ i, s i = .free → σ0 i = .free := fun i hi => by
   by_cases h : σ0 i = .free
   · exact h
   · have := hw.1.ext i h; rw [hi] at this; exact this.symm
 have hn1 : ∀ i, s1 i = .free → σ0 i = .free := fun i hi => by
   by_cases h : σ0 i = .free
   · exact h
   · have := hw1.1.ext i h; rw [hi] at this; exact this.symm
 have hs1 : ∀ i, s1 i = .free → s i = .free := fun i hi => by
   by_cases h : s i = .free
   · exact h
   · rw [he1 i h] at hi; exact hi
 intro R hR
 have main : ∀ rid s3, s3 rid = .live t_Route [[iD (rdNum (ws, bad)).1, iD (rdNum (rdNum (ws, bad)).2).1, .nils, .nils, .nils, .bool false]] → Wx σ0 s3 wid (rdNum (rdNum (ws, bad)).2).2.1 (rdNum (rdNum (ws, bad)).2).2.2 → s1 rid = .free → (∀ i, s1 i ≠ .free → i ≠ wid → s3 i = s1 i) → R (pO rid) s3 := by
   intro rid s3 hrid hw3 hfr hG
   have hrw : rid ≠ wid := fun e => hw1.live (by rw [← e]; exact hfr)
   have hl1 : ∀ i, s1 i ≠ .free → s3 i ≠ .free := fun i hi => by
     by_cases e : i = wid
     · rw [e]; exact hw3.live
     · rw [hG i hi e]; exact hi
   have hb3 : s3 bid = .live t_p_conf_words [[pO wid]] := (hG bid (by rw [hb]; intro e; cases e) hbw).trans hb
   refine hR _ s3 ⟨_, box_row hb3, _, rfl, (num_at hw3 fun _ _ => rfl).mono ?_⟩
   rintro _ s4 ⟨rfl, hw4, ho4⟩
   refine ⟨_, rfl, _, _, _, rfl, pr_store ((ho4 _ hrw).trans hrid) (by simp) fun s5 hs5 ho5 => ?_⟩
   have hw5 : Wx σ0 s5 wid (rdNum (rdNum (rdNum (ws, bad)).2).2).2.1 (rdNum (rdNum (rdNum (ws, bad)).2).2).2.2 := hw4.frame (ho5 _ hrw.symm) (ext_put hw4.1.ext (hn1 _ hfr) ho5)
   have hG5 : ∀ i, s1 i ≠ .free → i ≠ wid → s5 i = s1 i := fun i hi hiw => by
     rw [ho5 i fun e => hi (by rw [e]; exact hfr), ho4 i hiw, hG i hi hiw]
   have hb5 : s5 bid = .live t_p_conf_words [[pO wid]] := (hG5 bid (by rw [hb]; intro e; cases e) hbw).trans hb
   intro R1 hR1
   have body : ∀ s6, Wx σ0 s6 wid (rtAfter (ws, bad)).1 (rtAfter (ws, bad)).2 → (∀ i, i ≠ wid → s6 i = s5 i) → R1 s6 := by
     intro s6 hw6 ho6
     have hr6 : s6 rid = .live t_Route [[iD (rdNum (ws, bad)).1, iD (rdNum (rdNum (ws, bad)).2).1, .nils, .nils, .nils, .bool ((rdNum (rdNum (rdNum (ws, bad)).2).2).1 == 1)]] := by
       rw [ho6 _ hrw, hs5]; rfl
     have hlen := rtAfter_len (ws, bad)
     simp only at hlen
     have h6 : RtIn σ0 (fun i => s1 i ≠ .free) s1 wid rid bid s6 (rtHead (ws, bad)) (rtAfter (ws, bad)).1 := {
       cell := ⟨.nils, .nils, .nils, {
         new := hn1 _ hfr, nf := fun h => h hfr
         fl := fun i hi => by
           by_cases e : i = wid
           · rw [e]; exact hw6.live
           · rw [ho6 i e, hG5 i hi e]; exact hi
         cell := hr6
         o1 := .nil _ hw6.1.ext, o2 := .nil _ hw6.1.ext, o3 := .nil _ hw6.1.ext
         f1 := fun i _ h => by simp [idOf] at h
         f2 := fun i _ h => by simp [idOf] at h
         f3 := fun i _ h => by simp [idOf] at h }⟩
       box := (ho6 _ hbw).trans hb5
       same := fun i hi hiw => (ho6 i hiw).trans (hG5 i hi hiw)
       l1 := by show 0 + _ < _; omega
       l2 := by show 0 + _ < _; omega
       l3 := by show 0 + _ < _; omega }
     have hFw : s1 wid ≠ .free := hw1.live
     have hFb : s1 bid ≠ .free := by rw [hb]; intro e; cases e
     have away : ∀ s s' x ws, RtIn σ0 (fun i => s1 i ≠ .free) s1 wid rid bid s x ws → s' wid ≠ .free → σ0 wid = .free → (∀ i, i ≠ wid → s' i = s i) → RtIn σ0 (fun i => s1 i ≠ .free) s1 wid rid bid s' x ws.tail := fun s s' x ws h hl hn ho => h.off hFw hbw hl hn ho
     have lim : ∀ {s : Store} {x : Rt} {ws : List ByteArray}, RtIn σ0 (fun i => s1 i ≠ .free) s1 wid rid bid s x ws → ws.length < 2 ^ 40 := fun h => by have := h.l1; omega
     refine hR1 s6 ⟨_, box_row h6.box, _, rfl, (each_ok (word := baOf (wFlank.drop 1)) (step := rdStep) (J := RtIn σ0 (fun i => s1 i ≠ .free) s1 wid rid bid) rfl (fun s x ws bad a b c => step_ok a b c hFw hFb hbw) (fun x ws bad h => (dec_tail h).2.2) away hw6 h6 (lim h6)).mono ?_⟩
     rintro _ s7 ⟨rfl, hw7, h7⟩
     refine ⟨rfl, _, box_row h7.box, _, rfl, (each_ok (word := baOf (wOver.drop 1)) (step := rdNeed) (J := RtIn σ0 (fun i => s1 i ≠ .free) s1 wid rid bid) rfl (fun s x ws bad a b c => need_ok a b c hFw hFb hbw) (fun x ws bad h => (dec_tail h).2.1) away hw7 h7 (lim h7)).mono ?_⟩
     rintro _ s8 ⟨rfl, hw8, h8⟩
     refine ⟨rfl, _, box_row h8.box, _, rfl, (each_ok (word := baOf []) (step := rdOver) (J := RtIn σ0 (fun i => s1 i ≠ .free) s1 wid rid bid) rfl (fun s x ws bad a b c => over_ok a b c hFw hFb hbw) (fun x ws bad h => (dec_tail h).1) away hw8 h8 (lim h8)).mono ?_⟩
     rintro _ s9 ⟨rfl, hw9, h9⟩
     have h9 : RtIn σ0 (fun i => s1 i ≠ .free) s1 wid rid bid s9 (rdRoute (ws, bad)).1 (rdRoute (ws, bad)).2.1 := h9
     have hw9 : Wx σ0 s9 wid (rdRoute (ws, bad)).2.1 (rdRoute (ws, bad)).2.2 := hw9
     obtain ⟨⟨d1, d2, d3, hr9⟩, hb9, hs9, _, _, _⟩ := h9
     refine ⟨rfl, _, _, _, rfl, _, box_row hr9.cell, _, _, d1, d2, d3, _, rfl, d1, d2, d3, rid, bid, _, rfl, hw9, hr9, hs1 _ hfr, hbid, hb9, fun i hi => by rw [he1 i hi]; exact hi, fun i hi hiw => ?_⟩
     rw [hs9 i (by rw [he1 i hi]; exact hi) hiw, he1 i hi]
   obtain ⟨hn5, _, d5, p5, q5⟩ := hw5.1
   have put : ∀ s' ws' b' v, Wx σ0 s' wid ws' b' → (∀ i, i ≠ wid → s' i = s5 i) → rtAfter (ws, bad) = (ws', v) → storeEl [.bool v] s' (.osl wid 0 1) 0 (0 + 1) fun s6 => (([[.int .i64 0, .int .i64 0, .nils, .nils, .nils, .bool false]] : List (List D)) = ([[.int .i64 0, .int .i64 0, .nils, .nils, .nils, .bool false]] : List (List D))) ∧ R1 s6 := by
     intro s' ws' b' v hw' ho' hv
     obtain ⟨hn', he', d', p', q'⟩ := hw'.1
     refine pr_store p' (by simp) fun s6 hs6 ho6 => ⟨rfl, body s6 ?_ fun i hi => (ho6 i hi).trans (ho' i hi)⟩
     rw [hv]
     exact ⟨⟨hn', ext_away he' hn' ho6, d', by rw [hs6]; rfl, q'⟩, hw'.2⟩
   have ebt : ∀ n : Int, decide ((0 : Int) ≤ n ∧ n ≤ 1) = (decide (0 ≤ n) && decide (n ≤ 1)) := fun n => Bool.decide_and _ _
   refine ⟨⟨_, _, betw_spec, _, box_row hb5, _, rfl, _, box_row hb5, _, rfl, trivial, _, _, _, rfl, _, box_row p5, _, rfl, bc (fun e => ⟨trivial, _, _, _, rfl, put _ _ _ true hw5 (fun _ _ => rfl) ?_⟩) (fun e => ⟨⟨_, rfl⟩, ?_⟩)⟩,
     ⟨_, box_row hb5, _, rfl, trivial, _, _, _, rfl, _, box_row p5, _, rfl, bc (fun e => ⟨_, box_row hb5, _, rfl, trivial, _, _, _, rfl, put _ _ _ true hw5 (fun _ _ => rfl) ?_⟩) (fun e => (conf_between_ok _ _ _).use ⟨_, rfl, bcnot (fun e2 => ⟨_, box_row hb5, _, rfl, trivial, _, _, _, rfl, put _ _ _ true hw5 (fun _ _ => rfl) ?_⟩) (fun e2 => ⟨_, box_row hb5, _, rfl, (next_at hw5 fun _ _ => rfl).mono ?_⟩)⟩)⟩⟩
   · unfold rtAfter; simp only; rw [if_pos (by rw [e]; rfl)]
   · rintro r1 s' ⟨hr1, rfl⟩
     have hr1 : (RV.a (bA (decide ((0 : Int) ≤ (rdNum (rdNum (rdNum (ws, bad)).2).2).1 ∧ (rdNum (rdNum (rdNum (ws, bad)).2).2).1 ≤ 1)))) = r1 := by injection hr1
     subst hr1
     refine ⟨_, rfl, bcnot (fun e2 => ⟨trivial, _, _, _, rfl, put _ _ _ true hw5 (fun _ _ => rfl) ?_⟩) (fun e2 => ⟨_, box_row hb5, _, rfl, (next_at hw5 fun _ _ => rfl).mono ?_⟩)⟩
     · rw [ebt] at e2
       unfold rtAfter; simp only; rw [if_pos (by rw [e2]; simp)]
     · rw [ebt] at e2
       rintro _ s7 ⟨rfl, hw7, ho7⟩
       refine ⟨_, rfl, trivial, _, _, _, rfl, put s7 _ _ _ hw7 ho7 ?_⟩
       unfold rtAfter; simp only; rw [e, e2, Lib.toList_data, Lib.toList_data]; rfl
   · unfold rtAfter; simp only; rw [if_pos (by rw [e]; rfl)]
   · rw [ebt] at e2
     unfold rtAfter; simp only; rw [if_pos (by rw [e2]; simp)]
   · rw [ebt] at e2
     rintro _ s7 ⟨rfl, hw7, ho7⟩
     refine ⟨_, rfl, _, box_row ((ho7 _ hbw).trans hb5), _, rfl, trivial, _, _, _, rfl, put s7 _ _ _ hw7 ho7 ?_⟩
     unfold rtAfter; simp only; rw [e, e2, Lib.toList_data, Lib.toList_data]; rfl
 have hG : ∀ i, s1 i ≠ .free → i ≠ wid → s1 i = s1 i := fun _ _ _ => rfl
 have hw := hw1
 have fresh : ∀ {cur : Store} {rid : Nat}, cur rid = .free → cur wid ≠ .free → (∀ i, s1 i ≠ .free → i ≠ wid → cur i = s1 i) → s1 rid = .free := fun {cur rid} h1 h2 h3 => by
   by_cases h : s1 rid = .free
   · exact h
   · by_cases e : rid = wid
     · rw [e] at h1; exact absurd h1 h2
     · rw [h3 rid h e] at h1; exact h1
 repeat' apply And.intro
 all_goals
   repeat (first
     | refine ⟨_, box_row hb, _, rfl, ?_⟩
     | (refine (num_at hw fun _ _ => rfl).mono ?_
        rintro _ cur ⟨rfl, hw, ho⟩
        have hb := (ho _ hbw).trans hb
        have hG : ∀ i, s1 i ≠ .free → i ≠ wid → cur i = s1 i := fun i hi hiw => (ho i hiw).trans (hG i hi hiw)
        try have hc := (ho _ hrw).trans hc
        refine ⟨_, rfl, ?_⟩)
     | (refine newObj_intro fun rid cur hid _ he2 hc => ?_
        have hfr := fresh hid hw.live hG
        have hrw : rid ≠ wid := fun e => hw.live (by rw [← e]; exact hid)
        have hb := (he2 bid (by rw [hb]; intro e; cases e)).trans hb
        have hG : ∀ i, s1 i ≠ .free → i ≠ wid → cur i = s1 i := fun i hi hiw => (he2 i (by rw [hG i hi hiw]; exact hi)).trans (hG i hi hiw)
        have hw := hw.frame (he2 wid hw.live) (hw.1.ext.trans he2)))
 all_goals
   exact pr_store hc (by simp) fun s3 hs3 ho3 => ⟨rfl, main rid s3 (by rw [hs3]; rfl) (hw.frame (ho3 _ hrw.symm) (ext_put hw.1.ext (hn1 _ hfr) ho3)) hfr fun i hi hiw => by rw [ho3 i fun e => hi (by rw [e]; exact hfr), hG i hi hiw]⟩
end
end Go.Proofs.YtfdffboelecgoaaGreatDoor
end
section
set_option maxRecDepth 20000
namespace Go.Proofs.YtfdffboelecgoaaGreatDoor
open Go.Fw Go.Proofs Go.RowKit
variable {σ σ0 : Store} {F : Nat → Prop} {wid : Nat}
def Sf (d : D) : Prop := ∀ (σ : Store) (S : Nat → Prop), Fz Tryz.prog σ S d d
theorem sf_rows {es : Nat} {rs : List (List D)} (h : ∀ row ∈ rs, ∀ x ∈ row, Sf x) : Sf (.sl es rs) := fun σ S => .refl fun row hr d hd => h row hr d hd σ S
theorem fz_list {S : Nat → Prop} {s : Store} {el : TypeId} {d : D} {rs : List (List D)} (h : At Tryz.prog s el d rs) (hid : ∀ id, idOf d = some id → ¬ S id) (hf : ∀ row ∈ rs, ∀ x ∈ row, Sf x) :
   ∃ d', Fz Tryz.prog s S d d' ∧ (∀ s', At Tryz.prog s' el d' rs) ∧ Sf d' := by
 have hr := h.rows
 cases d <;> simp only [Go.Fw.Rows] at hr <;> try exact hr.elim
 · subst hr; exact ⟨.nils, .nils, fun _ => .nil, fun _ _ => .nils⟩
 · subst hr; exact ⟨.zsl, .zsl, fun _ => ⟨rfl, by simp, fun es rows e => by cases e⟩, fun _ _ => .zsl⟩
 · rename_i es rows
   obtain ⟨rfl, h3⟩ := hr
   exact ⟨_, sf_rows hf _ _, fun s' => ⟨⟨rfl, h3⟩, h.size, h.es⟩, sf_rows hf⟩
 · obtain ⟨t, rows, q1, q2, q3, rfl⟩ := hr
   rename_i id i len
   refine ⟨.sl (Tryz.prog.cellsOf t) ((rows.drop i).take len), ?_, fun s' => ⟨⟨rfl, .inr q2⟩, h.size, fun es rows e => ?_⟩, sf_rows hf⟩
   · have get : ∀ (j : Nat) row', ((rows.drop i).take len)[j]? = some row' → rows[i + j]? = some row' := fun j row' hj => by
       rw [List.getElem?_take] at hj
       split at hj
       · rw [List.getElem?_drop] at hj; exact hj
       · cases hj
     refine .osl id i len t rows _ (hid id rfl) q1 q3 (by simp; omega) (fun j row row' h1 h2 => ?_) (fun j row row' m x x' h1 h2 h3 h4 => ?_)
     · rw [get j row' h2] at h1; injection h1 with h1; rw [h1]
     · rw [get j row' h2] at h1; injection h1 with h1; subst h1
       rw [h3] at h4; injection h4 with h4; subst h4
       exact hf _ (List.mem_of_getElem? h2) _ (List.mem_of_getElem? h3) _ _
   · injection e with e1 e2
     rw [← e1]; exact q2
theorem flat_sf {d : D} (h : Flat d) : Sf d := fun _ _ => h.fz
theorem map_sf {α : Type} {f : α → List D} (hf : ∀ a, ∀ x ∈ f a, Flat x) (l : List α) : ∀ row ∈ l.map f, ∀ x ∈ row, Sf x := fun row hr x hx => by
 obtain ⟨a, _, rfl⟩ := List.mem_map.1 hr
 exact flat_sf (hf a x hx)
theorem fz_keep {S : Nat → Prop} {s : Store} {el : TypeId} {d : D} {rs : List (List D)} (h : At Tryz.prog σ0 el d rs) (hS : ∀ i, σ0 i ≠ .free → S i) (hf : ∀ row ∈ rs, ∀ x ∈ row, Sf x) : Fz Tryz.prog s S d d := by
 have hr := h.rows
 cases d <;> simp only [Go.Fw.Rows] at hr <;> try exact hr.elim
 · exact .nils
 · exact .zsl
 · obtain ⟨rfl, h3⟩ := hr
   exact sf_rows hf _ _
 · obtain ⟨t, rows, q1, _⟩ := hr
   exact .keep _ _ _ (hS _ (by rw [q1]; intro e; cases e))
def RtRow (row : List D) (x : Rt) : Prop :=
 ∃ d1 d2 d3, row = [iD x.Entry, iD x.Exit, d1, d2, d3, .bool x.Shunt] ∧ (∀ s, At Tryz.prog s t_Step d1 (x.Path.map St.enc)) ∧ (∀ s, At Tryz.prog s t_Need d2 (x.Flank.map Nd.enc)) ∧ (∀ s, At Tryz.prog s t_int d3 (x.Overlap.map Go.Fw.encI)) ∧ Sf d1 ∧ Sf d2 ∧ Sf d3
theorem RtRow.sf {row : List D} {x : Rt} (h : RtRow row x) : ∀ d ∈ row, Sf d := by
 obtain ⟨d1, d2, d3, rfl, _, _, _, h1, h2, h3⟩ := h
 intro d hd
 simp only [List.mem_cons, List.not_mem_nil, or_false] at hd
 rcases hd with rfl | rfl | rfl | rfl | rfl | rfl
 · exact flat_sf (.int _ _)
 · exact flat_sf (.int _ _)
 · exact h1
 · exact h2
 · exact h3
 · exact flat_sf (.bool _)
theorem st_flat (a : St) : ∀ x ∈ St.enc a, Flat x := fun x hx => by
 simp only [St.enc, List.mem_cons, List.not_mem_nil, or_false] at hx
 rcases hx with rfl | rfl | rfl <;> exact .int _ _
theorem nd_flat (a : Nd) : ∀ x ∈ Nd.enc a, Flat x := fun x hx => by
 simp only [Nd.enc, List.mem_cons, List.not_mem_nil, or_false] at hx
 rcases hx with rfl | rfl <;> exact .int _ _
theorem i_flat (a : Int) : ∀ x ∈ Go.Fw.encI a, Flat x := fun x hx => by
 simp only [Go.Fw.encI, List.mem_cons, List.not_mem_nil, or_false] at hx
 subst hx; exact .int _ _
theorem route_ok {s : Store} {ws : List ByteArray} {bad : Bool} (hw : Wx σ0 s wid ws bad) (hwl : ws.length < 2 ^ 39) :
   DCalls Tryz.prog n_conf_words_route [.one (pO wid)] s fun r s' => ∃ row, r = .a (.agg row) ∧ RtRow row (rdRoute (ws, bad)).1 ∧ Wx σ0 s' wid (rdRoute (ws, bad)).2.1 (rdRoute (ws, bad)).2.2 ∧ ∀ i, i ≠ wid → s' i = s i := by
 refine (route_live hw hwl).ret ?_
 rintro r s1 ⟨d1, d2, d3, rid, bid, F, rfl, hw1, hr, _, _, _, hF, hs⟩
 have hid : ∀ d, (∀ i, F i → idOf d ≠ some i) → ∀ id, idOf d = some id → ¬ s id ≠ .free := fun d hd id h1 h2 => hd id (hF id h2) h1
 obtain ⟨e1, a1, b1, c1⟩ := fz_list (S := fun i => s i ≠ .free) hr.o1.at_ (hid d1 hr.f1) (map_sf st_flat _)
 obtain ⟨e2, a2, b2, c2⟩ := fz_list (S := fun i => s i ≠ .free) hr.o2.at_ (hid d2 hr.f2) (map_sf nd_flat _)
 obtain ⟨e3, a3, b3, c3⟩ := fz_list (S := fun i => s i ≠ .free) hr.o3.at_ (hid d3 hr.f3) (map_sf i_flat _)
 obtain ⟨⟨hn, he, d, hc, hA⟩, hz⟩ := hw1
 have hlw : s wid ≠ .free := hw.live
 have hσ : ∀ i, σ0 i ≠ .free → s i ≠ .free := fun i hi => by rw [hw.1.ext i hi]; exact hi
 have hstr : ∀ row ∈ ((rdRoute (ws, bad)).2.1).map strRow, ∀ x ∈ row, Sf x := map_sf (fun a x hx => by
   simp only [strRow, List.mem_cons, List.not_mem_nil, or_false] at hx
   subst hx; exact .str _) _
 refine ⟨.a (.agg [iD (rdRoute (ws, bad)).1.Entry, iD (rdRoute (ws, bad)).1.Exit, e1, e2, e3, .bool (rdRoute (ws, bad)).1.Shunt]), fun i => match s i with | .free => .free | _ => s1 i, ⟨fun i => s i ≠ .free, fun i hi => hi, fun i hi => ?_, fun i hi => ?_, ?_⟩, _, rfl, ⟨e1, e2, e3, rfl, b1, b2, b3, c1, c2, c3⟩, ⟨⟨hn, fun i hi => ?_, d, ?_, hA⟩, hz⟩, fun i hi => ?_⟩
 · have : s i = .free := by by_cases h : s i = .free; exact h; exact absurd h hi
   simp only [this]
 · have e : (match s i with | .free => SO.free | _ => s1 i) = s1 i := by
     cases h : s i <;> first | rfl | exact absurd h hi
   show FzO _ _ _ _ _ (match s i with | .free => SO.free | _ => s1 i)
   rw [e]
   by_cases hiw : i = wid
   · subst hiw
     refine .inr ?_
     rw [hc]
     refine ⟨rfl, rfl, fun j row row' h1 h2 => ?_⟩
     rw [h1] at h2; injection h2 with h2; subst h2
     have : row = [d, .bool (rdRoute (ws, bad)).2.2] := by
       cases j with
       | zero => simpa using h1.symm
       | succ j => simp at h1
     subst this
     exact .cons (fz_keep hA hσ hstr) (.cons (.bool _) .nil)
   · exact .inl ⟨rfl, hs i hi hiw⟩
 · refine .cons (.int _ _) (.cons (.int _ _) (.cons a1 (.cons a2 (.cons a3 (.cons (.bool _) .nil)))))
 · have h := hσ i hi
   show (match s i with | .free => SO.free | _ => s1 i) = σ0 i
   have e : (match s i with | .free => SO.free | _ => s1 i) = s1 i := by
     cases h2 : s i <;> first | rfl | exact absurd h2 h
   rw [e]; exact he i hi
 · show (match s wid with | .free => SO.free | _ => s1 wid) = _
   have e : (match s wid with | .free => SO.free | _ => s1 wid) = s1 wid := by
     cases h2 : s wid <;> first | rfl | exact absurd h2 hlw
   rw [e]; exact hc
 · show (match s i with | .free => SO.free | _ => s1 i) = s i
   cases h2 : s i with
   | free => rfl
   | _ => show s1 i = _; rw [hs i (by rw [h2]; intro e; cases e) hi, h2]
structure Lst where
 el : TypeId
 off : Nat
 d : D
 rs : List (List D)
structure ObD (σ0 : Store) (F : Nat → Prop) (s : Store) (oid : Nat) (t : TypeId) (row : List D) (ls : List Lst) : Prop where
 new : σ0 oid = .free
 nf : ¬ F oid
 fl : ∀ i, F i → s i ≠ .free
 cell : s oid = .live t [row]
 own : ∀ l ∈ ls, Own Tryz.prog σ0 s l.el l.d l.rs ∧ (∀ i, F i → idOf l.d ≠ some i) ∧ Tryz.prog.cellsOf l.el ≠ Tryz.prog.cellsOf t
theorem ObD.away {s s' : Store} {oid : Nat} {t : TypeId} {row : List D} {ls : List Lst} (h : ObD σ0 F s oid t row ls) (hw : F wid) (hn : σ0 wid = .free) (hl : s' wid ≠ .free) (ho : ∀ i, i ≠ wid → s' i = s i) : ObD σ0 F s' oid t row ls where
 new := h.new
 nf := h.nf
 fl i hi := by
   by_cases e : i = wid
   · rw [e]; exact hl
   · rw [ho i e]; exact h.fl i hi
 cell := by rw [ho oid fun e => h.nf (e ▸ hw)]; exact h.cell
 own l hl := ⟨pr_other (h.own l hl).1 hn ((h.own l hl).2.1 wid hw) ho, (h.own l hl).2⟩
theorem ObD.put {s : Store} {oid off : Nat} {t : TypeId} {row xs : List D} {ls : List Lst} {K : Store → Prop} (h : ObD σ0 F s oid t row ls) (ho : off + xs.length ≤ row.length)
   (hk : ∀ s', ObD σ0 F s' oid t (patch row off xs) ls → (∀ i, F i → s' i = s i) → K s') : storeEl xs s (.osl oid 0 1) 0 off K := by
 refine pr_store h.cell ho fun s' hs' ho' => hk s' {
   new := h.new, nf := h.nf, fl := fun i hi => by rw [ho' i fun e => h.nf (e ▸ hi)]; exact h.fl i hi, cell := hs'
   own := fun l hl => ⟨pr_other (h.own l hl).1 h.new (at_ne_obj (h.own l hl).1.at_ h.cell (h.own l hl).2.2) ho', (h.own l hl).2⟩ } fun i hi => ho' i fun e => h.nf (e ▸ hi)
theorem ObD.add {s : Store} {oid bytes off : Nat} {t : TypeId} {row ns : List D} {l : Lst} {ls : List Lst} {K : Store → Prop} (h : ObD σ0 F s oid t row (l :: ls)) (hap : ∀ m ∈ ls, Tryz.prog.cellsOf m.el ≠ Tryz.prog.cellsOf l.el) (ho : off < row.length)
   (hb : bytes * (l.rs.length + 1) ≤ 140737488355328) (hsz : l.rs.length + 1 < 2 ^ 60)
   (hk : ∀ d' s', ObD σ0 F s' oid t (patch row off [d']) ({ l with d := d', rs := l.rs ++ [ns] } :: ls) → (∀ i, F i → s' i = s i) → K s') :
   Fw.newObj s (.live l.el [ns]) fun id s1 => appendTo Tryz.prog s1 l.el bytes l.d (.osl id 0 1) fun dd s2 => (NotNil (pO oid)) ∧ ∃ (e : D) (i o : Nat), (pO oid = .el e i o) ∧ storeEl [dd] s2 e i (o + off) K := by
 obtain ⟨hl, hf, hc⟩ := h.own l (by simp)
 refine app1 hl hb hsz fun d' s2 g1 g2 g3 => ⟨trivial, _, _, _, rfl, ?_⟩
 have hr : s oid ≠ .free := by rw [h.cell]; intro e; cases e
 have hr1 : idOf l.d ≠ some oid := at_ne_obj hl.at_ h.cell hc
 have hcell : s2 oid = .live t [row] := by rw [g2 oid hr hr1]; exact h.cell
 rw [Nat.zero_add]
 refine pr_store hcell (by simp; omega) fun s3 hs3 ho3 => ?_
 have he := ext_put g1.ext h.new ho3
 have ed : idOf d' ≠ some oid := fun e => by
   rcases g3 oid e with g | g
   · exact hr1 g
   · exact hr g
 have nn : ∀ i, F i → s3 i = s i := fun i hi => by rw [ho3 i fun e => h.nf (e ▸ hi), g2 i (h.fl i hi) (hf i hi)]
 refine hk d' s3 { new := h.new, nf := h.nf, fl := fun i hi => by rw [nn i hi]; exact h.fl i hi, cell := hs3, own := fun m hm => ?_ } nn
 rcases List.mem_cons.1 hm with rfl | hm
 · exact ⟨pr_other g1 h.new ed ho3, fun i hi e => by
     rcases g3 i e with g | g
     · exact hf i hi g
     · exact h.fl i hi g, hc⟩
 · obtain ⟨m1, m2, m3⟩ := h.own m (by simp [hm])
   exact ⟨own_beside m1 g2 (at_ne m1.at_ hl.at_ (hap m hm)) he ho3 (at_ne_obj m1.at_ h.cell m3), m2, m3⟩
theorem ObD.perm {s : Store} {oid : Nat} {t : TypeId} {row : List D} {ls ls' : List Lst} (h : ObD σ0 F s oid t row ls) (hp : ∀ l ∈ ls', l ∈ ls) : ObD σ0 F s oid t row ls' :=
 ⟨h.new, h.nf, h.fl, h.cell, fun l hl => h.own l (hp l hl)⟩
end Go.Proofs.YtfdffboelecgoaaGreatDoor
end
section
set_option maxRecDepth 20000
namespace Go.Proofs.YtfdffboelecgoaaGreatDoor
open Go.Fw Go.Proofs Go.RowKit
variable {σ σ0 : Store} {F : Nat → Prop} {wid cid : Nat}
def cfRow (c : Cf) (d0 d1 d2 d3 d4 : D) : List D := [d0, d1, d2, d3, d4, iD c.Age, iD c.Brake, iD c.Hold, iD c.Budget]
def cfLs (c : Cf) (d0 d1 d2 d3 d4 : D) (rows : List (List D)) : List Lst :=
 [⟨t_Section, 0, d0, c.Secs.map Sec.enc⟩, ⟨t_Joint, 1, d1, c.Jts.map Jt.enc⟩, ⟨t_Signal, 2, d2, c.Sigs.map Sg.enc⟩, ⟨t_int, 3, d3, c.Xs.map Go.Fw.encI⟩, ⟨t_Route, 4, d4, rows⟩]
def RtRows (rows : List (List D)) (l : List Rt) : Prop := rows.length = l.length ∧ ∀ (j : Nat) row x, rows[j]? = some row → l[j]? = some x → RtRow row x
structure CfD (σ0 : Store) (F : Nat → Prop) (s : Store) (cid : Nat) (c : Cf) (d0 d1 d2 d3 d4 : D) (rows : List (List D)) : Prop where
 ob : ObD σ0 F s cid t_Config (cfRow c d0 d1 d2 d3 d4) (cfLs c d0 d1 d2 d3 d4 rows)
 rts : RtRows rows c.Rts
def cfLen (c : Cf) (n : Nat) : Prop := c.Secs.length ≤ n ∧ c.Jts.length ≤ n ∧ c.Sigs.length ≤ n ∧ c.Xs.length ≤ n ∧ c.Rts.length ≤ n
theorem RtRows.add {rows : List (List D)} {l : List Rt} {row : List D} {x : Rt} (h : RtRows rows l) (hr : RtRow row x) : RtRows (rows ++ [row]) (l ++ [x]) := by
 refine ⟨by rw [List.length_append, List.length_append, h.1]; rfl, fun j r y h1 h2 => ?_⟩
 by_cases hj : j < rows.length
 · rw [List.getElem?_append_left hj] at h1
   rw [List.getElem?_append_left (by rw [← h.1]; exact hj)] at h2
   exact h.2 j r y h1 h2
 · rw [List.getElem?_append_right (by omega)] at h1
   rw [List.getElem?_append_right (by rw [← h.1]; omega), ← h.1] at h2
   cases hk : j - rows.length with
   | zero =>
     rw [hk] at h1 h2
     injection h1 with h1; injection h2 with h2
     subst h1 h2; exact hr
   | succ k => rw [hk] at h1; simp at h1
section
variable {s : Store} {c : Cf} {d0 d1 d2 d3 d4 : D} {rows : List (List D)}
theorem cells_ne_all : ∀ l ∈ cfLs c d0 d1 d2 d3 d4 rows, ∀ m ∈ cfLs c d0 d1 d2 d3 d4 rows, l.off ≠ m.off → Tryz.prog.cellsOf l.el ≠ Tryz.prog.cellsOf m.el := by
 intro l hl m hm
 simp only [cfLs, List.mem_cons, List.not_mem_nil, or_false] at hl hm
 rcases hl with rfl | rfl | rfl | rfl | rfl <;> rcases hm with rfl | rfl | rfl | rfl | rfl <;> intro h <;>
   first | exact absurd rfl h | exact cneq c_Section c_Joint (by decide) | exact cneq c_Section c_Signal (by decide) | exact cneq c_Section c_int (by decide) | exact cneq c_Section c_Route (by decide)
         | exact cneq c_Joint c_Section (by decide) | exact cneq c_Joint c_Signal (by decide) | exact cneq c_Joint c_int (by decide) | exact cneq c_Joint c_Route (by decide)
         | exact cneq c_Signal c_Section (by decide) | exact cneq c_Signal c_Joint (by decide) | exact cneq c_Signal c_int (by decide) | exact cneq c_Signal c_Route (by decide)
         | exact cneq c_int c_Section (by decide) | exact cneq c_int c_Joint (by decide) | exact cneq c_int c_Signal (by decide) | exact cneq c_int c_Route (by decide)
         | exact cneq c_Route c_Section (by decide) | exact cneq c_Route c_Joint (by decide) | exact cneq c_Route c_Signal (by decide) | exact cneq c_Route c_int (by decide)
theorem CfD.addSec (h : CfD σ0 F s cid c d0 d1 d2 d3 d4 rows) {z : Sec} {K : Store → Prop} (hl : c.Secs.length < 2 ^ 40) (hk : ∀ d' s', CfD σ0 F s' cid { c with Secs := c.Secs ++ [z] } d' d1 d2 d3 d4 rows → (∀ i, F i → s' i = s i) → K s') :
   Fw.newObj s (.live t_Section [Sec.enc z]) fun id s1 => appendTo Tryz.prog s1 t_Section 24 d0 (.osl id 0 1) fun dd s2 => (NotNil (pO cid)) ∧ ∃ (e : D) (i o : Nat), (pO cid = .el e i o) ∧ storeEl [dd] s2 e i (o + 0) K := by
 refine ObD.add (l := ⟨t_Section, 0, d0, c.Secs.map Sec.enc⟩) (ls := [⟨t_Joint, 1, d1, c.Jts.map Jt.enc⟩, ⟨t_Signal, 2, d2, c.Sigs.map Sg.enc⟩, ⟨t_int, 3, d3, c.Xs.map Go.Fw.encI⟩, ⟨t_Route, 4, d4, rows⟩]) h.ob
   (fun m hm => cells_ne_all (c := c) (d0 := d0) (d1 := d1) (d2 := d2) (d3 := d3) (d4 := d4) (rows := rows) m (by simp only [List.mem_cons, List.not_mem_nil, or_false] at hm; rcases hm with rfl | rfl | rfl | rfl <;> simp [cfLs]) _ (by simp [cfLs]) (by simp at hm; rcases hm with rfl | rfl | rfl | rfl <;> simp)) (by simp [cfRow]) (by rw [List.length_map]; omega) (by rw [List.length_map]; omega) fun d' s' g1 g2 => hk d' s' ⟨?_, h.rts⟩ g2
 exact g1.perm fun l hl => by simp only [cfLs, List.mem_cons, List.not_mem_nil, or_false] at hl; rcases hl with rfl | rfl | rfl | rfl | rfl <;> simp [cfLs]
theorem CfD.addJt (h : CfD σ0 F s cid c d0 d1 d2 d3 d4 rows) {z : Jt} {K : Store → Prop} (hl : c.Jts.length < 2 ^ 40) (hk : ∀ d' s', CfD σ0 F s' cid { c with Jts := c.Jts ++ [z] } d0 d' d2 d3 d4 rows → (∀ i, F i → s' i = s i) → K s') :
   Fw.newObj s (.live t_Joint [Jt.enc z]) fun id s1 => appendTo Tryz.prog s1 t_Joint 32 d1 (.osl id 0 1) fun dd s2 => (NotNil (pO cid)) ∧ ∃ (e : D) (i o : Nat), (pO cid = .el e i o) ∧ storeEl [dd] s2 e i (o + 1) K := by
 refine ObD.add (l := ⟨t_Joint, 1, d1, c.Jts.map Jt.enc⟩) (ls := [⟨t_Section, 0, d0, c.Secs.map Sec.enc⟩, ⟨t_Signal, 2, d2, c.Sigs.map Sg.enc⟩, ⟨t_int, 3, d3, c.Xs.map Go.Fw.encI⟩, ⟨t_Route, 4, d4, rows⟩]) (h.ob.perm fun l hl => by simp only [cfLs, List.mem_cons, List.not_mem_nil, or_false] at hl; rcases hl with rfl | rfl | rfl | rfl | rfl <;> simp [cfLs])
   (fun m hm => cells_ne_all (c := c) (d0 := d0) (d1 := d1) (d2 := d2) (d3 := d3) (d4 := d4) (rows := rows) m (by simp only [List.mem_cons, List.not_mem_nil, or_false] at hm; rcases hm with rfl | rfl | rfl | rfl <;> simp [cfLs]) _ (by simp [cfLs]) (by simp at hm; rcases hm with rfl | rfl | rfl | rfl <;> simp)) (by simp [cfRow]) (by rw [List.length_map]; omega) (by rw [List.length_map]; omega) fun d' s' g1 g2 => hk d' s' ⟨?_, h.rts⟩ g2
 exact g1.perm fun l hl => by simp only [cfLs, List.mem_cons, List.not_mem_nil, or_false] at hl; rcases hl with rfl | rfl | rfl | rfl | rfl <;> simp [cfLs]
theorem CfD.addSg (h : CfD σ0 F s cid c d0 d1 d2 d3 d4 rows) {z : Sg} {K : Store → Prop} (hl : c.Sigs.length < 2 ^ 40) (hk : ∀ d' s', CfD σ0 F s' cid { c with Sigs := c.Sigs ++ [z] } d0 d1 d' d3 d4 rows → (∀ i, F i → s' i = s i) → K s') :
   Fw.newObj s (.live t_Signal [Sg.enc z]) fun id s1 => appendTo Tryz.prog s1 t_Signal 16 d2 (.osl id 0 1) fun dd s2 => (NotNil (pO cid)) ∧ ∃ (e : D) (i o : Nat), (pO cid = .el e i o) ∧ storeEl [dd] s2 e i (o + 2) K := by
 refine ObD.add (l := ⟨t_Signal, 2, d2, c.Sigs.map Sg.enc⟩) (ls := [⟨t_Section, 0, d0, c.Secs.map Sec.enc⟩, ⟨t_Joint, 1, d1, c.Jts.map Jt.enc⟩, ⟨t_int, 3, d3, c.Xs.map Go.Fw.encI⟩, ⟨t_Route, 4, d4, rows⟩]) (h.ob.perm fun l hl => by simp only [cfLs, List.mem_cons, List.not_mem_nil, or_false] at hl; rcases hl with rfl | rfl | rfl | rfl | rfl <;> simp [cfLs])
   (fun m hm => cells_ne_all (c := c) (d0 := d0) (d1 := d1) (d2 := d2) (d3 := d3) (d4 := d4) (rows := rows) m (by simp only [List.mem_cons, List.not_mem_nil, or_false] at hm; rcases hm with rfl | rfl | rfl | rfl <;> simp [cfLs]) _ (by simp [cfLs]) (by simp at hm; rcases hm with rfl | rfl | rfl | rfl <;> simp)) (by simp [cfRow]) (by rw [List.length_map]; omega) (by rw [List.length_map]; omega) fun d' s' g1 g2 => hk d' s' ⟨?_, h.rts⟩ g2
 exact g1.perm fun l hl => by simp only [cfLs, List.mem_cons, List.not_mem_nil, or_false] at hl; rcases hl with rfl | rfl | rfl | rfl | rfl <;> simp [cfLs]
theorem CfD.addX (h : CfD σ0 F s cid c d0 d1 d2 d3 d4 rows) {z : Int} {K : Store → Prop} (hl : c.Xs.length < 2 ^ 40) (hk : ∀ d' s', CfD σ0 F s' cid { c with Xs := c.Xs ++ [z] } d0 d1 d2 d' d4 rows → (∀ i, F i → s' i = s i) → K s') :
   Fw.newObj s (.live t_int [Go.Fw.encI z]) fun id s1 => appendTo Tryz.prog s1 t_int 8 d3 (.osl id 0 1) fun dd s2 => (NotNil (pO cid)) ∧ ∃ (e : D) (i o : Nat), (pO cid = .el e i o) ∧ storeEl [dd] s2 e i (o + 3) K := by
 refine ObD.add (l := ⟨t_int, 3, d3, c.Xs.map Go.Fw.encI⟩) (ls := [⟨t_Section, 0, d0, c.Secs.map Sec.enc⟩, ⟨t_Joint, 1, d1, c.Jts.map Jt.enc⟩, ⟨t_Signal, 2, d2, c.Sigs.map Sg.enc⟩, ⟨t_Route, 4, d4, rows⟩]) (h.ob.perm fun l hl => by simp only [cfLs, List.mem_cons, List.not_mem_nil, or_false] at hl; rcases hl with rfl | rfl | rfl | rfl | rfl <;> simp [cfLs])
   (fun m hm => cells_ne_all (c := c) (d0 := d0) (d1 := d1) (d2 := d2) (d3 := d3) (d4 := d4) (rows := rows) m (by simp only [List.mem_cons, List.not_mem_nil, or_false] at hm; rcases hm with rfl | rfl | rfl | rfl <;> simp [cfLs]) _ (by simp [cfLs]) (by simp at hm; rcases hm with rfl | rfl | rfl | rfl <;> simp)) (by simp [cfRow]) (by rw [List.length_map]; omega) (by rw [List.length_map]; omega) fun d' s' g1 g2 => hk d' s' ⟨?_, h.rts⟩ g2
 exact g1.perm fun l hl => by simp only [cfLs, List.mem_cons, List.not_mem_nil, or_false] at hl; rcases hl with rfl | rfl | rfl | rfl | rfl <;> simp [cfLs]
theorem CfD.addRt (h : CfD σ0 F s cid c d0 d1 d2 d3 d4 rows) {z : Rt} {row : List D} {K : Store → Prop} (hz : RtRow row z) (hl : c.Rts.length < 2 ^ 40) (hk : ∀ d' s', CfD σ0 F s' cid { c with Rts := c.Rts ++ [z] } d0 d1 d2 d3 d' (rows ++ [row]) → (∀ i, F i → s' i = s i) → K s') :
   Fw.newObj s (.live t_Route [row]) fun id s1 => appendTo Tryz.prog s1 t_Route 96 d4 (.osl id 0 1) fun dd s2 => (NotNil (pO cid)) ∧ ∃ (e : D) (i o : Nat), (pO cid = .el e i o) ∧ storeEl [dd] s2 e i (o + 4) K := by
 have := h.rts.1
 refine ObD.add (l := ⟨t_Route, 4, d4, rows⟩) (ls := [⟨t_Section, 0, d0, c.Secs.map Sec.enc⟩, ⟨t_Joint, 1, d1, c.Jts.map Jt.enc⟩, ⟨t_Signal, 2, d2, c.Sigs.map Sg.enc⟩, ⟨t_int, 3, d3, c.Xs.map Go.Fw.encI⟩]) (h.ob.perm fun l hl => by simp only [cfLs, List.mem_cons, List.not_mem_nil, or_false] at hl; rcases hl with rfl | rfl | rfl | rfl | rfl <;> simp [cfLs])
   (fun m hm => cells_ne_all (c := c) (d0 := d0) (d1 := d1) (d2 := d2) (d3 := d3) (d4 := d4) (rows := rows) m (by simp only [List.mem_cons, List.not_mem_nil, or_false] at hm; rcases hm with rfl | rfl | rfl | rfl <;> simp [cfLs]) _ (by simp [cfLs]) (by simp at hm; rcases hm with rfl | rfl | rfl | rfl <;> simp)) (by simp [cfRow]) (by show 96 * (rows.length + 1) ≤ _; omega) (by show rows.length + 1 < _; omega) fun d' s' g1 g2 => hk d' s' ⟨?_, h.rts.add hz⟩ g2
 exact g1.perm fun l hl => by simp only [cfLs, List.mem_cons, List.not_mem_nil, or_false] at hl; rcases hl with rfl | rfl | rfl | rfl | rfl <;> simp [cfLs]
end
end Go.Proofs.YtfdffboelecgoaaGreatDoor
end
section
set_option maxRecDepth 100000
namespace Go.Proofs.YtfdffboelecgoaaGreatDoor
open Go.Fw Go.Proofs
def an_conf_Read : Ann := { esc := [2, 3, 4, 5, 22], cbs := [], draws := [], loops := [], joins := [] }
def V_conf_Read (text : ByteArray) (σ : Store) (Qp : RV → Store → Prop) : Prop :=
 Fw.newObj σ (.live t_Config [[.nils, .nils, .nils, .nils, .nils, .int .i64 0, .int .i64 0, .int .i64 0, .int .i64 0]]) (fun id Z => Fw.newObj Z (.live t_Errno [[.int .i64 0]]) (fun id1 Z1 => Fw.newObj Z1 (.live t_Config [[.nils, .nils, .nils, .nils, .nils, .int .i64 0, .int .i64 0, .int .i64 0, .int .i64 0]]) (fun id2 Z2 => Fw.newObj Z2 (.live t_int [[.int .i64 0]]) (fun id3 Z3 => storeEl [.int .i64 0] Z3 (.osl id3 0 1) 0 0 (fun Z4 => DCalls Tryz.prog n_strings_CutSuffix [.one (.str text), .one (.str (ByteArray.mk (List.toArray [10])))] Z4 (fun r Z5 => ∃ s : ByteArray, ∃ b : Bool, (r = (.tup [.one (.str s), .one (.bool b)] : RV)) ∧ DCalls Tryz.prog n_strings_SplitSeq [.one (.str s), .one (.str (ByteArray.mk (List.toArray [10])))] Z5 (fun r1 Z6 => ∃ d : D, (r1 = (.a (.one d) : RV)) ∧ ∃ f : FuncId, ∃ caps : List (Bool × (List D)), ∃ σd : Store, ∃ xs : List ByteArray, ∃ I : Nat → Store → Prop, ∃ X : Store → Prop, ((E.val (.one d)) = (E.val (.one (.fn f [] caps)))) ∧ (SeqOk Tryz.prog f caps Z6 σd xs) ∧ (I 0 σd) ∧ (∀ i : Nat, ∀ s1 : ByteArray, ∀ s0 : Store, (NthB xs i s1) → (I i s0) → DCalls Tryz.prog n_strings_Split [.one (.str s1), .one (.str (ByteArray.mk (List.toArray [32])))] s0 (fun r2 Z7 => ∃ d1 : D, (r2 = (.a (.one d1) : RV)) ∧ Fw.newObj Z7 (.live t_conf_words [[d1, .bool false]]) (fun id4 Z8 => DCalls Tryz.prog n_conf_words_line [.one (.el (.osl id4 0 1) 0 0), .one (.el (.osl id2 0 1) 0 0)] Z8 (fun r3 Z9 => ∃ n : Int, (r3 = (.a (.one (.int .i64 n)) : RV)) ∧ ∃ row : List D, (Row Z9 (.osl id4 0 1) 0 row) ∧ ∃ b1 : Bool, ((List.take 1 (List.drop 1 row)) = ([.bool b1] : List D)) ∧ bcase b1 (storeEl [.nils, .nils, .nils, .nils, .nils, .int .i64 0, .int .i64 0, .int .i64 0, .int .i64 0] Z9 (.osl id 0 1) 0 0 (fun Z10 => storeEl [.int .i64 13] Z10 (.osl id1 0 1) 0 0 (fun Z11 => X Z11))) (∃ row1 : List D, (Row Z9 (.osl id4 0 1) 0 row1) ∧ ∃ d2 : D, ((List.take 1 row1) = ([d2] : List D)) ∧ ∃ len : Nat, (Len d2 len) ∧ bcase (decide ((len : Int) > 0)) (storeEl [.nils, .nils, .nils, .nils, .nils, .int .i64 0, .int .i64 0, .int .i64 0, .int .i64 0] Z9 (.osl id 0 1) 0 0 (fun Z10 => storeEl [.int .i64 13] Z10 (.osl id1 0 1) 0 0 (fun Z11 => X Z11))) (∃ row2 : List D, (Row Z9 (.osl id3 0 1) 0 row2) ∧ ∃ n1 : Int, ((List.take 1 row2) = ([.int .i64 n1] : List D)) ∧ bcase (decide (n < n1)) (storeEl [.nils, .nils, .nils, .nils, .nils, .int .i64 0, .int .i64 0, .int .i64 0, .int .i64 0] Z9 (.osl id 0 1) 0 0 (fun Z10 => storeEl [.int .i64 13] Z10 (.osl id1 0 1) 0 0 (fun Z11 => X Z11))) (∃ row3 : List D, (Row Z9 (.osl id3 0 1) 0 row3) ∧ ∃ n2 : Int, ((List.take 1 row3) = ([.int .i64 n2] : List D)) ∧ bcase (n == n2) (bcase (n == 6) (storeEl [.nils, .nils, .nils, .nils, .nils, .int .i64 0, .int .i64 0, .int .i64 0, .int .i64 0] Z9 (.osl id 0 1) 0 0 (fun Z10 => storeEl [.int .i64 13] Z10 (.osl id1 0 1) 0 0 (fun Z11 => X Z11))) (storeEl [.int .i64 n] Z9 (.osl id3 0 1) 0 0 (fun Z10 => I (i + 1) Z10))) (storeEl [.int .i64 n] Z9 (.osl id3 0 1) 0 0 (fun Z10 => I (i + 1) Z10))))))))) ∧ (∀ s1 : Store, (I (List.length xs) s1) → bcase (!b) (storeEl [.nils, .nils, .nils, .nils, .nils, .int .i64 0, .int .i64 0, .int .i64 0, .int .i64 0] s1 (.osl id 0 1) 0 0 (fun Z7 => storeEl [.int .i64 13] Z7 (.osl id1 0 1) 0 0 (fun Z8 => ∃ row : List D, (Row Z8 (.osl id 0 1) 0 row) ∧ ∃ d1 d2 d3 d4 d5 : D, ∃ n n1 n2 n3 : Int, ((List.take 9 row) = ([d1, d2, d3, d4, d5, .int .i64 n, .int .i64 n1, .int .i64 n2, .int .i64 n3] : List D)) ∧ ∃ row1 : List D, (Row Z8 (.osl id1 0 1) 0 row1) ∧ ∃ n4 : Int, ((List.take 1 row1) = ([.int .i64 n4] : List D)) ∧ Qp (.tup [.agg [d1, d2, d3, d4, d5, .int .i64 n, .int .i64 n1, .int .i64 n2, .int .i64 n3], .one (.int .i64 n4)]) Z8))) (∃ row : List D, (Row s1 (.osl id3 0 1) 0 row) ∧ ∃ n : Int, ((List.take 1 row) = ([.int .i64 n] : List D)) ∧ bcase (n != 6) (storeEl [.nils, .nils, .nils, .nils, .nils, .int .i64 0, .int .i64 0, .int .i64 0, .int .i64 0] s1 (.osl id 0 1) 0 0 (fun Z7 => storeEl [.int .i64 13] Z7 (.osl id1 0 1) 0 0 (fun Z8 => ∃ row1 : List D, (Row Z8 (.osl id 0 1) 0 row1) ∧ ∃ d1 d2 d3 d4 d5 : D, ∃ n1 n2 n3 n4 : Int, ((List.take 9 row1) = ([d1, d2, d3, d4, d5, .int .i64 n1, .int .i64 n2, .int .i64 n3, .int .i64 n4] : List D)) ∧ ∃ row2 : List D, (Row Z8 (.osl id1 0 1) 0 row2) ∧ ∃ n5 : Int, ((List.take 1 row2) = ([.int .i64 n5] : List D)) ∧ Qp (.tup [.agg [d1, d2, d3, d4, d5, .int .i64 n1, .int .i64 n2, .int .i64 n3, .int .i64 n4], .one (.int .i64 n5)]) Z8))) (∃ row1 : List D, (Row s1 (.osl id2 0 1) 0 row1) ∧ ∃ d1 d2 d3 d4 d5 : D, ∃ n1 n2 n3 n4 : Int, ((List.take 9 row1) = ([d1, d2, d3, d4, d5, .int .i64 n1, .int .i64 n2, .int .i64 n3, .int .i64 n4] : List D)) ∧ storeEl [d1, d2, d3, d4, d5, .int .i64 n1, .int .i64 n2, .int .i64 n3, .int .i64 n4] s1 (.osl id 0 1) 0 0 (fun Z7 => storeEl [.int .i64 0] Z7 (.osl id1 0 1) 0 0 (fun Z8 => ∃ row2 : List D, (Row Z8 (.osl id 0 1) 0 row2) ∧ ∃ d6 d7 d8 d9 d10 : D, ∃ n5 n6 n7 n8 : Int, ((List.take 9 row2) = ([d6, d7, d8, d9, d10, .int .i64 n5, .int .i64 n6, .int .i64 n7, .int .i64 n8] : List D)) ∧ ∃ row3 : List D, (Row Z8 (.osl id1 0 1) 0 row3) ∧ ∃ n9 : Int, ((List.take 1 row3) = ([.int .i64 n9] : List D)) ∧ Qp (.tup [.agg [d6, d7, d8, d9, d10, .int .i64 n5, .int .i64 n6, .int .i64 n7, .int .i64 n8], .one (.int .i64 n9)]) Z8))))) ∧ ∀ s1 : Store, (X s1) → ∃ row : List D, (Row s1 (.osl id 0 1) 0 row) ∧ ∃ d1 d2 d3 d4 d5 : D, ∃ n n1 n2 n3 : Int, ((List.take 9 row) = ([d1, d2, d3, d4, d5, .int .i64 n, .int .i64 n1, .int .i64 n2, .int .i64 n3] : List D)) ∧ ∃ row1 : List D, (Row s1 (.osl id1 0 1) 0 row1) ∧ ∃ n4 : Int, ((List.take 1 row1) = ([.int .i64 n4] : List D)) ∧ Qp (.tup [.agg [d1, d2, d3, d4, d5, .int .i64 n, .int .i64 n1, .int .i64 n2, .int .i64 n3], .one (.int .i64 n4)]) s1)))))))
theorem W_conf_Read (text : ByteArray) (σ : Store) (Qp : RV → Store → Prop) (h : V_conf_Read text σ Qp) : DCalls Tryz.prog n_conf_Read [.one (.str text)] σ Qp :=
 dcalls_of_bodyX mixed (by kernel_rfl) Tryz.func15 an_conf_Read (Eq.mp (by kernel_rfl) h)
end Go.Proofs.YtfdffboelecgoaaGreatDoor
end
section
set_option maxRecDepth 20000
namespace Go.Proofs.YtfdffboelecgoaaGreatDoor
open Go.Fw Go.Proofs Go.RowKit
variable {σ σ0 : Store} {F : Nat → Prop} {wid cid : Nat}
def CfIn (σ0 : Store) (F : Nat → Prop) (s : Store) (cid : Nat) (c : Cf) : Prop := ∃ d0 d1 d2 d3 d4 rows, CfD σ0 F s cid c d0 d1 d2 d3 d4 rows
theorem CfD.away {s s' : Store} {c : Cf} {d0 d1 d2 d3 d4 : D} {rows : List (List D)} (h : CfD σ0 F s cid c d0 d1 d2 d3 d4 rows) (hw : F wid) (hn : σ0 wid = .free) (hl : s' wid ≠ .free) (ho : ∀ i, i ≠ wid → s' i = s i) : CfD σ0 F s' cid c d0 d1 d2 d3 d4 rows :=
 ⟨h.ob.away hw hn hl ho, h.rts⟩
theorem CfD.ext {s : Store} {c : Cf} {d0 d1 d2 d3 d4 : D} {rows : List (List D)} (h : CfD σ0 F s cid c d0 d1 d2 d3 d4 rows) : Ext σ0 s := (h.ob.own ⟨t_Section, 0, d0, c.Secs.map Sec.enc⟩ (by simp [cfLs])).1.ext
def LnPost (σ0 : Store) (F : Nat → Prop) (s : Store) (wid cid : Nat) (x : Int × Cf × Ws) (r : RV) (s' : Store) : Prop :=
 r = .a (iA x.1) ∧ Wx σ0 s' wid x.2.2.1 x.2.2.2 ∧ CfIn σ0 F s' cid x.2.1 ∧ ∀ i, F i → i ≠ wid → s' i = s i
section
variable {s : Store} {ws : List ByteArray} {bad : Bool} {c : Cf}
theorem rdLine_ok (hw : Wx σ0 s wid ws bad) (h : CfIn σ0 F s cid c) (hFw : F wid) (hl : cfLen c (2 ^ 39)) (hwl : ws.length < 2 ^ 39) :
   DCalls Tryz.prog n_conf_words_line [.one (pO wid), .one (pO cid)] s (LnPost σ0 F s wid cid (rdLine c (ws, bad))) := by
 obtain ⟨d0, d1, d2, d3, d4, rows, h⟩ := h
 obtain ⟨l0, l1, l2, l3, l4⟩ := hl
 have hnw := hw.1.new
 have hcw : cid ≠ wid := fun e => h.ob.nf (e ▸ hFw)
 refine W_conf_words_line (pO wid) (pO cid) s _ ((next_at hw fun _ _ => rfl).mono ?_)
 rintro _ s0 ⟨rfl, hw, ho⟩
 refine ⟨_, rfl, ?_⟩
 simp only [Lib.toList_data]
 have h := h.away hFw hnw hw.live ho
 have hsame : ∀ i, i ≠ wid → s0 i = s i := ho
 have hlen : (rdNext (ws, bad)).2.1.length ≤ ws.length := by show ws.tail.length ≤ _; rw [List.length_tail]; omega
 generalize hw0 : (rdNext (ws, bad)).1.data.toList = w0
 generalize hwr : (rdNext (ws, bad)).2 = wr at *
 have hline : ∀ x, (if w0 = wSec then let x := rdNum wr; let y := rdNum x.2; let z := rdNum y.2; ((1 : Int), { c with Secs := c.Secs ++ [⟨x.1, y.1, z.1⟩] }, z.2)
     else if w0 = wJt then let x := rdNum wr; let y := rdNum x.2; let z := rdNum y.2; let u := rdNum z.2; (2, { c with Jts := c.Jts ++ [⟨x.1, y.1, z.1, u.1⟩] }, u.2)
     else if w0 = wSg then let x := rdNum wr; let y := rdNum x.2; (3, { c with Sigs := c.Sigs ++ [⟨x.1, y.1⟩] }, y.2)
     else if w0 = wX then let x := rdNum wr; (4, { c with Xs := c.Xs ++ [x.1] }, x.2)
     else if w0 = wRoute then let x := rdRoute wr; (5, { c with Rts := c.Rts ++ [x.1] }, x.2)
     else if w0 = wTim then let x := rdNum wr; let y := rdNum x.2; let z := rdNum y.2; let u := rdNum z.2; (6, { c with Age := x.1, Brake := y.1, Hold := z.1, Budget := u.1 }, u.2)
     else (0, c, (wr.1, true))) = x → rdLine c (ws, bad) = x := by
   rintro x rfl
   unfold rdLine
   simp only [hw0, hwr]
 have fin : ∀ {x : Int × Cf × Ws} {s1 s2 : Store}, rdLine c (ws, bad) = x → Wx σ0 s1 wid x.2.2.1 x.2.2.2 → (∀ i, i ≠ wid → s1 i = s0 i) → CfIn σ0 F s2 cid x.2.1 → Ext σ0 s2 → (∀ i, F i → s2 i = s1 i) → LnPost σ0 F s wid cid (rdLine c (ws, bad)) (.a (iA x.1)) s2 := fun hx k1 k2 k3 k4 k5 => by
   rw [hx]
   exact ⟨rfl, k1.frame (k5 wid hFw) k4, k3, fun i hi hiw => by rw [k5 i hi, k2 i hiw, hsame i hiw]⟩
 have ho : ∀ i, i ≠ wid → s0 i = s0 i := fun _ _ => rfl
 refine bc (fun e => ?_) (fun n1 => bc (fun e => ?_) (fun n2 => bc (fun e => ?_) (fun n3 => bc (fun e => ?_) (fun n4 => bc (fun e => ?_) (fun n5 => bc (fun e => ?_) (fun n6 => ?_))))))
 · have hx := hline _ (if_pos (eq_of_beq e))
   intro R hR
   repeat' apply And.intro
   all_goals
     repeat (first
       | exact trivial
       | refine ⟨_, _, _, rfl, _, box_row ((ho _ hcw).trans h.ob.cell), _, rfl, ?_⟩
       | refine ⟨_, box_row ((ho _ hcw).trans h.ob.cell), _, rfl, ?_⟩
       | refine ⟨_, _, _, rfl, ?_⟩
       | (refine (num_at hw ho).mono ?_; rintro _ _ ⟨rfl, hw, ho⟩; refine ⟨_, rfl, ?_⟩))
   all_goals
     refine (h.away hFw hnw hw.live ho).addSec (z := ⟨_, _, _⟩) (by omega) fun d' s' k1 k2 => hR _ (fin hx hw ho ⟨_, _, _, _, _, _, k1⟩ k1.ext k2)
 · have hx := hline _ ((if_neg (ne_of_beq_false n1)).trans (if_pos (eq_of_beq e)))
   intro R hR
   repeat' apply And.intro
   all_goals
     repeat (first
       | exact trivial
       | refine ⟨_, _, _, rfl, _, box_row ((ho _ hcw).trans h.ob.cell), _, rfl, ?_⟩
       | refine ⟨_, box_row ((ho _ hcw).trans h.ob.cell), _, rfl, ?_⟩
       | refine ⟨_, _, _, rfl, ?_⟩
       | (refine (num_at hw ho).mono ?_; rintro _ _ ⟨rfl, hw, ho⟩; refine ⟨_, rfl, ?_⟩))
   all_goals
     refine (h.away hFw hnw hw.live ho).addJt (z := ⟨_, _, _, _⟩) (by omega) fun d' s' k1 k2 => hR _ (fin hx hw ho ⟨_, _, _, _, _, _, k1⟩ k1.ext k2)
 · have hx := hline _ ((if_neg (ne_of_beq_false n1)).trans ((if_neg (ne_of_beq_false n2)).trans (if_pos (eq_of_beq e))))
   intro R hR
   repeat' apply And.intro
   all_goals
     repeat (first
       | exact trivial
       | refine ⟨_, _, _, rfl, _, box_row ((ho _ hcw).trans h.ob.cell), _, rfl, ?_⟩
       | refine ⟨_, box_row ((ho _ hcw).trans h.ob.cell), _, rfl, ?_⟩
       | refine ⟨_, _, _, rfl, ?_⟩
       | (refine (num_at hw ho).mono ?_; rintro _ _ ⟨rfl, hw, ho⟩; refine ⟨_, rfl, ?_⟩))
   all_goals
     refine (h.away hFw hnw hw.live ho).addSg (z := ⟨_, _⟩) (by omega) fun d' s' k1 k2 => hR _ (fin hx hw ho ⟨_, _, _, _, _, _, k1⟩ k1.ext k2)
 · have hx := hline _ ((if_neg (ne_of_beq_false n1)).trans ((if_neg (ne_of_beq_false n2)).trans ((if_neg (ne_of_beq_false n3)).trans (if_pos (eq_of_beq e)))))
   intro R hR
   repeat' apply And.intro
   all_goals
     repeat (first
       | exact trivial
       | refine ⟨_, _, _, rfl, _, box_row ((ho _ hcw).trans h.ob.cell), _, rfl, ?_⟩
       | refine ⟨_, box_row ((ho _ hcw).trans h.ob.cell), _, rfl, ?_⟩
       | refine ⟨_, _, _, rfl, ?_⟩
       | (refine (num_at hw ho).mono ?_; rintro _ _ ⟨rfl, hw, ho⟩; refine ⟨_, rfl, ?_⟩))
   all_goals
     refine (h.away hFw hnw hw.live ho).addX (z := (rdNum wr).1) (by omega) fun d' s' k1 k2 => hR _ (fin hx hw ho ⟨_, _, _, _, _, _, k1⟩ k1.ext k2)
 · have hx := hline _ ((if_neg (ne_of_beq_false n1)).trans ((if_neg (ne_of_beq_false n2)).trans ((if_neg (ne_of_beq_false n3)).trans ((if_neg (ne_of_beq_false n4)).trans (if_pos (eq_of_beq e))))))
   intro R hR
   refine ⟨⟨trivial, _, _, _, rfl, _, box_row h.ob.cell, _, rfl, (route_ok hw (by omega)).mono ?_⟩, trivial, _, _, _, rfl, (route_ok hw (by omega)).mono ?_⟩
   · rintro _ s1 ⟨row, rfl, hr, hw, ho⟩
     have hr' := hr
     obtain ⟨e1, e2, e3, rfl, _⟩ := hr'
     exact ⟨_, _, _, _, _, _, rfl, (h.away hFw hnw hw.live ho).addRt hr (by omega) fun d' s' k1 k2 => hR _ (fin hx hw ho ⟨_, _, _, _, _, _, k1⟩ k1.ext k2)⟩
   · rintro _ s1 ⟨row, rfl, hr, hw, ho⟩
     have hr' := hr
     obtain ⟨e1, e2, e3, rfl, _⟩ := hr'
     exact ⟨_, _, _, _, _, _, rfl, _, box_row ((ho _ hcw).trans h.ob.cell), _, rfl, (h.away hFw hnw hw.live ho).addRt hr (by omega) fun d' s' k1 k2 => hR _ (fin hx hw ho ⟨_, _, _, _, _, _, k1⟩ k1.ext k2)⟩
 · have hx := hline _ ((if_neg (ne_of_beq_false n1)).trans ((if_neg (ne_of_beq_false n2)).trans ((if_neg (ne_of_beq_false n3)).trans ((if_neg (ne_of_beq_false n4)).trans ((if_neg (ne_of_beq_false n5)).trans (if_pos (eq_of_beq e)))))))
   repeat (refine (num_at hw ho).mono ?_; rintro _ _ ⟨rfl, hw, ho⟩; refine ⟨_, rfl, ?_⟩)
   refine ⟨trivial, _, _, _, rfl, (h.away hFw hnw hw.live ho).ob.put (by simp [cfRow]) fun s' k1 k2 => fin hx hw ho ⟨d0, d1, d2, d3, d4, rows, ⟨k1, h.rts⟩⟩ (k1.own ⟨t_Section, 0, d0, c.Secs.map Sec.enc⟩ (by simp [cfLs])).1.ext k2⟩
 · have hx := hline _ ((if_neg (ne_of_beq_false n1)).trans ((if_neg (ne_of_beq_false n2)).trans ((if_neg (ne_of_beq_false n3)).trans ((if_neg (ne_of_beq_false n4)).trans ((if_neg (ne_of_beq_false n5)).trans (if_neg (ne_of_beq_false n6)))))))
   rw [hx]
   obtain ⟨⟨hn', he', d', p', q'⟩, hz⟩ := hw
   refine ⟨trivial, _, _, _, rfl, pr_store p' (by simp) fun s6 hs6 ho6 => ⟨rfl, ⟨⟨hn', ext_away he' hn' ho6, d', by rw [hs6]; rfl, q'⟩, hz⟩, ⟨d0, d1, d2, d3, d4, rows, h.away hFw hnw (by rw [hs6]; intro e; cases e) ho6⟩, fun i hi hiw => (ho6 i hiw).trans (hsame i hiw)⟩⟩
end
end Go.Proofs.YtfdffboelecgoaaGreatDoor
end
section
set_option maxRecDepth 20000
namespace Go.Proofs.YtfdffboelecgoaaGreatDoor
open Go.Fw Go.Proofs
def splitL (c : UInt8) : List UInt8 → List (List UInt8)
 | [] => [[]]
 | x :: l => if x = c then [] :: splitL c l else (x :: (splitL c l).headD []) :: (splitL c l).tail
theorem splitK_eq (c : UInt8) : ∀ l : List UInt8, Lib.splitK [c] 0 (Lib.count l [c]) l = splitL c l
 | [] => by rw [Lib.count_miss (by simp [Lib.index])]; rfl
 | x :: l => by
   have ih := splitK_eq c l
   by_cases h : x = c
   · subst h
     rw [Lib.count_cons_eq, Nat.add_comm]
     have hix : Lib.index (x :: l) [x] = 0 := by rw [Lib.index]; simp [List.isPrefixOf]
     rw [Lib.splitK, hix, splitL, if_pos rfl, ← ih]
     simp
   · rw [Lib.count_cons_ne x c l h, splitL, if_neg h, ← ih]
     have hp : ([c] : List UInt8).isPrefixOf (x :: l) = false := by simp [List.isPrefixOf, Ne.symm h]
     have hix : Lib.index (x :: l) [c] = if Lib.index l [c] == -1 then -1 else Lib.index l [c] + 1 := by rw [Lib.index, hp]; simp
     by_cases hm : Lib.index l [c] = -1
     · rw [Lib.count_miss hm]; rfl
     · have hge := Lib.index_ge l [c]
       obtain ⟨j, hj⟩ : ∃ j : Nat, Lib.index l [c] = j := ⟨(Lib.index l [c]).toNat, by omega⟩
       rw [Lib.count_hit (by simp) hj, Nat.add_comm 1, Lib.splitK, Lib.splitK, hix, hj]
       have e1 : ((j : Int) == -1) = false := beq_eq_false_iff_ne.2 (by omega)
       have e2 : ((j : Int) + 1 == -1) = false := beq_eq_false_iff_ne.2 (by omega)
       have e3 : ((j : Int) + 1).toNat = j + 1 := by omega
       simp only [e1, e2, e3, Bool.false_eq_true, if_false, Int.toNat_natCast]
       simp
theorem pieces_list (c : UInt8) (s : ByteArray) : (pieces c s).map (·.data.toList) = splitL c s.data.toList := by
 unfold pieces; rw [Lib.splitB_data]; exact splitK_eq c s.data.toList
theorem splitL_one {c : UInt8} : ∀ {l : List UInt8}, c ∉ l → splitL c l = [l]
 | [], _ => rfl
 | x :: l, h => by
   rw [splitL, if_neg (fun e => h (by simp [e])), splitL_one (fun e => h (by simp [e]))]; rfl
theorem splitL_app {c : UInt8} {r : List UInt8} : ∀ {l : List UInt8}, c ∉ l → splitL c (l ++ c :: r) = l :: splitL c r
 | [], _ => by rw [List.nil_append, splitL, if_pos rfl]
 | x :: l, h => by
   rw [List.cons_append, splitL, if_neg (fun e => h (by simp [e])), splitL_app (fun e => h (by simp [e]))]; rfl
def joinL (c : UInt8) : List (List UInt8) → List UInt8
 | [] => []
 | [l] => l
 | l :: r => l ++ c :: joinL c r
theorem splitL_ne (c : UInt8) (l : List UInt8) : splitL c l ≠ [] := by
 cases l with
 | nil => simp [splitL]
 | cons x l => rw [splitL]; split <;> simp
theorem joinL_cons {c : UInt8} {l : List UInt8} {r : List (List UInt8)} (h : r ≠ []) : joinL c (l :: r) = l ++ c :: joinL c r := by
 cases r with
 | nil => exact absurd rfl h
 | cons _ _ => rfl
def spaced (ws : List (List UInt8)) : List UInt8 := (ws.map (32 :: ·)).flatten
theorem spaced_cons (w : List UInt8) (ws : List (List UInt8)) : spaced (w :: ws) = 32 :: (w ++ spaced ws) := rfl
theorem spaced_app (a b : List (List UInt8)) : spaced (a ++ b) = spaced a ++ spaced b := by unfold spaced; rw [List.map_append, List.flatten_append]
theorem splitL_spaced : ∀ {ws : List (List UInt8)} {w : List UInt8}, 32 ∉ w → (∀ x ∈ ws, 32 ∉ x) → splitL 32 (w ++ spaced ws) = w :: ws
 | [], w, h, _ => by show splitL 32 (w ++ []) = _; rw [List.append_nil]; exact splitL_one h
 | x :: ws, w, h, hx => by rw [spaced_cons, splitL_app h, splitL_spaced (hx x (by simp)) fun y hy => hx y (by simp [hy])]
theorem dec_bytes (u : Nat) : ∀ c ∈ Lib.decDigits u, 48 ≤ c.toNat ∧ c.toNat ≤ 57 := by
 induction u using Nat.strongRecOn with
 | ind u ih =>
   intro c hc
   have one : ∀ d, d < 10 → c = UInt8.ofNat (48 + d) → 48 ≤ c.toNat ∧ c.toNat ≤ 57 := by
     intro d hd e
     subst e
     rw [UInt8.toNat_ofNat']
     omega
   rw [Lib.decDigits] at hc
   split at hc
   · rename_i h
     exact one u h (by simpa using hc)
   · rcases List.mem_append.1 hc with h | h
     · exact ih (u / 10) (by omega) c h
     · exact one (u % 10) (by omega) (by simpa using h)
theorem itoa_bytes {n : Int} {c : UInt8} (h : c ∈ Lib.itoa n) : c = 45 ∨ 48 ≤ c.toNat ∧ c.toNat ≤ 57 := by
 unfold Lib.itoa at h
 split at h
 · rcases List.mem_cons.1 h with h | h
   · exact .inl h
   · exact .inr (dec_bytes _ c h)
 · exact .inr (dec_bytes _ c h)
theorem itoa_no32 (n : Int) : (32 : UInt8) ∉ Lib.itoa n := fun h => by rcases itoa_bytes h with h | ⟨h, _⟩ <;> revert h <;> decide
theorem itoa_no10 (n : Int) : (10 : UInt8) ∉ Lib.itoa n := fun h => by rcases itoa_bytes h with h | ⟨h, _⟩ <;> revert h <;> decide
theorem parse_dec (u : Nat) : ∀ r, u < 18446744073709551616 → Lib.parseUint10 0 (Lib.decDigits u ++ r) = Lib.parseUint10 u r := by
 induction u using Nat.strongRecOn with
 | ind u ih =>
   intro r hu
   have one : ∀ acc d, d < 10 → acc < 1844674407370955162 → acc * 10 + d < 18446744073709551616 → Lib.parseUint10 acc (UInt8.ofNat (48 + d) :: r) = Lib.parseUint10 (acc * 10 + d) r := by
     intro acc d hd h1 h2
     have e : (UInt8.ofNat (48 + d)).toNat = 48 + d := by rw [UInt8.toNat_ofNat']; omega
     rw [Lib.parseUint10, e, if_pos (by omega), if_neg (by omega), if_neg (by omega)]
     congr 1; omega
   rw [Lib.decDigits]
   split
   · rename_i h
     show Lib.parseUint10 0 (UInt8.ofNat (48 + u) :: r) = _
     rw [one 0 u h (by omega) (by omega)]; congr 1; omega
   · rw [List.append_assoc, ih (u / 10) (by omega) _ (by omega)]
     show Lib.parseUint10 (u / 10) (UInt8.ofNat (48 + u % 10) :: r) = _
     rw [one (u / 10) (u % 10) (by omega) (by omega) (by omega)]
     congr 1; omega
theorem dec_ne (u : Nat) : Lib.decDigits u ≠ [] := by rw [Lib.decDigits]; split <;> simp
theorem atoi_itoa {n : Int} (h : i64 n) : atoiR (Lib.itoa n) = (n, false) := by
 obtain ⟨h1, h2⟩ := h
 unfold atoiR
 have key : Lib.atoiAll (Lib.itoa n) = .ok n := by
   have mag : ∀ u, u < 18446744073709551616 → Lib.parseMag (Lib.decDigits u) = .ok u := fun u hu => by
     unfold Lib.parseMag
     rw [if_neg (dec_ne u)]
     have := parse_dec u [] hu
     rwa [List.append_nil] at this
   unfold Lib.itoa
   split
   · rename_i hn
     unfold Lib.atoiAll
     simp only
     rw [if_pos (Or.inr (by decide)), mag _ (by omega)]
     simp only
     have e : (45 : UInt8).toNat = 45 := by decide
     rw [if_neg (by omega), if_neg (by omega), if_pos e]
     congr 1; omega
   · rename_i hn
     cases hd : Lib.decDigits n.toNat with
     | nil => exact absurd hd (dec_ne _)
     | cons c r =>
       have hc := dec_bytes n.toNat c (by rw [hd]; simp)
       unfold Lib.atoiAll
       simp only
       rw [if_neg (by omega), ← hd, mag _ (by omega)]
       simp only
       rw [if_neg (by omega), if_neg (by omega), if_neg (by omega)]
       congr 1; omega
 rw [key]
theorem numOk_itoa {n : Int} (h : i64 n) : numOk (baOf (Lib.itoa n)) = true := by
 show (!(atoiR (Lib.itoa n)).2 && (Lib.itoa (atoiR (Lib.itoa n)).1 == Lib.itoa n)) = true
 rw [atoi_itoa h]; simp
end Go.Proofs.YtfdffboelecgoaaGreatDoor
end
section
set_option maxRecDepth 20000
namespace Go.Proofs.YtfdffboelecgoaaGreatDoor
open Go.Fw Go.Proofs
theorem baOf_list (s : ByteArray) : baOf s.data.toList = s := by
 obtain ⟨⟨l⟩⟩ := s; rfl
theorem pieces_eq (c : UInt8) (s : ByteArray) : pieces c s = (splitL c s.data.toList).map baOf := by
 rw [← pieces_list, List.map_map]
 have e : (baOf ∘ fun x : ByteArray => x.data.toList) = id := funext baOf_list
 rw [e, List.map_id]
theorem pieces_ba (c : UInt8) (l : List UInt8) : pieces c (baOf l) = (splitL c l).map baOf := pieces_eq c (baOf l)
def nums (l : List Int) : List ByteArray := l.map fun n => baOf (Lib.itoa n)
theorem rdNum_itoa {n : Int} (h : i64 n) (ws : List ByteArray) (b : Bool) : rdNum (baOf (Lib.itoa n) :: ws, b) = (n, (ws, b)) := by
 have h1 : (atoiR (baOf (Lib.itoa n)).data.toList).1 = n := by show (atoiR (Lib.itoa n)).1 = n; rw [atoi_itoa h]
 unfold rdNum
 simp only [List.headD_cons, List.tail_cons, List.isEmpty_cons, Bool.or_false]
 rw [h1, numOk_itoa h]; simp
theorem num1 {n : Int} (h : i64 n) (l : List Int) (ws : List ByteArray) (b : Bool) : rdNum (nums (n :: l) ++ ws, b) = (n, (nums l ++ ws, b)) := rdNum_itoa h _ b
theorem nums_nil (ws : List ByteArray) : nums [] ++ ws = ws := rfl
theorem sayL_spaced (w : List UInt8) (ns : List Int) : sayL w ns = w ++ spaced (ns.map Lib.itoa) := by
 unfold sayL spaced; rw [List.map_map]; rfl
theorem itoas_no32 (ns : List Int) : ∀ x ∈ ns.map Lib.itoa, (32 : UInt8) ∉ x := fun x hx => by
 obtain ⟨n, _, rfl⟩ := List.mem_map.1 hx; exact itoa_no32 n
theorem say_pieces {w : List UInt8} (hw : 32 ∉ w) (ns : List Int) : pieces 32 (baOf (sayL w ns)) = baOf w :: (nums ns ++ []) := by
 rw [pieces_ba, sayL_spaced, splitL_spaced hw (itoas_no32 ns), List.map_cons, List.map_map, List.append_nil]; rfl
theorem line_sec (c : Cf) {s : Sec} (h : i64 s.Kind ∧ i64 s.OC ∧ i64 s.Line) : rdLine c (pieces 32 (baOf (sayL wSec [s.Kind, s.OC, s.Line])), false) = (1, { c with Secs := c.Secs ++ [s] }, ([], false)) := by
 rw [say_pieces (by decide)]
 unfold rdLine
 simp only [rdNext, List.headD_cons, List.tail_cons, List.isEmpty_cons, Bool.or_false]
 rw [if_pos (show (baOf wSec).data.toList = wSec from rfl), num1 h.1, num1 h.2.1, num1 h.2.2]; rfl
theorem line_jt (c : Cf) {s : Jt} (h : i64 s.A ∧ i64 s.AEnd ∧ i64 s.B ∧ i64 s.BEnd) : rdLine c (pieces 32 (baOf (sayL wJt [s.A, s.AEnd, s.B, s.BEnd])), false) = (2, { c with Jts := c.Jts ++ [s] }, ([], false)) := by
 rw [say_pieces (by decide)]
 unfold rdLine
 simp only [rdNext, List.headD_cons, List.tail_cons, List.isEmpty_cons, Bool.or_false]
 rw [if_neg (show ¬ (baOf wJt).data.toList = wSec from (by decide : ¬ wJt = wSec)), if_pos (show (baOf wJt).data.toList = wJt from rfl), num1 h.1, num1 h.2.1, num1 h.2.2.1, num1 h.2.2.2]; rfl
theorem line_sg (c : Cf) {s : Sg} (h : i64 s.Sec ∧ i64 s.End_) : rdLine c (pieces 32 (baOf (sayL wSg [s.Sec, s.End_])), false) = (3, { c with Sigs := c.Sigs ++ [s] }, ([], false)) := by
 rw [say_pieces (by decide)]
 unfold rdLine
 simp only [rdNext, List.headD_cons, List.tail_cons, List.isEmpty_cons, Bool.or_false]
 rw [if_neg (show ¬ (baOf wSg).data.toList = wSec from (by decide : ¬ wSg = wSec)), if_neg (show ¬ (baOf wSg).data.toList = wJt from (by decide : ¬ wSg = wJt)), if_pos (show (baOf wSg).data.toList = wSg from rfl), num1 h.1, num1 h.2]; rfl
theorem line_x (c : Cf) {s : Int} (h : i64 s) : rdLine c (pieces 32 (baOf (sayL wX [s])), false) = (4, { c with Xs := c.Xs ++ [s] }, ([], false)) := by
 rw [say_pieces (by decide)]
 unfold rdLine
 simp only [rdNext, List.headD_cons, List.tail_cons, List.isEmpty_cons, Bool.or_false]
 rw [if_neg (show ¬ (baOf wX).data.toList = wSec from (by decide : ¬ wX = wSec)), if_neg (show ¬ (baOf wX).data.toList = wJt from (by decide : ¬ wX = wJt)), if_neg (show ¬ (baOf wX).data.toList = wSg from (by decide : ¬ wX = wSg)), if_pos (show (baOf wX).data.toList = wX from rfl), num1 h]; rfl
theorem line_tim (c : Cf) {d : Cf} (h : i64 d.Age ∧ i64 d.Brake ∧ i64 d.Hold ∧ i64 d.Budget) : rdLine c (pieces 32 (baOf (sayL wTim [d.Age, d.Brake, d.Hold, d.Budget])), false) = (6, { c with Age := d.Age, Brake := d.Brake, Hold := d.Hold, Budget := d.Budget }, ([], false)) := by
 rw [say_pieces (by decide)]
 unfold rdLine
 simp only [rdNext, List.headD_cons, List.tail_cons, List.isEmpty_cons, Bool.or_false]
 rw [if_neg (show ¬ (baOf wTim).data.toList = wSec from (by decide : ¬ wTim = wSec)), if_neg (show ¬ (baOf wTim).data.toList = wJt from (by decide : ¬ wTim = wJt)), if_neg (show ¬ (baOf wTim).data.toList = wSg from (by decide : ¬ wTim = wSg)), if_neg (show ¬ (baOf wTim).data.toList = wX from (by decide : ¬ wTim = wX)), if_neg (show ¬ (baOf wTim).data.toList = wRoute from (by decide : ¬ wTim = wRoute)), if_pos (show (baOf wTim).data.toList = wTim from rfl), num1 h.1, num1 h.2.1, num1 h.2.2.1, num1 h.2.2.2]; rfl
theorem rdLoop_run {α β : Type} {word : List UInt8} {step : α → Ws → α × Ws} {enc : β → List ByteArray} {f : α → β → α} {tl : List ByteArray}
   (ht : rdMore word (tl, false) = false) : ∀ (bs : List β) (n : Nat) (x : α), bs.length ≤ n → (∀ b ∈ bs, ∀ x ws, step x (enc b ++ ws, false) = (f x b, (ws, false)) ∧ rdMore word (enc b ++ ws, false) = true) →
     rdLoop word step n x ((bs.map enc).flatten ++ tl, false) = (bs.foldl f x, (tl, false))
 | [], 0, x, _, _ => rfl
 | [], n + 1, x, _, _ => by
   show (if rdMore word (tl, false) then _ else (x, (tl, false))) = _
   rw [ht]; rfl
 | b :: bs, 0, x, h, _ => by simp at h
 | b :: bs, n + 1, x, h, hs => by
   obtain ⟨h1, h2⟩ := hs b (by simp) x ((bs.map enc).flatten ++ tl)
   rw [List.map_cons, List.flatten_cons, List.append_assoc, rdLoop, if_pos h2, h1]
   exact rdLoop_run ht bs n (f x b) (by simpa using h) fun b hb => hs b (by simp [hb])
theorem rdEach_run {α β : Type} {word : List UInt8} {step : α → Ws → α × Ws} {enc : β → List ByteArray} {f : α → β → α} {tl : List ByteArray} (hw : word.isEmpty = false) (bs : List β) (x : α)
   (hl : ∀ b ∈ bs, 1 ≤ (enc b).length) (hs : ∀ b ∈ bs, ∀ x ws, step x (enc b ++ ws, false) = (f x b, (ws, false)) ∧ rdMore word (enc b ++ ws, false) = true) :
   rdEach word step x ((bs.map enc).flatten ++ baOf word :: tl, false) = (bs.foldl f x, (tl, false)) := by
 have hlen : bs.length ≤ ((bs.map enc).flatten ++ baOf word :: tl).length := by
   rw [List.length_append]
   have : ∀ l : List β, (∀ b ∈ l, 1 ≤ (enc b).length) → l.length ≤ (l.map enc).flatten.length := by
     intro l
     induction l with
     | nil => intro _; simp
     | cons b l ih => intro h; have h1 := h b (by simp); have h2 := ih fun b hb => h b (by simp [hb]); simp only [List.map_cons, List.flatten_cons, List.length_append, List.length_cons]; omega
   have := this bs hl
   omega
 have hm : rdMore word (baOf word :: tl, false) = false := by
   unfold rdMore
   simp [hw]
   rfl
 unfold rdEach
 rw [rdLoop_run hm bs _ x hlen hs, hw]
 simp [rdNext]
 rfl
theorem rdEach_end {α β : Type} {step : α → Ws → α × Ws} {enc : β → List ByteArray} {f : α → β → α} (bs : List β) (x : α)
   (hl : ∀ b ∈ bs, 1 ≤ (enc b).length) (hs : ∀ b ∈ bs, ∀ x ws, step x (enc b ++ ws, false) = (f x b, (ws, false)) ∧ rdMore [] (enc b ++ ws, false) = true) :
   rdEach [] step x ((bs.map enc).flatten, false) = (bs.foldl f x, ([], false)) := by
 have hlen : bs.length ≤ ((bs.map enc).flatten).length := by
   have : ∀ l : List β, (∀ b ∈ l, 1 ≤ (enc b).length) → l.length ≤ (l.map enc).flatten.length := by
     intro l
     induction l with
     | nil => intro _; simp
     | cons b l ih => intro h; have h1 := h b (by simp); have h2 := ih fun b hb => h b (by simp [hb]); simp only [List.map_cons, List.flatten_cons, List.length_append, List.length_cons]; omega
   exact this bs hl
 have := rdLoop_run (word := []) (tl := []) rfl bs _ x hlen hs
 rw [List.append_nil] at this
 unfold rdEach
 simp only [List.isEmpty_nil, if_true]
 exact this
theorem itoa_ne {n : Int} {w : List UInt8} (hw : w.head?.all (fun c => c != 45 && decide (57 < c.toNat)) = true) (h : w ≠ []) : Lib.itoa n ≠ w := fun e => by
 cases w with
 | nil => exact h rfl
 | cons c r =>
   have hc := itoa_bytes (n := n) (c := c) (by rw [e]; simp)
   simp only [List.head?_cons, Option.all_some, Bool.and_eq_true, bne_iff_ne, decide_eq_true_eq] at hw
   rcases hc with hc | hc
   · exact hw.1 hc
   · omega
theorem more_num {n : Int} {word : List UInt8} (hw : word = [] ∨ Lib.itoa n ≠ word) (l : List Int) (ws : List ByteArray) : rdMore word (nums (n :: l) ++ ws, false) = true := by
 unfold rdMore nums
 rcases hw with rfl | h
 · simp
 · simp only [List.map_cons, List.cons_append, List.isEmpty_cons, List.headD_cons, Bool.not_false, Bool.true_and]
   have : ((baOf (Lib.itoa n)).data.toList == word) = false := by
     show (Lib.itoa n == word) = false
     exact beq_eq_false_iff_ne.2 h
   rw [this]; simp
def itoas (l : List Int) : List (List UInt8) := l.map Lib.itoa
def rtW (x : Rt) : List (List UInt8) := itoas [x.Entry, x.Exit, if x.Shunt then 1 else 0] ++ wPath.drop 1 :: ((x.Path.map fun s => [s.Sec, s.In, s.Out].map Lib.itoa).flatten ++ wFlank.drop 1 :: ((x.Flank.map fun s => [s.Sec, s.Pos].map Lib.itoa).flatten ++ wOver.drop 1 :: x.Overlap.map Lib.itoa))
theorem cat_spaced {α : Type} (f : α → List Int) (l : List α) : cat (fun s => sayL [] (f s)) l = spaced (l.map fun s => (f s).map Lib.itoa).flatten := by
 induction l with
 | nil => rfl
 | cons a l ih =>
   have e : cat (fun s => sayL [] (f s)) (a :: l) = sayL [] (f a) ++ cat (fun s => sayL [] (f s)) l := rfl
   rw [e, ih, sayL_spaced, List.map_cons, List.flatten_cons, spaced_app, List.nil_append]
theorem rtL_spaced (x : Rt) : rtL x = wRoute ++ spaced (rtW x) ++ [10] := by
 have e1 : cat stL x.Path = spaced (x.Path.map fun s => [s.Sec, s.In, s.Out].map Lib.itoa).flatten := cat_spaced _ _
 have e2 : cat ndL x.Flank = spaced (x.Flank.map fun s => [s.Sec, s.Pos].map Lib.itoa).flatten := cat_spaced _ _
 unfold rtL rtW lineL
 rw [e1, e2, sayL_spaced, sayL_spaced, spaced_app, spaced_cons, spaced_app, spaced_cons, spaced_app, spaced_cons]
 have e0 : [x.Entry, x.Exit, if x.Shunt then 1 else 0].map Lib.itoa = itoas [x.Entry, x.Exit, if x.Shunt then 1 else 0] := rfl
 rw [e0]
 have f1 : ∀ l, wPath ++ l = 32 :: (wPath.drop 1 ++ l) := fun _ => rfl
 have f2 : ∀ l, wFlank ++ l = 32 :: (wFlank.drop 1 ++ l) := fun _ => rfl
 have f3 : ∀ l, wOver ++ l = 32 :: (wOver.drop 1 ++ l) := fun _ => rfl
 simp only [List.append_assoc, f1, f2, f3, List.map_cons, List.map_nil, List.cons_append]
theorem rtW_no32 (x : Rt) : ∀ w ∈ rtW x, (32 : UInt8) ∉ w := by
 intro w hw
 have it : ∀ {l : List Int}, w ∈ l.map Lib.itoa → (32 : UInt8) ∉ w := fun h => itoas_no32 _ _ h
 unfold rtW at hw
 rcases List.mem_append.1 hw with h | h
 · exact it (l := [x.Entry, x.Exit, if x.Shunt then 1 else 0]) h
 rcases List.mem_cons.1 h with h | h
 · rw [h]; decide
 rcases List.mem_append.1 h with h | h
 · obtain ⟨l, hl, h⟩ := List.mem_flatten.1 h
   obtain ⟨s, _, rfl⟩ := List.mem_map.1 hl
   exact it h
 rcases List.mem_cons.1 h with h | h
 · rw [h]; decide
 rcases List.mem_append.1 h with h | h
 · obtain ⟨l, hl, h⟩ := List.mem_flatten.1 h
   obtain ⟨s, _, rfl⟩ := List.mem_map.1 hl
   exact it h
 rcases List.mem_cons.1 h with h | h
 · rw [h]; decide
 · exact it h
theorem map_flat {α : Type} (f : α → List Int) (l : List α) : ((l.map fun s => (f s).map Lib.itoa).flatten).map baOf = (l.map fun s => nums (f s)).flatten := by
 rw [List.map_flatten, List.map_map]
 congr 1
 apply List.map_congr_left
 intro s _
 show ((f s).map Lib.itoa).map baOf = nums (f s)
 rw [List.map_map]; rfl
theorem fold_path (bs : List St) (x : Rt) : bs.foldl (fun x s => { x with Path := x.Path ++ [s] }) x = { x with Path := x.Path ++ bs } := by
 induction bs generalizing x with
 | nil => simp
 | cons b bs ih => rw [List.foldl_cons, ih]; simp
theorem fold_flank (bs : List Nd) (x : Rt) : bs.foldl (fun x s => { x with Flank := x.Flank ++ [s] }) x = { x with Flank := x.Flank ++ bs } := by
 induction bs generalizing x with
 | nil => simp
 | cons b bs ih => rw [List.foldl_cons, ih]; simp
theorem fold_over (bs : List Int) (x : Rt) : bs.foldl (fun x s => { x with Overlap := x.Overlap ++ [s] }) x = { x with Overlap := x.Overlap ++ bs } := by
 induction bs generalizing x with
 | nil => simp
 | cons b bs ih => rw [List.foldl_cons, ih]; simp
theorem rdRoute_run {x : Rt} (h : rt64 x) : rdRoute ((rtW x).map baOf, false) = (x, ([], false)) := by
 obtain ⟨h1, h2, h3, h4, h5⟩ := h
 have hsh : i64 (if x.Shunt then 1 else 0) := by split <;> exact ⟨by decide, by decide⟩
 have e : (rtW x).map baOf = nums [x.Entry, x.Exit, if x.Shunt then 1 else 0] ++ baOf (wPath.drop 1) :: ((x.Path.map fun s => nums [s.Sec, s.In, s.Out]).flatten ++ baOf (wFlank.drop 1) :: ((x.Flank.map fun s => nums [s.Sec, s.Pos]).flatten ++ baOf (wOver.drop 1) :: (x.Overlap.map fun s => nums [s]).flatten)) := by
   have e1 := map_flat (fun s : St => [s.Sec, s.In, s.Out]) x.Path
   have e2 := map_flat (fun s : Nd => [s.Sec, s.Pos]) x.Flank
   have e3 : (x.Overlap.map Lib.itoa).map baOf = (x.Overlap.map fun s => nums [s]).flatten := by
     rw [List.map_map]
     generalize x.Overlap = l
     induction l with
     | nil => rfl
     | cons a l ih => rw [List.map_cons, ih]; rfl
   have e4 : (itoas [x.Entry, x.Exit, if x.Shunt then 1 else 0]).map baOf = nums [x.Entry, x.Exit, if x.Shunt then 1 else 0] := rfl
   unfold rtW
   rw [List.map_append, List.map_cons, List.map_append, List.map_cons, List.map_append, List.map_cons, e1, e2, e3, e4]
 rw [e]
 unfold rdRoute
 have n32 : ∀ n : Int, Lib.itoa n ≠ wFlank.drop 1 := fun n => itoa_ne (by decide) (by decide)
 have n33 : ∀ n : Int, Lib.itoa n ≠ wOver.drop 1 := fun n => itoa_ne (by decide) (by decide)
 simp only [num1 h1, num1 h2, num1 hsh, nums_nil]
 have hb : (false || !(decide (0 ≤ (if x.Shunt then (1 : Int) else 0)) && decide ((if x.Shunt then (1 : Int) else 0) ≤ 1))) = false := by cases x.Shunt <;> rfl
 rw [hb]
 simp only [rdNext, List.headD_cons, List.tail_cons, Bool.false_eq_true, if_false]
 have hp : (!((baOf (wPath.drop 1)).data.toList == [112, 97, 116, 104])) = false := by decide
 rw [hp, rdEach_run (f := fun (x : Rt) s => { x with Path := x.Path ++ [s] }) rfl x.Path _ (fun b hb => by simp [nums]) (fun b hb y ws => ?_), fold_path]
 · simp only
   rw [rdEach_run (f := fun (x : Rt) s => { x with Flank := x.Flank ++ [s] }) rfl x.Flank _ (fun b hb => by simp [nums]) (fun b hb y ws => ?_), fold_flank]
   · simp only
     rw [rdEach_end (f := fun (x : Rt) s => { x with Overlap := x.Overlap ++ [s] }) x.Overlap _ (fun b hb => by simp [nums]) (fun b hb y ws => ?_), fold_over]
     · have : ((if x.Shunt then (1 : Int) else 0) == 1) = x.Shunt := by cases x.Shunt <;> rfl
       rw [this]; rfl
     · exact ⟨by unfold rdOver; rw [num1 (h5 b hb)]; rfl, more_num (.inl rfl) _ _⟩
   · obtain ⟨g1, g2⟩ := h4 b hb
     exact ⟨by unfold rdNeed; simp only [num1 g1, num1 g2]; rfl, more_num (.inr (n33 _)) _ _⟩
 · obtain ⟨g1, g2, g3⟩ := h3 b hb
   exact ⟨by unfold rdStep; simp only [num1 g1, num1 g2, num1 g3]; rfl, more_num (.inr (n32 _)) _ _⟩
def rtT (x : Rt) : List UInt8 := wRoute ++ spaced (rtW x)
theorem line_rt (c : Cf) {x : Rt} (h : rt64 x) : rdLine c (pieces 32 (baOf (rtT x)), false) = (5, { c with Rts := c.Rts ++ [x] }, ([], false)) := by
 unfold rtT
 rw [pieces_ba, splitL_spaced (by decide) (rtW_no32 x), List.map_cons]
 unfold rdLine
 simp only [rdNext, List.headD_cons, List.tail_cons, List.isEmpty_cons, Bool.or_false]
 rw [if_neg (show ¬ (baOf wRoute).data.toList = wSec from (by decide : ¬ wRoute = wSec)), if_neg (show ¬ (baOf wRoute).data.toList = wJt from (by decide : ¬ wRoute = wJt)), if_neg (show ¬ (baOf wRoute).data.toList = wSg from (by decide : ¬ wRoute = wSg)), if_neg (show ¬ (baOf wRoute).data.toList = wX from (by decide : ¬ wRoute = wX)), if_pos (show (baOf wRoute).data.toList = wRoute from rfl), rdRoute_run h]
end Go.Proofs.YtfdffboelecgoaaGreatDoor
end
section
set_option maxRecDepth 20000
namespace Go.Proofs.YtfdffboelecgoaaGreatDoor
open Go.Fw Go.Proofs
def secT (s : Sec) : List UInt8 := sayL wSec [s.Kind, s.OC, s.Line]
def jtT (s : Jt) : List UInt8 := sayL wJt [s.A, s.AEnd, s.B, s.BEnd]
def sgT (s : Sg) : List UInt8 := sayL wSg [s.Sec, s.End_]
def xT (s : Int) : List UInt8 := sayL wX [s]
def timT (c : Cf) : List UInt8 := sayL wTim [c.Age, c.Brake, c.Hold, c.Budget]
def bodyLs (c : Cf) : List (List UInt8) := c.Secs.map secT ++ c.Jts.map jtT ++ c.Sigs.map sgT ++ c.Xs.map xT ++ c.Rts.map rtT
theorem cat_lines {α : Type} (f : α → List UInt8) (l : List α) : cat (fun s => f s ++ [10]) l = ((l.map f).map (· ++ [10])).flatten := by
 unfold cat; rw [List.map_map]; rfl
theorem joinL_end (l : List (List UInt8)) (t : List UInt8) : joinL 10 (l ++ [t]) = (l.map (· ++ [10])).flatten ++ t := by
 induction l with
 | nil => rfl
 | cons a l ih => rw [List.cons_append, joinL_cons (by simp), ih]; simp
theorem cfTxt_lines (c : Cf) : cfTxt c = joinL 10 (bodyLs c ++ [timT c]) ++ [10] := by
 rw [joinL_end]
 have e5 : cat rtL c.Rts = ((c.Rts.map rtT).map (· ++ [10])).flatten := by
   rw [← cat_lines]
   have : rtL = fun s => rtT s ++ [10] := funext fun x => rtL_spaced x
   rw [this]
 unfold cfTxt bodyLs
 rw [e5, show cat secL c.Secs = _ from cat_lines secT c.Secs, show cat jtL c.Jts = _ from cat_lines jtT c.Jts, show cat sgL c.Sigs = _ from cat_lines sgT c.Sigs, show cat xL c.Xs = _ from cat_lines xT c.Xs]
 simp only [List.map_append, List.flatten_append, List.append_assoc]
 rfl
theorem say_no10 {w : List UInt8} (hw : (10 : UInt8) ∉ w) (ws : List (List UInt8)) (h : ∀ x ∈ ws, (10 : UInt8) ∉ x) : (10 : UInt8) ∉ w ++ spaced ws := by
 intro hm
 rcases List.mem_append.1 hm with hm | hm
 · exact hw hm
 · obtain ⟨l, hl, hm⟩ := List.mem_flatten.1 hm
   obtain ⟨x, hx, rfl⟩ := List.mem_map.1 hl
   rcases List.mem_cons.1 hm with e | hm
   · revert e; decide
   · exact h x hx hm
theorem itoas_no10 (ns : List Int) : ∀ x ∈ ns.map Lib.itoa, (10 : UInt8) ∉ x := fun x hx => by
 obtain ⟨n, _, rfl⟩ := List.mem_map.1 hx; exact itoa_no10 n
theorem sayT_no10 {w : List UInt8} (hw : (10 : UInt8) ∉ w) (ns : List Int) : (10 : UInt8) ∉ sayL w ns := by
 rw [sayL_spaced]; exact say_no10 hw _ (itoas_no10 ns)
theorem rtW_no10 (x : Rt) : ∀ w ∈ rtW x, (10 : UInt8) ∉ w := by
 intro w hw
 have it : ∀ {l : List Int}, w ∈ l.map Lib.itoa → (10 : UInt8) ∉ w := fun h => itoas_no10 _ _ h
 unfold rtW at hw
 rcases List.mem_append.1 hw with h | h
 · exact it (l := [x.Entry, x.Exit, if x.Shunt then 1 else 0]) h
 rcases List.mem_cons.1 h with h | h
 · rw [h]; decide
 rcases List.mem_append.1 h with h | h
 · obtain ⟨l, hl, h⟩ := List.mem_flatten.1 h
   obtain ⟨s, _, rfl⟩ := List.mem_map.1 hl
   exact it h
 rcases List.mem_cons.1 h with h | h
 · rw [h]; decide
 rcases List.mem_append.1 h with h | h
 · obtain ⟨l, hl, h⟩ := List.mem_flatten.1 h
   obtain ⟨s, _, rfl⟩ := List.mem_map.1 hl
   exact it h
 rcases List.mem_cons.1 h with h | h
 · rw [h]; decide
 · exact it h
theorem lines_no10 (c : Cf) : ∀ l ∈ bodyLs c ++ [timT c], (10 : UInt8) ∉ l := by
 intro l hl
 unfold bodyLs at hl
 simp only [List.mem_append, List.mem_map, List.mem_singleton] at hl
 rcases hl with ((((⟨x, _, rfl⟩ | ⟨x, _, rfl⟩) | ⟨x, _, rfl⟩) | ⟨x, _, rfl⟩) | ⟨x, _, rfl⟩) | rfl
 · exact sayT_no10 (by decide) _
 · exact sayT_no10 (by decide) _
 · exact sayT_no10 (by decide) _
 · exact sayT_no10 (by decide) _
 · exact say_no10 (by decide) _ (rtW_no10 x)
 · exact sayT_no10 (by decide) _
theorem splitL_join : ∀ {ls : List (List UInt8)}, ls ≠ [] → (∀ l ∈ ls, (10 : UInt8) ∉ l) → splitL 10 (joinL 10 ls) = ls
 | [], h, _ => absurd rfl h
 | [l], _, h => splitL_one (h l (by simp))
 | l :: m :: r, _, h => by
   rw [joinL_cons (by simp), splitL_app (h l (by simp)), splitL_join (by simp) fun x hx => h x (by simp [hx])]
theorem ends_app (l : List UInt8) (c : UInt8) : ends c (baOf (l ++ [c])) = true := by
 have hs : (baOf (l ++ [c])).size = l.length + 1 := by rw [baOf_size, List.length_append]; rfl
 unfold ends
 rw [Lib.toList_data, Lib.toList_data, Lib.extract_data, hs]
 simp [baOf]
theorem cutEnd_app (l : List UInt8) (c : UInt8) : cutEnd c (baOf (l ++ [c])) = baOf l := by
 have hs : (baOf (l ++ [c])).size = l.length + 1 := by rw [baOf_size, List.length_append]; rfl
 unfold cutEnd
 rw [ends_app, if_pos rfl, hs]
 rw [← baOf_list ((baOf (l ++ [c])).extract 0 (l.length + 1 - 1)), Lib.extract_data]
 congr 1
 simp [baOf]
theorem rdLines_run {β : Type} {txt : β → List UInt8} {k : Int} {add : Cf → β → Cf} (hk : k ≠ 6) (rest : List ByteArray) : ∀ (bs : List β), (∀ b ∈ bs, ∀ c, rdLine c (pieces 32 (baOf (txt b)), false) = (k, add c b, ([], false))) →
   ∀ (c : Cf) (last : Int), last ≤ k → ∃ last', last' ≤ k ∧ rdLines ((bs.map txt).map baOf ++ rest) c last = rdLines rest (bs.foldl add c) last'
 | [], _, c, last, hl => ⟨last, hl, rfl⟩
 | b :: bs, hb, c, last, hl => by
   obtain ⟨last', h1, h2⟩ := rdLines_run hk rest bs (fun x hx => hb x (by simp [hx])) (add c b) k (Int.le_refl _)
   refine ⟨last', h1, ?_⟩
   rw [List.foldl_cons, ← h2, List.map_cons, List.map_cons, List.cons_append, rdLines, hb b (by simp) c]
   have e1 : decide (k < last) = false := decide_eq_false (by omega)
   have e2 : (k == 6) = false := beq_eq_false_iff_ne.2 hk
   simp only [e1, e2, List.isEmpty_nil, Bool.not_true, Bool.and_false, Bool.or_false, Bool.false_eq_true, if_false]
theorem fold_secs (bs : List Sec) (c : Cf) : bs.foldl (fun c s => { c with Secs := c.Secs ++ [s] }) c = { c with Secs := c.Secs ++ bs } := by
 induction bs generalizing c with
 | nil => simp
 | cons b bs ih => rw [List.foldl_cons, ih]; simp
theorem fold_jts (bs : List Jt) (c : Cf) : bs.foldl (fun c s => { c with Jts := c.Jts ++ [s] }) c = { c with Jts := c.Jts ++ bs } := by
 induction bs generalizing c with
 | nil => simp
 | cons b bs ih => rw [List.foldl_cons, ih]; simp
theorem fold_sigs (bs : List Sg) (c : Cf) : bs.foldl (fun c s => { c with Sigs := c.Sigs ++ [s] }) c = { c with Sigs := c.Sigs ++ bs } := by
 induction bs generalizing c with
 | nil => simp
 | cons b bs ih => rw [List.foldl_cons, ih]; simp
theorem fold_xs (bs : List Int) (c : Cf) : bs.foldl (fun c s => { c with Xs := c.Xs ++ [s] }) c = { c with Xs := c.Xs ++ bs } := by
 induction bs generalizing c with
 | nil => simp
 | cons b bs ih => rw [List.foldl_cons, ih]; simp
theorem fold_rts (bs : List Rt) (c : Cf) : bs.foldl (fun c s => { c with Rts := c.Rts ++ [s] }) c = { c with Rts := c.Rts ++ bs } := by
 induction bs generalizing c with
 | nil => simp
 | cons b bs ih => rw [List.foldl_cons, ih]; simp
theorem rdText_txt {c : Cf} (h : cf64 c) : rdText (baOf (cfTxt c)) = some c := by
 unfold rdText
 rw [cfTxt_lines, ends_app, cutEnd_app, pieces_ba, splitL_join (by simp) (lines_no10 c)]
 unfold bodyLs
 simp only [List.map_append, List.append_assoc]
 obtain ⟨l1, k1, e1⟩ := rdLines_run (txt := secT) (add := fun (c : Cf) (s : Sec) => { c with Secs := c.Secs ++ [s] }) (k := 1) (by decide) ((c.Jts.map jtT).map baOf ++ ((c.Sigs.map sgT).map baOf ++ ((c.Xs.map xT).map baOf ++ ((c.Rts.map rtT).map baOf ++ [timT c].map baOf)))) c.Secs (fun b hb d => line_sec d (h.secs b hb)) noCf 0 (by decide)
 rw [e1]
 obtain ⟨l2, k2, e2⟩ := rdLines_run (txt := jtT) (add := fun (c : Cf) (s : Jt) => { c with Jts := c.Jts ++ [s] }) (k := 2) (by decide) ((c.Sigs.map sgT).map baOf ++ ((c.Xs.map xT).map baOf ++ ((c.Rts.map rtT).map baOf ++ [timT c].map baOf))) c.Jts (fun b hb d => line_jt d (h.jts b hb)) (c.Secs.foldl (fun c s => { c with Secs := c.Secs ++ [s] }) noCf) l1 (by omega)
 rw [e2]
 obtain ⟨l3, k3, e3⟩ := rdLines_run (txt := sgT) (add := fun (c : Cf) (s : Sg) => { c with Sigs := c.Sigs ++ [s] }) (k := 3) (by decide) ((c.Xs.map xT).map baOf ++ ((c.Rts.map rtT).map baOf ++ [timT c].map baOf)) c.Sigs (fun b hb d => line_sg d (h.sigs b hb)) (c.Jts.foldl (fun c s => { c with Jts := c.Jts ++ [s] }) (c.Secs.foldl (fun c s => { c with Secs := c.Secs ++ [s] }) noCf)) l2 (by omega)
 rw [e3]
 obtain ⟨l4, k4, e4⟩ := rdLines_run (txt := xT) (add := fun (c : Cf) (s : Int) => { c with Xs := c.Xs ++ [s] }) (k := 4) (by decide) ((c.Rts.map rtT).map baOf ++ [timT c].map baOf) c.Xs (fun b hb d => line_x d (h.xs b hb)) (c.Sigs.foldl (fun c s => { c with Sigs := c.Sigs ++ [s] }) (c.Jts.foldl (fun c s => { c with Jts := c.Jts ++ [s] }) (c.Secs.foldl (fun c s => { c with Secs := c.Secs ++ [s] }) noCf))) l3 (by omega)
 rw [e4]
 obtain ⟨l5, k5, e5⟩ := rdLines_run (txt := rtT) (add := fun (c : Cf) (s : Rt) => { c with Rts := c.Rts ++ [s] }) (k := 5) (by decide) ([timT c].map baOf) c.Rts (fun b hb d => line_rt d (h.rts b hb)) (c.Xs.foldl (fun c s => { c with Xs := c.Xs ++ [s] }) (c.Sigs.foldl (fun c s => { c with Sigs := c.Sigs ++ [s] }) (c.Jts.foldl (fun c s => { c with Jts := c.Jts ++ [s] }) (c.Secs.foldl (fun c s => { c with Secs := c.Secs ++ [s] }) noCf)))) l4 (by omega)
 rw [e5, fold_secs, fold_jts, fold_sigs, fold_xs, fold_rts]
 rw [List.map_cons, List.map_nil, rdLines, show timT c = sayL wTim [c.Age, c.Brake, c.Hold, c.Budget] from rfl, line_tim _ (d := c) h.tim]
 have q1 : decide ((6 : Int) < l5) = false := decide_eq_false (by omega)
 have q2 : ((6 : Int) == l5) = false := beq_eq_false_iff_ne.2 (by omega)
 simp only [q1, q2, List.isEmpty_nil, Bool.not_true, Bool.false_and, Bool.or_false, Bool.false_eq_true, if_false, rdLines, noCf, List.nil_append]
 rfl
end Go.Proofs.YtfdffboelecgoaaGreatDoor
end
