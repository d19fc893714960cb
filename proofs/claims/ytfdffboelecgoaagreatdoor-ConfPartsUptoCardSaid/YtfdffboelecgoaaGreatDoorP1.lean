/-
  Proofs that the statement of this claim leans on: part 1.
-/
import Derived.WalkKit
import Derived.Lib.ItoaNum
import Derived.Orders
import Derived.Lib.AppendZeros
import Derived.Laws.AppendOwn
import Derived.MapKept
import Derived.DeepKeys3
import Derived.Laws.CopyRow
import Derived.Lib.ConvBytes
import Derived.Lib.AppendStr
import Derived.Laws.BytesString
import Derived.Deep.LoopGhost
import Derived.Laws.Sem
import Derived.ProofKit
import Derived.LaidLaws
import Derived.LaidHandle
import Derived.Stop.Joined
import Derived.JoinedCond
import Derived.Deep.CondSized
import Derived.Deep.DeepHandedRow
import Derived.Sort.EveryDepth
import Derived.Shelf.Sort.AssemblyIn
import Derived.Shelf.Slices.CompactI
import Derived.Shelf.Spec.SlicesInsertGrow
import Derived.Shelf.Strconv.Itoa3
import Derived.Shelf.Strconv.AtoiAll
import Derived.Shelf.Strings.Count
import Derived.Shelf.Strings.SplitCore
import Derived.Lib.SplitLaws
import Derived.Test.YtfdffboelecgoaaGreatDoorChecked
import Derived.Test.YtfdffboelecgoaaGreatDoorRows
import Derived.Lib.LaidU8
import Derived.Lay
import Derived.MakeChecks
import Derived.Below
import Derived.Shelf.Lays
import Derived.Shelf.Lays2
import Derived.Shelf.LaysC
import Derived.Shelf.LaysM
import Derived.RangeFuncBound
import Derived.Shelf.Strings.Builder1
import Derived.Shelf.RegionOpen
import Derived.RangeFuncLeaves
import Derived.Shelf.Abstract
import Derived.OwnWalkIn
import Derived.TacticsInMore
import Derived.LoopNIn
import Derived.LoopIn
import Derived.Lib.ItoaLen
set_option linter.unusedVariables false
set_option linter.unusedSimpArgs false
namespace Go.Fw
section
inductive D where
 | int (k:IntKind) (n:Int)
 | bool (b:Bool)
 | str (s:ByteArray)
 | nils
 | zsl
 | sl (es:Nat) (rows:List (List D))
 | osl (id i len:Nat)
 | nilp
 | el (s:D) (i off:Nat)
 | nilf
 | fn (f:FuncId) (first caps:List (Bool × List D))
 | nilm
 | omap (id:Nat)
 | ifc (b:Bool)
inductive A where
 | one (d:D)
 | agg (cs:List D)
inductive RV where
 | a (x:A)
 | tup (xs:List A)
inductive SO where
 | free
 | dead
 | live (t:TypeId) (rows:List (List D))
 | mp (clock:Nat) (es:List (Nat × A × A))
abbrev Store:=Nat→SO
def Store.set (σ:Store)(i:Nat)(o:SO) :Store:=fun j=>if j=i then o else σ j
theorem Store.set_same (σ:Store)(i:Nat)(o:SO) :σ.set i o i=o:=by simp[Store.set]
theorem Store.set_ne (σ:Store){i j:Nat}(o:SO)(h:j≠i) :σ.set i o j=σ j:=by simp[Store.set,h]
structure BI where
 blk:Nat
 es:Nat
 size:Nat
abbrev Bk:=Nat→Option BI
def o_e (g:Nat→Nat→Value)(ds:List (Bool × List D)) :Array Value:=
 (ds.zipIdx.map fun x=>if x.1.1 then Value.agg ((List.range x.1.2.length).map fun j=>g x.2 j).toArray else g x.2 0).toArray
def a_cj (ds:List (Bool × List D)) :Prop:=∀(i:Nat) b cs,ds[i]? =some (b,cs)→b=true∨∃d,cs=[d]
abbrev cell1 (v:Value) :Bool:=v.oneCell'
inductive V (k:Nat→Prop) (β:Bk) (W:World) :Value→D→Prop
 | int (q n) :V k β W (.int q n) (.int q n)
 | bool (b) :V k β W (.bool b) (.bool b)
 | str (s) :V k β W (.string s) (.str s)
 | nils:V k β W (.slice none 0 0) .nils
 | zsl (a) :V k β W (.slice a 0 0) .zsl
 | sl (a : Addr) (len cap es : Nat) (rows : List (List D)) (f : Nat → Nat → Value)
     (hk:rows≠[]→k a.block∧a.spot=none) (hl:rows.length=len) (hc:len≤cap)
     (hes:∀(i:Nat) row,rows[i]? =some row→row.length=es)
     (hcell:∀(i:Nat) row (j:Nat) d,rows[i]? =some row→row[j]? =some d→W.cell? ⟨a.block,a.off+i * es+j,none⟩ =some (f i j))
     (hv:∀(i:Nat) row (j:Nat) d,rows[i]? =some row→row[j]? =some d→V k β W (f i j) d) :V k β W (.slice (some a) len cap) (.sl es rows)
 | osl (id i len cap : Nat) (a : Addr) (bi : BI) (hb : β id = some bi) (ha : 0 < cap → a = ⟨bi.blk, i * bi.es, none⟩) (hc : len ≤ cap)
     (hs:(i+cap) * bi.es=bi.size) (hm:cap≤9223372036854775807) :V k β W (.slice (some a) len cap) (.osl id i len)
 | nilp:V k β W (.pointer none) .nilp
 | elsl (a : Addr) (len cap es : Nat) (rows : List (List D)) (i off : Nat)
     (hs:V k β W (.slice (some a) len cap) (.sl es rows)) (hi:i < rows.length) :
     V k β W (.pointer (some ⟨a.block,a.off+i * es+off,none⟩)) (.el (.sl es rows) i off)
 | elosl (id i0 len i off : Nat) (bi : BI) (hb : β id = some bi) (hi : i < len) :
     V k β W (.pointer (some ⟨bi.blk,(i0+i) * bi.es+off,none⟩)) (.el (.osl id i0 len) i off)
 | nilf:V k β W .nilFunc .nilf
 | fn (f : FuncId) (first caps : Array Value) (ds es : List (Bool × List D)) (g g' : Nat → Nat → Value)
     (h1:first=o_e g ds) (hf1:a_cj ds) (hv1:∀(i:Nat) b cs (j:Nat) d,ds[i]? =some (b,cs)→cs[j]? =some d→V k β W (g i j) d)
     (h2:caps=o_e g' es) (hf2:a_cj es) (hv2:∀(i:Nat) b cs (j:Nat) d,es[i]? =some (b,cs)→cs[j]? =some d→V k β W (g' i j) d) :
     V k β W (.func (.func f) first caps) (.fn f ds es)
 | nilm:V k β W (.map none) .nilm
 | omap (id:Nat) (bi:BI) (hb:β id=some bi) :V k β W (.map (some bi.blk)) (.omap id)
 | nili:V k β W .nilIface (.ifc false)
 | ifv (t:TypeId) (v:Value) :V k β W (.iface t v) (.ifc true)
def VL (k:Nat→Prop)(β:Bk)(W:World)(vs:List Value)(ds:List D) :Prop:=
 vs.length=ds.length∧∀(i:Nat) v d,vs[i]? =some v→ds[i]? =some d→V k β W v d
def VA (k:Nat→Prop)(β:Bk)(W:World)(v:Value) :A→Prop
 | .one d=>V k β W v d
 | .agg cs=>∃vs:Array Value,v= .agg vs∧VL k β W vs.toList cs
def VR (k:Nat→Prop)(β:Bk)(W:World)(v:Value) :RV→Prop
 | .a x=>VA k β W v x
 | .tup xs=>∃vs:Array Value,v= .tuple vs∧vs.size=xs.length∧∀(i:Nat) u x,vs[i]? =some u→xs[i]? =some x→VA k β W u x
theorem V.cell1 {k β W v d}(h:V k β W v d) :cell1 v=true:=by cases h <;> rfl
theorem V.cells {k β W v d}(h:V k β W v d) :v.cells= #[v]:=by cases h <;> rfl
def Keep (k:Nat→Prop)(W W':World) :Prop:=∀b,k b→W'.heap[b]? =W.heap[b]?
theorem Keep.cell {k W W'}(h:Keep k W W'){a:Addr}(ha:k a.block) :W'.cell? a=W.cell? a:=by
 unfold World.cell?;rw[h _ ha]
theorem V.mono {k k':Nat→Prop}{β β':Bk}{W W':World}(hk:∀b,k b→k' b)(hb:∀i bi,β i=some bi→β' i=some bi)(hw:Keep k W W')
   {v d} (h:V k β W v d) :V k' β' W' v d:=by
 induction h with
 | int q n=>exact .int q n
 | bool b=>exact .bool b
 | str s=>exact .str s
 | nils=>exact .nils
 | zsl a=>exact .zsl a
 | sl a len cap es rows f hk' hl hc hes hcell hv ih=>
   refine .sl a len cap es rows f (fun hne=>⟨hk _ (hk' hne).1,(hk' hne).2⟩) hl hc hes (fun i row j d hi hj=>?_) (fun i row j d hi hj=>ih i row j d hi hj)
   have hne:rows≠[]:=fun e=>by simp[e] at hi
   have:=hw.cell (a:=⟨a.block,a.off+i * es+j,none⟩) (hk' hne).1
   rw[this];exact hcell i row j d hi hj
 | osl id i len cap a bi h1 h2 h3 h4 h5=>exact .osl id i len cap a bi (hb _ _ h1) h2 h3 h4 h5
 | nilp=>exact .nilp
 | elsl a len cap es rows i off hs hi ih=>exact .elsl a len cap es rows i off ih hi
 | elosl id i0 len i off bi h1 h2=>exact .elosl id i0 len i off bi (hb _ _ h1) h2
 | nilf=>exact .nilf
 | fn f first caps ds es g g' h1 h2 h3 h4 h5 h6 ih1 ih2=>exact .fn f first caps ds es g g' h1 h2 ih1 h4 h5 ih2
 | nilm=>exact .nilm
 | omap id bi h1=>exact .omap id bi (hb _ _ h1)
 | nili=>exact .nili
 | ifv t v=>exact .ifv t v
theorem VL.mono {k k':Nat→Prop}{β β':Bk}{W W':World}(hk:∀b,k b→k' b)(hb:∀i bi,β i=some bi→β' i=some bi)(hw:Keep k W W')
   {vs ds} (h:VL k β W vs ds) :VL k' β' W' vs ds:=⟨h.1,fun i v d hv hd=>(h.2 i v d hv hd).mono hk hb hw⟩
theorem VA.mono {k k':Nat→Prop}{β β':Bk}{W W':World}(hk:∀b,k b→k' b)(hb:∀i bi,β i=some bi→β' i=some bi)(hw:Keep k W W')
   {v x} (h:VA k β W v x) :VA k' β' W' v x:=by
 cases x with
 | one d=>exact V.mono hk hb hw h
 | agg cs=>obtain ⟨vs,e,h⟩:=h;exact ⟨vs,e,h.mono hk hb hw⟩
inductive Dom (β:Bk) :D→Prop
 | int (q n) :Dom β (.int q n)
 | bool (b) :Dom β (.bool b)
 | str (s) :Dom β (.str s)
 | nils:Dom β .nils
 | zsl:Dom β .zsl
 | sl (es rows) (h:∀(i:Nat) row (j:Nat) d,rows[i]? =some row→row[j]? =some d→Dom β d) :Dom β (.sl es rows)
 | osl (id i len bi) (hb:β id=some bi) :Dom β (.osl id i len)
 | nilp:Dom β .nilp
 | el (s i off) (h:Dom β s) :Dom β (.el s i off)
 | nilf:Dom β .nilf
 | fn (f ds es) (h : ∀ (i : Nat) b cs (j : Nat) d, ds[i]? = some (b, cs) → cs[j]? = some d → Dom β d)
     (h':∀(i:Nat) b cs (j:Nat) d,es[i]? =some (b,cs)→cs[j]? =some d→Dom β d) :Dom β (.fn f ds es)
 | nilm:Dom β .nilm
 | omap (id bi) (hb:β id=some bi) :Dom β (.omap id)
 | ifc (b) :Dom β (.ifc b)
theorem V.dom {k β W v d}(h:V k β W v d) :Dom β d:=by
 induction h with
 | int q n=>exact .int q n
 | bool b=>exact .bool b
 | str s=>exact .str s
 | nils=>exact .nils
 | zsl a=>exact .zsl
 | sl a len cap es rows f hk' hl hc hes hcell hv ih=>exact .sl es rows ih
 | osl id i len cap a bi h1 h2 h3 h4 h5=>exact .osl id i len bi h1
 | nilp=>exact .nilp
 | elsl a len cap es rows i off hs hi ih=>exact .el _ _ _ ih
 | elosl id i0 len i off bi h1 h2=>exact .el _ _ _ (.osl id i0 len bi h1)
 | nilf=>exact .nilf
 | fn f first caps ds es g g' h1 h2 h3 h4 h5 h6 ih1 ih2=>exact .fn f ds es ih1 ih2
 | nilm=>exact .nilm
 | omap id bi h1=>exact .omap id bi h1
 | nili=>exact .ifc _
 | ifv t v=>exact .ifc _
theorem V.restrict {k:Nat→Prop}{β β':Bk}{W:World}(hb:∀i bi,β i=some bi→β' i=some bi)
   {v d} (h:V k β' W v d) (hd:Dom β d) :V k β W v d:=by
 have key:∀{id:Nat} {bi bi':BI},β id=some bi→β' id=some bi'→β id=some bi':=by
   intro id bi bi' h1 h2
   have:=hb _ _ h1
   rw[h2] at this;injection this with e;rw[e];exact h1
 induction h with
 | int q n=>exact .int q n
 | bool b=>exact .bool b
 | str s=>exact .str s
 | nils=>exact .nils
 | zsl a=>exact .zsl a
 | sl a len cap es rows f hk' hl hc hes hcell hv ih=>
   cases hd with
   | sl _ _ hd=>exact .sl a len cap es rows f hk' hl hc hes hcell (fun i row j d hi hj=>ih i row j d hi hj (hd i row j d hi hj))
 | osl id i len cap a bi h1 h2 h3 h4 h5=>cases hd with | osl _ _ _ bi' h'=>exact .osl id i len cap a bi (key h' h1) h2 h3 h4 h5
 | nilp=>exact .nilp
 | elsl a len cap es rows i off hs hi ih=>cases hd with | el _ _ _ h'=>exact .elsl a len cap es rows i off (ih h') hi
 | elosl id i0 len i off bi h1 h2=>cases hd with | el _ _ _ h'=>cases h' with | osl _ _ _ bi' h'=>exact .elosl id i0 len i off bi (key h' h1) h2
 | nilf=>exact .nilf
 | fn f first caps ds es g g' h1 h2 h3 h4 h5 h6 ih1 ih2=>
   cases hd with
   | fn _ _ _ d1 d2=>exact .fn f first caps ds es g g' h1 h2 (fun i b cs j d hi hj=>ih1 i b cs j d hi hj (d1 i b cs j d hi hj)) h4 h5 (fun i b cs j d hi hj=>ih2 i b cs j d hi hj (d2 i b cs j d hi hj))
 | nilm=>exact .nilm
 | omap id bi h1=>cases hd with | omap _ bi' h'=>exact .omap id bi (key h' h1)
 | nili=>exact .nili
 | ifv t v=>exact .ifv t v
def a_cr:List (String × (Array Value→Prop)):=
 [("internal/strconv.uint64pow10", fun arr => arr = (Lib.pow10Tab.map fun z => Value.int .u64 z).toArray),
  ("strconv.ErrSyntax", fun arr => ∃ t p, arr = #[.iface t p]), ("strconv.ErrRange", fun arr => ∃ t p, arr = #[.iface t p])]
def Gl (P:Program)(k:Nat→Prop)(W:World) :Prop:=∀x ∈ a_cr,∀g,P.globalNamed x.1=some g→k g∧∃arr t fz,W.heap[g]? =some (.cells arr t fz)∧x.2 arr
theorem Gl.mono {P:Program}{k k':Nat→Prop}{W W':World}(h:Gl P k W)(hk:∀b,k b→k' b)(hw:Keep k W W') :Gl P k' W':=fun x hx g hg=>by
 obtain ⟨h1,arr,t,fz,h2,h3⟩:=h x hx g hg
 exact ⟨hk g h1,arr,t,fz,(hw g h1).trans h2,h3⟩
structure SRel (P:Program) (k:Nat→Prop) (β:Bk) (W:World) (σ:Store) :Prop where
 fin:∃N,∀i,N≤i→σ i= .free
 dom:∀i,(β i).isSome=true↔σ i≠ .free
 klt:∀b,k b→b < W.heap.size
 blt:∀i bi,β i=some bi→bi.blk < W.heap.size
 inj:∀i j bi bj,β i=some bi→β j=some bj→σ i≠ .dead→σ j≠ .dead→bi.blk=bj.blk→i=j
 notk:∀i bi,β i=some bi→σ i≠ .dead→¬k bi.blk
 obj:∀i bi t rows,β i=some bi→σ i= .live t rows→
   ∃arr:Array Value,W.heap[bi.blk]? =some (.cells arr t (0,0))∧arr.size=bi.size∧P.cellsOf t=bi.es∧rows.length * bi.es≤arr.size∧
     (∀v ∈ arr,cell1 v=true)∧
     (∀(r:Nat) row,rows[r]? =some row→row.length=bi.es)∧
     (∀(r:Nat) row (j:Nat) d,rows[r]? =some row→row[j]? =some d→∃v,arr[r * bi.es+j]? =some v∧V k β W v d)
 omap:∀i bi clock es,β i=some bi→σ i= .mp clock es→
   ∃(ents:Array MapEntry),W.heap[bi.blk]? =some (.map ents clock)∧ents.size=es.length∧(∀e ∈ es,e.1 < clock)∧
     (es.map (·.1)).Nodup∧
     (∀(r:Nat) e b ks vs,ents[r]? =some e→es[r]? =some (b,ks,vs)→e.born=b∧VA k β W e.key ks∧VA k β W e.val vs)
 gl:Gl P k W
structure Frm (β:Bk) (σ:Store) (W W':World) :Prop where
 os:W'.os=W.os
 tape:W'.tape=W.tape
 output:W'.output=W.output
 size:W.heap.size≤W'.heap.size
 block:∀b,b < W.heap.size→(∀i bi,β i=some bi→σ i≠ .dead→bi.blk≠b)→W'.heap[b]? =W.heap[b]?
structure Ghost (k:Nat→Prop) (β:Bk) (σ:Store) (W:World) (k':Nat→Prop) (β':Bk) (σ':Store) :Prop where
 kk:∀b,k b→k' b
 kn:∀b,k' b→k b∨W.heap.size≤b∨∃i bi,β i=some bi∧σ i≠ .dead∧bi.blk=b
 bb:∀i bi,β i=some bi→β' i=some bi
 bn:∀i bi,β' i=some bi→β i=some bi∨W.heap.size≤bi.blk∨∃j bj,β j=some bj∧σ j≠ .dead∧bj.blk=bi.blk
 dd:∀i,σ i= .dead→σ' i= .dead
theorem Frm.refl (β:Bk)(σ:Store)(W:World) :Frm β σ W W:=⟨rfl,rfl,rfl,Nat.le_refl _,fun _ _ _=>rfl⟩
theorem Ghost.refl (k:Nat→Prop)(β:Bk)(σ:Store)(W:World) :Ghost k β σ W k β σ:=
 ⟨fun _ h=>h,fun _ h=> .inl h,fun _ _ h=>h,fun _ _ h=> .inl h,fun _ h=>h⟩
theorem Frm.trans {k:Nat→Prop}{β β':Bk}{σ σ':Store}{k':Nat→Prop}{W W' W'':World}(h:Frm β σ W W')(g:Ghost k β σ W k' β' σ')(h':Frm β' σ' W' W'') :Frm β σ W W'':=
 ⟨h'.os.trans h.os,h'.tape.trans h.tape,h'.output.trans h.output,Nat.le_trans h.size h'.size,fun b hb hn=>by
   rw[h'.block b (Nat.lt_of_lt_of_le hb h.size) (fun i bi hi hl he=>?_),h.block b hb hn]
   rcases g.bn i bi hi with h1 | h1 | ⟨j,bj,h1,h2,h3⟩
   · exact hn i bi h1 (fun hd=>hl (g.dd i hd)) he
   · omega
   · exact hn j bj h1 h2 (h3.trans he)⟩
theorem Ghost.trans {k k' k'':Nat→Prop}{β β' β'':Bk}{σ σ' σ'':Store}{W W':World}(g:Ghost k β σ W k' β' σ')(hs:W.heap.size≤W'.heap.size)
   (g':Ghost k' β' σ' W' k'' β'' σ'') :Ghost k β σ W k'' β'' σ'' where
 kk b h:=g'.kk b (g.kk b h)
 kn b h:=by
   rcases g'.kn b h with h | h | ⟨i,bi,h1,hl,h2⟩
   · exact g.kn b h
   · exact .inr (.inl (by omega))
   · rcases g.bn i bi h1 with h3 | h3 | ⟨j,bj,h3,h4,h5⟩
     · exact .inr (.inr ⟨i,bi,h3,fun hd=>hl (g.dd i hd),h2⟩)
     · exact .inr (.inl (by omega))
     · exact .inr (.inr ⟨j,bj,h3,h4,h5.trans h2⟩)
 bb i bi h:=g'.bb i bi (g.bb i bi h)
 bn i bi h:=by
   rcases g'.bn i bi h with h | h | ⟨j,bj,h1,hl,h2⟩
   · exact g.bn i bi h
   · exact .inr (.inl (by omega))
   · rcases g.bn j bj h1 with h3 | h3 | ⟨j',bj',h3,h4,h5⟩
     · exact .inr (.inr ⟨j,bj,h3,fun hd=>hl (g.dd j hd),h2⟩)
     · exact .inr (.inl (by omega))
     · exact .inr (.inr ⟨j',bj',h3,h4,h5.trans h2⟩)
 dd i h:=g'.dd i (g.dd i h)
theorem Frm.keep {P k β W W' σ}(hs:SRel P k β W σ)(h:Frm β σ W W') :Keep k W W':=
 fun b hb=>h.block b (hs.klt b hb) (fun i bi hi hl e=>hs.notk i bi hi hl (e ▸ hb))
structure Grow (W W':World) :Prop where
 os:W'.os=W.os
 tape:W'.tape=W.tape
 output:W'.output=W.output
 size:W.heap.size≤W'.heap.size
 block:∀b,b < W.heap.size→W'.heap[b]? =W.heap[b]?
theorem Grow.refl (W:World) :Grow W W:=⟨rfl,rfl,rfl,Nat.le_refl _,fun _ _=>rfl⟩
theorem Grow.drew (W:World) :Grow W { W with drawn:=W.drawn+1 } :=⟨rfl,rfl,rfl,Nat.le_refl _,fun _ _=>rfl⟩
theorem Grow.push (W:World)(o:Obj) :Grow W { W with heap:=W.heap.push o } :=
 ⟨rfl,rfl,rfl,by simp,fun b hb=>by simp[Array.getElem?_push,Nat.ne_of_lt hb]⟩
theorem Grow.trans {W W' W'':World}(h:Grow W W')(h':Grow W' W'') :Grow W W'':=
 ⟨h'.os.trans h.os,h'.tape.trans h.tape,h'.output.trans h.output,Nat.le_trans h.size h'.size,fun b hb=>(h'.block b (Nat.lt_of_lt_of_le hb h.size)).trans (h.block b hb)⟩
theorem Grow.frm {W W':World}(h:Grow W W')(β σ) :Frm β σ W W':=⟨h.os,h.tape,h.output,h.size,fun b hb _=>h.block b hb⟩
theorem SRel.grow {P k β W W' σ}(h:SRel P k β W σ)(g:Grow W W') :SRel P k β W' σ where
 gl:=h.gl.mono (fun _ h=>h) fun b hb=>g.block b (h.klt b hb)
 fin:=h.fin
 dom:=h.dom
 klt b hb:=Nat.lt_of_lt_of_le (h.klt b hb) g.size
 blt i bi hi:=Nat.lt_of_lt_of_le (h.blt i bi hi) g.size
 inj:=h.inj
 notk:=h.notk
 obj i bi t rows hb hs:=by
   obtain ⟨arr,h1,h2,h3,h4,h5,h6,h7⟩:=h.obj i bi t rows hb hs
   refine ⟨arr,(g.block _ (h.blt i bi hb)).trans h1,h2,h3,h4,h5,h6,fun r row j d hr hj=>?_⟩
   obtain ⟨v,hv,hV⟩:=h7 r row j d hr hj
   exact ⟨v,hv,hV.mono (fun _ h=>h) (fun _ _ h=>h) (fun b hb=>g.block b (h.klt b hb))⟩
 omap i bi clock es hb hs:=by
   obtain ⟨ents,h1,h2,h3,h4,h5⟩:=h.omap i bi clock es hb hs
   refine ⟨ents,(g.block _ (h.blt i bi hb)).trans h1,h2,h3,h4,fun r e b ks vs hr he=>?_⟩
   obtain ⟨hbo,ha,hv⟩:=h5 r e b ks vs hr he
   exact ⟨hbo,ha.mono (fun _ h=>h) (fun _ _ h=>h) (fun b hb=>g.block b (h.klt b hb)),hv.mono (fun _ h=>h) (fun _ _ h=>h) (fun b hb=>g.block b (h.klt b hb))⟩
end
section
inductive E where
 | undef
 | sk
 | bx (cs:List D)
 | cb (cs:List D)
 | bp (s off:Nat)
 | el (s:D) (i off:Nat)
 | val (x:A)
 | tup (xs:List A)
abbrev Env:=Nat→E
abbrev a_4:=Env→Store→Prop
def get (env:Env)(s:Nat) :E:=env s
def a_t (env:Env)(d:Nat)(e:E) :Env:=fun s=>match Nat.beq d s with | true=>e | false=>env s
def env0:Env:=fun _=> .undef
def c_9 {α:Type}(P:Program) :Sem α→Option α
 | .pure a=>some a
 | .program k=>c_9 P (k P)
 | .mark _ k=>c_9 P k
 | _=>none
def a_n (env:Env)(dst:Option Tmp)(e:E) :Env:=
 match dst with
 | some d=>a_t env d e
 | none=>env
def h_u (e:E)(K:E→Prop) :Prop:=
 match e with
 | .undef=>K .undef
 | .sk=>K .sk
 | .bx cs=>K (.bx cs)
 | .cb cs=>K (.cb cs)
 | .bp s off=>K (.bp s off)
 | .el s i off=>K (.el s i off)
 | .val x=>match x with
   | .one d=>K (.val (.one d))
   | .agg cs=>K (.val (.agg cs))
 | .tup xs=>K (.tup xs)
def dOfV:Value→Option D
 | .int q n=>some (.int q n)
 | .bool b=>some (.bool b)
 | .string s=>some (.str s)
 | .slice none 0 0=>some .nils
 | .pointer none=>some .nilp
 | .nilFunc=>some .nilf
 | .map none=>some .nilm
 | .nilIface=>some (.ifc false)
 | _=>none
def d_y:List Value→Option (List D)
 | []=>some []
 | v::vs=>match dOfV v,d_y vs with
   | some d,some ds=>some (d::ds)
   | _,_=>none
def eOfV:Value→Option E
 | .bool b=>some (.val (.one (.bool b)))
 | .agg vs=>(d_y vs.toList).map fun ds=> .val (.agg ds)
 | v=>(dOfV v).map fun d=> .val (.one d)
def q_x (v:Value) :E:=(eOfV v).getD .undef
def opE (env:Env) :Operand→E
 | .tmp t=>match get env t with
   | .bx _=> .bp t 0
   | .cb _=> .bp t 0
   | e=>e
 | .const v=>q_x v
 | .func f=> .val (.one (.fn f [] []))
 | .global _=> .undef
def vOfD:D→Option Value
 | .int q n=>some (.int q n)
 | .bool b=>some (.bool b)
 | .str s=>some (.string s)
 | .nils=>some (.slice none 0 0)
 | .nilp=>some (.pointer none)
 | .nilf=>some .nilFunc
 | .nilm=>some (.map none)
 | .ifc false=>some .nilIface
 | _=>none
def z_h:List D→Option (List Value)
 | []=>some []
 | d::ds=>match vOfD d,z_h ds with
   | some v,some vs=>some (v::vs)
   | _,_=>none
def u_c:E→Option Value
 | .val (.one d)=>vOfD d
 | .val (.agg cs)=>(z_h cs).map fun vs=> .agg vs.toArray
 | _=>none
def toA:E→Option A
 | .el s i off=>some (.one (.el s i off))
 | .val x=>some x
 | _=>none
def k_i (env:Env) :List Operand→Option (List A)
 | []=>some []
 | x::xs=>match toA (opE env x),k_i env xs with
   | some a,some as0=>some (a::as0)
   | _,_=>none
def b_j:A→List D
 | .one d=> [d]
 | .agg cs=>cs
def t_d:A→Bool × List D
 | .one d=>(false,[d])
 | .agg cs=>(true,cs)
def capA:Bool × List D→Option A
 | (true,cs)=>some (.agg cs)
 | (false,[d])=>some (.one d)
 | _=>none
def e_7:List (Bool × List D)→Option (List A)
 | []=>some []
 | x::xs=>match capA x,e_7 xs with
   | some a,some as0=>some (a::as0)
   | _,_=>none
def d_v:E→Bool
 | .bx _=>true
 | .cb _=>true
 | _=>false
def t_b:List Value→(List D→List D)→(List D→Prop)→Prop
 | [],f,K=>K (f [])
 | .int q _::zs,f,K=>∃n:Int,t_b zs (fun r=>f (.int q n::r)) K
 | .bool _::zs,f,K=>∃b:Bool,t_b zs (fun r=>f (.bool b::r)) K
 | .string _::zs,f,K=>∃s:ByteArray,t_b zs (fun r=>f (.str s::r)) K
 | _::zs,f,K=>∃d:D,t_b zs (fun r=>f (d::r)) K
def zeroCells (P:Program)(t:TypeId) :Option (List Value):=
 match P.info? t with
 | some i=>match i.zero with
   | some z=>some z.cells.toList
   | none=>none
 | none=>none
def a_oi (P:Program)(t:TypeId) :Option (List Value):=
 match zeroCells P t with
 | some zs=>match decide (zs.length=P.cellsOf t) with | true=>some zs | false=>none
 | none=>none
def b_k (P:Program)(t:TypeId) :Option Bool:=
 match P.underlying t with
 | some (.struct _)=>some true
 | some (.array _ _)=>some true
 | some _=>some false
 | none=>none
def mkE (agg:Bool)(cs:List D) :Option E:=
 match agg,cs with
 | true,cs=>some (.val (.agg cs))
 | false,[d]=>some (.val (.one d))
 | _,_=>none
def Len:D→Nat→Prop
 | .nils,n=>n=0
 | .zsl,n=>n=0
 | .sl _ rows,n=>n=rows.length
 | .osl _ _ len,n=>n=len
 | _,_=>False
def Row (σ:Store) :D→Nat→List D→Prop
 | .sl _ rows,i,row=>rows[i]? =some row
 | .osl id i0 len,i,row=>i < len∧∃t rows,σ id= .live t rows∧rows[i0+i]? =some row
 | _,_,_=>False
def Idx (P:Program)(σ:Store) :D→Nat→Nat→Prop
 | .sl es rows,e,n=>es=e∧n=rows.length
 | .osl id _ len,e,n=>n=len∧∃t rows,σ id= .live t rows∧P.cellsOf t=e
 | _,_,_=>False
def IdxN (P:Program)(σ:Store)(s:D)(e n:Nat) :Prop:=Idx P σ s e n∨(n=0∧(s= .nils∨s= .zsl))
inductive NK where
 | sl
 | pt
 | fn
 | mp
 | ic
def j_2:NK→D→Bool→Prop
 | .sl, .nils,b=>b=true
 | .sl, .sl _ _,b=>b=false
 | .sl, .osl _ _ _,b=>b=false
 | .pt, .nilp,b=>b=true
 | .pt, .el _ _ _,b=>b=false
 | .fn, .nilf,b=>b=true
 | .fn, .fn _ _ _,b=>b=false
 | .mp, .nilm,b=>b=true
 | .mp, .omap _,b=>b=false
 | .ic, .ifc c,b=>b= !c
 | _,_,_=>False
def a_l:D→Prop
 | .el _ _ _=>True
 | .fn _ _ _=>True
 | _=>False
def e_g:D→Nat→Nat→D
 | .sl es rows,lo,hi=> .sl es ((rows.drop lo).take (hi - lo))
 | .osl id i _,lo,hi=> .osl id (i+lo) (hi - lo)
 | d,_,_=>d
def patch (cs:List D)(off:Nat)(xs:List D) :List D:=cs.take off ++ xs ++ cs.drop (off+xs.length)
def p_x (zs:List Value)(agg:Bool)(σ:Store)(s:D)(i off:Nat)(K:E→Prop) :Prop:=
 ∃row,Row σ s i row∧t_b zs (fun r=>r) fun cs=>(row.drop off).take zs.length=cs∧match mkE agg cs with | some e=>K e | none=>False
def a_d (xs:List D)(σ:Store)(s:D)(i off:Nat)(K:Store→Prop) :Prop:=
 ∃id i0 len t rows row,s= .osl id i0 len∧i < len∧σ id= .live t rows∧rows[i0+i]? =some row∧off+xs.length≤row.length∧
   K (σ.set id (.live t (rows.set (i0+i) (patch row off xs))))
def g_p (P:Program)(f:FuncId) :Bool:=
 match P.funcs[f]? with
 | some fn => !(fn.name == "runtime.NumGoroutine") && fn.body.isSome
 | none=>false
def DCalls (P:Program)(f:FuncId)(args:List A)(σ:Store)(Q:RV→Store→Prop) :Prop:=
 g_p P f=true∧
 ∀k β W (vs:Array Value),SRel P k β W σ→vs.size=args.length→(∀(i:Nat) v x,vs[i]? =some v→args[i]? =some x→VA k β W v x)→
   Calls P f vs W fun e W'=>∃v r σ' k' β',e= .returned v∧Q r σ'∧VR k' β' W' v r∧SRel P k' β' W' σ'∧Ghost k β σ W k' β' σ'∧Frm β σ W W'
def x_c (P:Program)(t:TypeId)(K:A→Prop) :Prop:=
 match b_k P t,zeroCells P t with
 | some true,some zs=>t_b zs (fun r=>r) fun cs=>K (.agg cs)
 | some false,some (z::[])=>t_b [z] (fun r=>r) fun cs=>match cs with | [d]=>K (.one d) | _=>False
 | _,_=>False
def z_4 (P:Program) :List TypeId→(List A→List A)→(List A→Prop)→Prop
 | [],f,K=>K (f [])
 | t::ts,f,K=>x_c P t fun x=>z_4 P ts (fun r=>f (x::r)) K
def v_l (P:Program)(t:TypeId)(r:RV)(K:E→Prop) :Prop:=
 match P.underlying t with
 | some (.tuple ts)=>z_4 P ts.toList (fun r=>r) fun xs=>r= .tup xs∧K (.tup xs)
 | _=>x_c P t fun x=>r= .a x∧K (.val x)
/-! ### maps -/
def k_s (P:Program)(t:TypeId)(d:D) :Bool:=
 match P.underlying t,d with
 | some (.int q), .int q' _=>decide (q=q')
 | some .bool, .bool _=>true
 | some .string, .str _=>true
 | _,_=>false
def l_e (P:Program) :List Field→Nat→List D→Bool
 | [],_,[]=>true
 | f :: fs, i, d :: ds => match Nat.beq f.offset i, Nat.beq (P.cellsOf f.type) 1, f.name == "_", k_s P f.type d with
   | true,true,false,true=>l_e P fs (i+1) ds
   | _,_,_,_=>false
 | _,_,_=>false
def f_c (P:Program)(t:TypeId)(x:A) :Bool:=
 match P.underlying t,x with
 | some (.struct fs), .agg cs=>match P.stoodInHeld t,Nat.beq cs.length (P.cellsOf t) with
   | false,true=>l_e P fs.toList 0 cs
   | _,_=>false
 | some _, .one d=>k_s P t d
 | _,_=>false
def d_x:D→D→Bool
 | .int _ a, .int _ b=>a == b
 | .bool a, .bool b=>a == b
 | .str a, .str b=>a == b
 | _,_=>false
def b_p:List D→List D→Bool
 | [],[]=>true
 | a::as0,b::bs=>d_x a b && b_p as0 bs
 | _,_=>false
def eqA (x y:A) :Bool:=b_p (b_j x) (b_j y)
abbrev Ent:=Nat × A × A
def b_x (k:A)(es:List Ent) :Option A:=(es.find? fun e=>eqA k e.2.1).map (·.2.2)
def h_l (P:Program)(kt:TypeId)(es:List Ent) :Prop:=∀e ∈ es,f_c P kt e.2.1=true
def h_e (P:Program)(kt:TypeId)(σ:Store)(m:D)(k:A)(r:Option A) :Prop:=
 f_c P kt k=true∧((m= .nilm∧r=none)∨∃id clock es,m= .omap id∧σ id= .mp clock es∧h_l P kt es∧r=b_x k es)
def MHas (P:Program)(kt:TypeId)(σ:Store)(m:D)(k:A)(id clock:Nat)(es:List Ent) :Prop:=
 f_c P kt k=true∧m= .omap id∧σ id= .mp clock es∧h_l P kt es
def putL (k v:A) :List Ent→Option (List Ent)
 | []=>none
 | e::es=>match eqA k e.2.1 with
   | true=>some ((e.1,k,v) ::es)
   | false=>(putL k v es).map (e::·)
def w_j (clock:Nat)(es:List Ent)(k v:A) :SO:=
 match putL k v es with
 | some es'=> .mp clock es'
 | none=> .mp (clock+1) (es ++ [(clock,k,v)])
def h_n (clock:Nat)(es:List Ent)(k:A) :Nat:=
 match es.find? fun e=>eqA k e.2.1 with
 | some e=>e.1
 | none=>clock
def n_c (n:Int)(v:A)(es:List Ent) :List Ent:=es.map fun e=>if (e.1:Int) =n then (e.1,e.2.1,v) else e
def x_9 (k:A) :List Ent→List Ent
 | []=> []
 | e::es=>match eqA k e.2.1 with
   | true=>es
   | false=>e::x_9 k es
def bornOk (clock:Nat)(es:List Ent) :Prop:=(∀e ∈ es,e.1 < clock)∧(es.map (·.1)).Nodup
def aOfV:Value→Option A
 | .agg vs=>(d_y vs.toList).map .agg
 | v=>(dOfV v).map .one
def a_al (P:Program)(t:TypeId) :Option A:=
 match P.info? t with
 | some i=>match i.zero with
   | some z=>aOfV z
   | none=>none
 | none=>none
def newObj (σ:Store)(o:SO)(K:Nat→Store→Prop) :Prop:=∀id,σ id= .free→K id (σ.set id o)
def k_r (place:Nat→Option (Nat × Nat))(cells:List D) :List (Nat × List D)→Option (List D)
 | []=>some cells
 | (i,xs) ::rest=>
   match place i with
   | none=>none
   | some (off,size)=>if xs.length=size∧off+size≤cells.length then k_r place (patch cells off xs) rest else none
def e_t (env:Env) :List (Nat × Operand)→Option (List (Nat × List D))
 | []=>some []
 | (i,x) ::r=>match toA (opE env x),e_t env r with
   | some a,some ps=>some ((i,b_j a) ::ps)
   | _,_=>none
def j_b (es:Nat) :Nat→List D→List (List D)
 | 0,_=> []
 | n+1,cs=>cs.take es::j_b es n (cs.drop es)
def k_l (e:E)(K:E→Prop) :Prop:=
 match e with
 | .bp s off=>K (.bp s off)
 | .el s i off=>K (.el s i off)
 | .val (.one d)=>∃s i off,d= .el s i off∧K (.el s i off)
 | _=>False
def e_z (env:Env) :List Operand→Option (List Value)
 | []=>some []
 | x::xs=>match u_c (opE env x),e_z env xs with
   | some v,some vs=>some (v::vs)
   | _,_=>none
def b_q (s:Option Value)(K:E→Prop) :Prop:=
 match s with
 | some v=>match eOfV v with | some e=>K e | none=>False
 | none=>False
def q_n:NK→Value→Bool
 | .sl, .slice none 0 0=>true
 | .pt, .pointer none=>true
 | .fn, .nilFunc=>true
 | .mp, .map none=>true
 | .ic, .nilIface=>true
 | _,_=>false
def a_c (b:Bool)(x y:Prop) :Prop:=
 match b with
 | true=>x
 | false=>y
def a_am (c a b:E)(put:E→Prop) :Prop:=
 match c with
 | .val (.one (.bool t))=>a_c t (put a) (put b)
 | _=>False
inductive Sh where
 | int (q:IntKind)
 | bool
 | str
 | any
inductive SlotSh where
 | one (s:Sh)
 | agg (ss:List Sh)
 | bx (ss:List Sh)
structure LAnn where
 mods:List (Nat × SlotSh):= []
 keep:List Nat
 un:Nat:=0
structure CSpec where
 pre:List A→Store→Prop
 post:List A→Store→RV→Store→Prop
structure DAnn where
 ord:List Nat
 nb:List Nat:= []
 av:List (Nat × Nat):= []
 dir:List Nat:= []
 sp:List Nat:= []
 cs:Nat→Option CSpec:=fun _=>none
inductive DT where
 | leaf (da:DAnn)
 | split (i j:Nat) (a b:DT)
structure Ann where
 esc:List Nat:= []
 cbs:List Nat:= []
 draws:List (Nat × DAnn):= []
 loops:List (Nat × LAnn):= []
 joins:List (Nat × LAnn):= []
 frz:List Nat:= []
 splits:List (Nat × DT):= []
 wide:List Nat:= []
def c_x (an:Ann)(dst:Option Tmp)(t:TypeId)(cs:Option (List D))(env:Env)(σ:Store)(K:a_4) :Prop:=
 match dst,cs with
 | some d,some cs=>match an.esc.contains d with
   | true=>newObj σ (.live t [cs]) fun id σ'=>K (a_t env d (.el (.osl id 0 1) 0 0)) σ'
   | false=>match an.cbs.contains d with
     | true=>K (a_t env d (.cb cs)) σ
     | false=>K (a_t env d (.bx cs)) σ
 | _,_=>False
def k_9 (n:Nat) :Option (List D)→Option (List D)
 | some cs=>match decide (cs.length=n) with | true=>some cs | false=>none
 | none=>none
def t_f (P:Program)(t:TypeId)(cs:Option (List D))(ps:Option (List (Nat × List D)))(put:E→Prop) :Prop:=
 match cs,ps with
 | some cs,some ps=>match P.underlying t with
   | some (.struct fs)=>match fs.toList.mapM (fun f=>(P.info? f.type).map fun i=>(f.offset,i.size)) with
     | some places=>match k_r (fun i=>places[i]?) cs ps with | some cs'=>put (.val (.agg cs')) | none=>False
     | none=>False
   | some (.array _ el)=>match P.info? el with
     | some ie=>match k_r (fun i=>some (i * ie.size,ie.size)) cs ps with | some cs'=>put (.val (.agg cs')) | none=>False
     | none=>False
   | _=>False
 | _,_=>False
def c_m (P:Program)(t:TypeId)(len:Nat)(ps:Option (List (Nat × List D)))(σ:Store)(K:E→Store→Prop) :Prop:=
 match P.underlying t with
 | some (.slice el)=>match (zeroCells P el).bind d_y,ps with
   | some z,some ps=>match k_r (fun i=>some (i * P.cellsOf el,P.cellsOf el)) ((List.replicate len z).flatten) ps with
     | some cs=>match decide (z.length=P.cellsOf el∧0 < P.cellsOf el∧len * P.cellsOf el≤2 ^ 24) with
       | true=>newObj σ (.live el (j_b (P.cellsOf el) len cs)) fun id σ'=>K (.val (.one (.osl id 0 len))) σ'
       | false=>False
     | none=>False
   | _,_=>False
 | _=>False
def o_i (agg:Bool)(n:Nat)(cs:List D)(off:Nat)(put:E→Prop) :Prop:=
 match decide (off+n≤cs.length) with
 | true=>match mkE agg ((cs.drop off).take n) with | some e=>put e | none=>False
 | false=>False
def j_c (P:Program)(t:TypeId)(x:E)(env:Env)(σ:Store)(put:E→Prop) :Prop:=
 match b_k P t,a_oi P t with
 | some agg,some zs=>k_l x fun e=>match e with
   | .bp s off=>match get env s with
     | .bx cs=>o_i agg zs.length cs off put
     | .cb cs=>o_i agg zs.length cs off put
     | _=>False
   | .el s i off=>p_x zs agg σ s i off put
   | _=>False
 | _,_=>False
def x_k (P:Program)(dst:Option Tmp)(t:TypeId)(a:E)(y:Option A)(env:Env)(σ:Store)(K:a_4) :Prop:=
 match y with
 | some y=>match decide ((b_j y).length=P.cellsOf t∧0 < P.cellsOf t) with
   | true=>k_l a fun e=>match e with
     | .bp s off=>match get env s with
       | .bx cs=>match decide (off+ (b_j y).length≤cs.length) with | true=>K (a_n (a_t env s (.bx (patch cs off (b_j y)))) dst .undef) σ | false=>False
       | _=>False
     | .el s i off=>a_d (b_j y) σ s i off fun σ'=>K (a_n env dst .undef) σ'
     | _=>False
   | false=>False
 | none=>False
def g_3 (P:Program)(t:TypeId)(x:E)(f:Nat)(put:E→Prop) :Prop:=
 match P.underlying t with
 | some (.struct fs)=>match fs[f]? with
   | some fd=>match decide (0 < P.cellsOf fd.type) with
     | true=>k_l x fun e=>match e with
       | .bp s off=>put (.bp s (off+fd.offset))
       | .el s i off=>put (.el s i (off+fd.offset))
       | _=>False
     | false=>False
   | none=>False
 | _=>False
def s_0 (P:Program)(t:TypeId)(x:E)(f:Nat)(put:E→Prop) :Prop:=
 match P.underlying t,x with
 | some (.struct fs), .val (.agg cs)=>match fs[f]? with
   | some fd=>match b_k P fd.type with
     | some agg=>match decide (fd.offset+P.cellsOf fd.type≤cs.length) with
       | true=>match mkE agg ((cs.drop fd.offset).take (P.cellsOf fd.type)) with | some e=>put e | none=>False
       | false=>False
     | none=>False
   | none=>False
 | _,_=>False
def e_k (P:Program)(t:TypeId)(x ix:E)(σ:Store)(put:E→Prop) :Prop:=
 match P.underlying t,ix with
 | some (.slice el), .val (.one (.int _ n))=>match x,P.info? el with
   | .val (.one s),some _=>∃len:Nat,Idx P σ s (P.cellsOf el) len∧0≤n∧n < len∧put (.el s n.toNat 0)
   | _,_=>False
 | some (.array len el), .val (.one (.int _ n))=>match P.info? el with
   | some _=>k_l x fun e=>match e with
     | .bp s off=>0≤n∧n < len∧put (.bp s (off+n.toNat * P.cellsOf el))
     | .el s i off=>0≤n∧n < len∧put (.el s i (off+n.toNat * P.cellsOf el))
     | _=>False
   | none=>False
 | _,_=>False
def t_6 (nk:NK)(neq:Bool)(x:E)(put:E→Prop) :Prop:=
 match x with
 | .bp _ _=>match nk with | .pt=>put (.val (.one (.bool neq))) | _=>False
 | .el _ _ _=>match nk with | .pt=>put (.val (.one (.bool neq))) | _=>False
 | .val (.one d)=>∃b,j_2 nk d b∧put (.val (.one (.bool (b != neq))))
 | _=>False
def dNil (nk:NK)(bop:BinOp)(x:E)(y:Operand)(put:E→Prop) :Prop:=
 match bop,y with
 | .eql, .const c=>match q_n nk c with | true=>t_6 nk false x put | false=>False
 | .neq, .const c=>match q_n nk c with | true=>t_6 nk true x put | false=>False
 | _,_=>False
def eqF (f:TypeId→List D→List D→Option Bool)(P:Program) :List Field→List D→List D→Option Bool
 | [],_,_=>some true
 | fd :: fs, xs, ys => match fd.name == "_" with
   | true=>none
   | false=>match f fd.type ((xs.drop fd.offset).take (P.cellsOf fd.type)) ((ys.drop fd.offset).take (P.cellsOf fd.type)) with
     | none=>none
     | some a=>match fs with
       | []=>some a
       | _::_=>match eqF f P fs xs ys with
         | some b=>some (a && b)
         | none=>none
def eqD (P:Program) :Nat→TypeId→List D→List D→Option Bool
 | 0,_,_,_=>none
 | n+1,t,xs,ys=>match P.underlying t with
   | some (.int _)=>match xs,ys with
     | [.int q a],[.int q' b]=>match decide (q=q') with | true=>some (a == b) | false=>none
     | _,_=>none
   | some .bool=>match xs,ys with
     | [.bool a],[.bool b]=>some (a == b)
     | _,_=>none
   | some .string=>match xs,ys with
     | [.str a],[.str b]=>some (a == b)
     | _,_=>none
   | some (.struct fs)=>match P.stoodInHeld t,decide (xs.length=P.cellsOf t∧ys.length=P.cellsOf t) with
     | false,true=>eqF (eqD P n) P fs.toList xs ys
     | _,_=>none
   | _=>none
def s_3 (P:Program)(neq:Bool)(t:TypeId)(x y:E)(put:E→Prop) :Prop:=
 match x,y,P.eqGuardType P.depth t with
 | .val (.agg xs), .val (.agg ys),false=>match eqD P 20 t xs ys with
   | some b=>match neq with | true=>put (.val (.one (.bool (!b)))) | false=>put (.val (.one (.bool b)))
   | none=>False
 | _,_,_=>False
def k_8 (P:Program)(bop:BinOp)(t:TypeId)(x y:Operand)(a b:Value)(put:E→Prop) :Prop:=
 match y,bop,a,b with
 | .const _,_,_,_=>b_q (c_9 P (do eqGuard bop t x y a b;binOp bop t a b)) put
 | _, .rem, .int q m, .int q' n=>match decide (q=q') with | true=>n≠0∧b_q (some (.int q (m.tmod n))) put | false=>False
 | _, .quo, .int q m, .int q' n=>match decide (q=q') with | true=>n≠0∧b_q (some (.int q (q.wrap (m.tdiv n)))) put | false=>False
 | _, .shl, .int q m, .int _ n=>0≤n∧b_q (some (.int q (q.wrap (m * 2 ^ min n.toNat q.bits)))) put
 | _, .shr, .int q m, .int _ n=>0≤n∧b_q (some (.int q (m.fdiv (2 ^ min n.toNat q.bits)))) put
 | _,_,_,_=>b_q (c_9 P (do eqGuard bop t x y a b;binOp bop t a b)) put
def l_a (P:Program)(bop:BinOp)(t:TypeId)(x y:Operand)(a b:Value)(put:E→Prop) :Prop:=
 match bop,a,b with
 | .add, .string s, .string u=>(s.size:Int) + (u.size:Int)≤9223372036854775807∧put (.val (.one (.str (ByteArray.append s u))))
 | _,_,_=>k_8 P bop t x y a b put
def q_0 (P:Program)(bop:BinOp)(t:TypeId)(x y:Operand)(env:Env)(put:E→Prop) :Prop:=
 let plain:Prop:=match u_c (opE env x),u_c (opE env y) with
   | some a,some b=>l_a P bop t x y a b put
   | _,_=>False
 match P.underlying t with
 | some (.slice _)=>dNil .sl bop (opE env x) y put
 | some (.pointer _)=>dNil .pt bop (opE env x) y put
 | some (.func ..)=>dNil .fn bop (opE env x) y put
 | some (.map ..)=>dNil .mp bop (opE env x) y put
 | some (.interface _)=>dNil .ic bop (opE env x) y put
 | some (.struct _)=>match bop with
   | .eql=>s_3 P false t (opE env x) (opE env y) put
   | .neq=>s_3 P true t (opE env x) (opE env y) put
   | _=>False
 | _=>plain
def k_x (x:E)(i:Nat)(put:E→Prop) :Prop:=
 match x with
 | .tup xs=>match xs[i]? with | some y=>put (.val y) | none=>False
 | _=>False
def i_i (x:E)(put:E→Prop) :Prop:=
 match x with
 | .bp s off=>put (.bp s off)
 | .el s i off=>put (.el s i off)
 | .val (.one d)=>a_l d∧put (.val (.one d))
 | _=>False
def i_k (f:FuncId)(a b:Option (List A))(put:E→Prop) :Prop:=
 match a,b with
 | some a,some b=>put (.val (.one (.fn f (a.map t_d) (b.map t_d))))
 | _,_=>False
def c_0 (P:Program)(t:TypeId)(l c:E)(σ:Store)(K:E→Store→Prop) :Prop:=
 match P.underlying t,l,c with
 | some (.slice el), .val (.one (.int .i64 n)), .val (.one (.int .i64 m))=>match (zeroCells P el).bind d_y,P.info? el with
   | some z,some info=>match decide (z.length=info.size∧0 < info.size∧0 < info.bytes) with
     | true=>0≤n∧n≤m∧info.bytes * m≤2 ^ 48∧
       newObj σ (.live el (List.replicate m.toNat z)) fun id σ'=>K (.val (.one (.osl id 0 n.toNat))) σ'
     | false=>False
   | _,_=>False
 | _,_,_=>False
def n_h (s:ByteArray)(i n:Int) :Prop:=0≤i∧∃b:UInt8,s.data.toList[i.toNat]? =some b∧n=b.toNat
def z_3 (s:ByteArray)(l:Int)(hi:Option E)(put:E→Prop) :Prop:=
 match hi with
 | none=>0≤l∧l≤s.size∧put (.val (.one (.str (s.extract l.toNat s.size))))
 | some (.val (.one (.int _ h)))=>0≤l∧l≤h∧h≤s.size∧put (.val (.one (.str (s.extract l.toNat h.toNat))))
 | _=>False
def w_e (P:Program)(t:TypeId)(x i:E)(put:E→Prop) :Prop:=
 match P.underlying t,x,i with
 | some .string, .val (.one (.str s)), .val (.one (.int _ i))=>∃n:Int,n_h s i n∧put (.val (.one (.int .u8 n)))
 | _,_,_=>False
def j_4 (P:Program)(t:TypeId)(x lo:E)(hi:Option E)(σ:Store)(put:E→Prop) :Prop:=
 match P.underlying t,x,lo with
 | some (.slice el), .val (.one s), .val (.one (.int _ l))=>match P.info? el,hi with
   | some _,none=>∃len:Nat,IdxN P σ s (P.cellsOf el) len∧0≤l∧l≤len∧put (.val (.one (e_g s l.toNat len)))
   | some _,some (.val (.one (.int _ h)))=>∃len:Nat,IdxN P σ s (P.cellsOf el) len∧0≤l∧l≤h∧h≤len∧put (.val (.one (e_g s l.toNat h.toNat)))
   | _,_=>False
 | some .string, .val (.one (.str s)), .val (.one (.int _ l))=>z_3 s l hi put
 | _,_,_=>False
def k_2 (P:Program)(t:TypeId)(x:E)(put:E→Prop) :Prop:=
 match P.underlying t with
 | some (.slice _)=>match x with
   | .val (.one s)=>∃len:Nat,Len s len∧put (.val (.one (.int .i64 len)))
   | _=>False
 | some .string=>match x with
   | .val (.one (.str s))=>put (.val (.one (.int .i64 s.size)))
   | _=>False
 | some (.array n _)=>put (.val (.one (.int .i64 n)))
 | _=>False
def Rows (P:Program)(σ:Store)(el:TypeId) :D→List (List D)→Prop
 | .nils,rs=>rs=[]
 | .zsl,rs=>rs=[]
 | .sl es rows,rs=>rs=rows∧(rows=[]∨es=P.cellsOf el)
 | .osl id i0 len,rs=>∃t rows,σ id= .live t rows∧P.cellsOf t=P.cellsOf el∧i0+len≤rows.length∧rs=(rows.drop i0).take len
 | _,_=>False
def Room (P:Program)(σ:Store)(s:D)(n:Nat) :Prop:=∃id i0 len t rows,s= .osl id i0 len∧σ id= .live t rows∧0 < P.cellsOf t∧i0+len+n≤rows.length
def x_o (P:Program)(σ:Store)(el:TypeId)(s:D)(rs ns:List (List D))(d:D)(σ':Store) :Prop:=
 (ns=[]∧d=s∧σ'=σ)∨
 ((ns≠[]∧¬Room P σ s ns.length)∧∃id,σ id= .free∧d= .osl id 0 (rs.length+ns.length)∧σ'=σ.set id (.live el (rs ++ ns)))∨
 (ns≠[]∧∃id i0 len t rows,s= .osl id i0 len∧σ id= .live t rows∧d= .osl id i0 (len+ns.length)∧
   σ'=σ.set id (.live t (rows.take (i0+len) ++ ns ++ rows.drop (i0+len+ns.length))))
def isSl:D→Prop
 | .sl _ _=>True
 | _=>False
def a_e (P:Program)(σ:Store)(el:TypeId)(bytes:Nat)(s x:D)(K:D→Store→Prop) :Prop:=
 ∃rs ns,Rows P σ el s rs∧Rows P σ el x ns∧bytes * (rs.length+ns.length)≤2 ^ 47∧(isSl s→ns=[])∧∀d σ',x_o P σ el s rs ns d σ'→K d σ'
def f_6 (P:Program)(t t':TypeId)(s x:E)(σ:Store)(K:E→Store→Prop) :Prop:=
 match P.underlying t,P.underlying t',s,x with
 | some (.slice el),some (.int _), .val (.one .nils), .val (.one (.int _ n))=>match (zeroCells P el).bind d_y,P.info? el with
   | some z,some info=>match decide (z.length=info.size∧0 < info.size∧0 < info.bytes) with
     | true=>0≤n∧info.bytes * n≤2 ^ 47∧a_c (decide (n=0)) (K (.val (.one .nils)) σ)
       (newObj σ (.live el (List.replicate n.toNat z)) fun id σ'=>K (.val (.one (.osl id 0 n.toNat))) σ')
     | false=>False
   | _,_=>False
 | _,_,_,_=>False
def h_4 (P:Program)(t:TypeId)(s x:E)(σ:Store)(K:E→Store→Prop) :Prop:=
 match P.underlying t,s,x with
 | some (.slice el), .val (.one s), .val (.one x)=>match P.info? el,(zeroCells P el).bind d_y with
   | some info,some z=>match decide (z.length=info.size∧0 < info.size∧0 < info.bytes) with
     | true=>a_e P σ el info.bytes s x fun d σ'=>K (.val (.one d)) σ'
     | false=>False
   | _,_=>False
 | _,_,_=>False
def MPut (P:Program)(kt:TypeId)(σ:Store)(m:D)(k v:A)(K:Store→Prop) :Prop:=
 ∃id clock es,MHas P kt σ m k id clock es∧∀(c':Nat) (es':List Ent),h_l P kt es'→(∀x,b_x x es'=if eqA x k=true then some v else b_x x es)→K (σ.set id (.mp c' es'))
def a_b4 (P:Program)(kt:TypeId)(σ:Store)(m:D)(k z:A)(K:A→Int→Store→Prop) :Prop:=
 ∃id clock es,MHas P kt σ m k id clock es∧(bornOk clock es→K ((b_x k es).getD z) (h_n clock es k) (σ.set id (w_j clock es k ((b_x k es).getD z))))
def w_4 (σ:Store)(m:D)(n:Int)(v:A)(K:Store→Prop) :Prop:=
 ∃id clock es,m= .omap id∧σ id= .mp clock es∧(∃e ∈ es,(e.1:Int) =n)∧K (σ.set id (.mp clock (n_c n v es)))
def MDel (P:Program)(kt:TypeId)(σ:Store)(m:D)(k:A)(K:Store→Prop) :Prop:=
 ∃id clock es,MHas P kt σ m k id clock es∧K (σ.set id (.mp clock (x_9 k es)))
def a_mh (P:Program)(σ:Store)(el:TypeId)(x y:D)(K:Int→Store→Prop) :Prop:=
 ∃rd rs,Rows P σ el x rd∧Rows P σ el y rs∧((min rs.length rd.length=0∧K 0 σ)∨
   ∃id i0 len t rows,x= .osl id i0 len∧σ id= .live t rows∧
     K (min rs.length rd.length) (σ.set id (.live t (rows.take i0 ++ rs.take (min rs.length rd.length) ++ rows.drop (i0+min rs.length rd.length)))))
def mapT (P:Program)(t:TypeId) :Option (TypeId × TypeId):=
 match P.underlying t with
 | some (.map kt et)=>some (kt,et)
 | _=>none
def i_e (P:Program)(t:TypeId)(ok:Bool)(m k:E)(σ:Store)(put:E→Prop) :Prop:=
 match mapT P t,m,toA k with
 | some (kt,et), .val (.one m),some k=>match a_al P et with
   | some z=>∃r,h_e P kt σ m k r∧x_c P et fun v=>r.getD z=v∧match ok with
     | true=>put (.tup [v, .one (.bool r.isSome)])
     | false=>put (.val v)
   | none=>False
 | _,_,_=>False
def r_5 (P:Program)(t:TypeId)(es:List E)(σ:Store)(K:E→Store→Prop) :Prop:=
 match mapT P t,es with
 | some _,[]=>newObj σ (.mp 0 []) fun id σ'=>K (.val (.one (.omap id))) σ'
 | some _,[.val (.one (.int _ _))]=>newObj σ (.mp 0 []) fun id σ'=>K (.val (.one (.omap id))) σ'
 | _,_=>False
def c_l (P:Program)(t:TypeId)(m k v:E)(σ:Store)(K:E→Store→Prop) :Prop:=
 match mapT P t,m,toA k,toA v with
 | some (kt,_), .val (.one m),some k,some v=>MPut P kt σ m k v fun σ'=>K .undef σ'
 | _,_,_,_=>False
def o_q (P:Program)(t:TypeId)(m k:E)(σ:Store)(K:E→Store→Prop) :Prop:=
 match mapT P t,m,toA k with
 | some (kt,et), .val (.one m),some k=>match a_al P et with
   | some z=>a_b4 P kt σ m k z fun v n σ'=>K (.tup [v, .one (.int .i64 n)]) σ'
   | none=>False
 | _,_,_=>False
def j_p (m s v:E)(σ:Store)(K:E→Store→Prop) :Prop:=
 match m,s,toA v with
 | .val (.one m), .val (.one (.int .i64 n)),some v=>w_4 σ m n v fun σ'=>K .undef σ'
 | _,_,_=>False
def v_8 (P:Program)(t:TypeId)(m k:E)(σ:Store)(K:E→Store→Prop) :Prop:=
 match mapT P t,m,toA k with
 | some (kt,_), .val (.one m),some k=>MDel P kt σ m k fun σ'=>K (.tup []) σ'
 | _,_,_=>False
def a_hv (P:Program)(t:TypeId)(x y:E)(σ:Store)(K:E→Store→Prop) :Prop:=
 match P.underlying t,x,y with
 | some (.slice el), .val (.one x), .val (.one y)=>match decide (0 < P.cellsOf el) with
   | true=>a_mh P σ el x y fun n σ'=>K (.val (.one (.int .i64 n))) σ'
   | false=>False
 | _,_,_=>False
def a_n7 (P:Program)(σ:Store)(el:TypeId)(z:List D)(x:D)(K:Store→Prop) :Prop:=
 ∃rd,Rows P σ el x rd∧((rd=[]∧K σ)∨
   ∃id i0 len t rows,x= .osl id i0 len∧σ id= .live t rows∧K (σ.set id (.live t (rows.take i0 ++ List.replicate len z ++ rows.drop (i0+len)))))
def a_ck (P:Program)(t:TypeId)(x:E)(σ:Store)(K:E→Store→Prop) :Prop:=
 match P.underlying t,x with
 | some (.slice el), .val (.one x)=>match P.info? el,(zeroCells P el).bind d_y with
   | some info,some z=>match decide (z.length=info.size∧0 < info.size) with
     | true=>a_n7 P σ el z x fun σ'=>K (.tup []) σ'
     | false=>False
   | _,_=>False
 | _,_=>False
def dCap (P:Program)(t:TypeId)(x:E)(K:E→Prop) :Prop:=
 match P.underlying t,x with
 | some (.slice _), .val (.one .nils)=>K (.val (.one (.int .i64 0)))
 | some (.slice _), .val (.one .zsl)=>K (.val (.one (.int .i64 0)))
 | _,_=>False
def xop (P:Program)(op:Op)(es:List E)(σ:Store)(K:E→Store→Prop) :Prop:=
 match op,es with
 | .makeMap t _,es=>r_5 P t es σ K
 | .mapUpdate t _ _ _,[m,k,v]=>c_l P t m k v σ K
 | .insert t _ _ _,[m,k,v]=>c_l P t m k v σ K
 | .mapEntry t _ _,[m,k]=>o_q P t m k σ K
 | .entryStore _ _ _ _,[m,s,v]=>j_p m s v σ K
 | _,_=>False
def a_d7 (P:Program)(b:Builtin)(ts:List TypeId)(es:List E)(σ:Store)(K:E→Store→Prop) :Prop:=
 match b,ts,es with
 | .copy,[t,t'],[x,y]=>match Nat.beq t t' with | true=>a_hv P t x y σ K | false=>False
 | .cap,[t],[x]=>dCap P t x fun e=>K e σ
 | .delete,[t,_],[m,k]=>v_8 P t m k σ K
 | .clear,[t],[x]=>a_ck P t x σ K
 | _,_,_=>False
def u_a (P:Program)(o:Oper)(f:FuncId)(as0:List A)(σ:Store)(K:E→Store→Prop) :Prop:=
 DCalls P f as0 σ fun r σ'=>v_l P o.type r fun e=>K e σ'
def w_y (P:Program)(o:Oper)(x:E)(as0:List A)(σ:Store)(K:E→Store→Prop) :Prop:=
 match x with
 | .val (.one d)=>∃f a b as0' bs,d= .fn f a b∧e_7 a=some as0'∧e_7 b=some bs∧u_a P o f (as0' ++ as0 ++ bs) σ K
 | _=>False
def u_l (P:Program)(o:Oper)(c:Call)(env:Env)(σ:Store)(K:E→Store→Prop) :Prop:=
 match c.callee with
 | .builtin .len=>match c.args.toList,c.argTypes.toList with
   | [x],[t]=>k_2 P t (opE env x) fun e=>K e σ
   | _,_=>False
 | .builtin .append=>match c.args.toList,c.argTypes.toList with
   | [s,x],[t,t']=>match Nat.beq t t' with
     | true=>h_4 P t (opE env s) (opE env x) σ K
     | false=>f_6 P t t' (opE env s) (opE env x) σ K
   | _,_=>False
 | .builtin .min=>match e_z env c.args.toList with | some vs=>b_q (c_9 P (Builtin.min_ c.argTypes o.type vs.toArray)) fun e=>K e σ | none=>False
 | .builtin .max=>match e_z env c.args.toList with | some vs=>b_q (c_9 P (Builtin.max_ c.argTypes o.type vs.toArray)) fun e=>K e σ | none=>False
 | .builtin b=>a_d7 P b c.argTypes.toList (c.args.toList.map (opE env)) σ K
 | .invoke _ _=>False
 | .value (.func f)=>match k_i env c.args.toList with
   | some as0=>u_a P o f as0 σ K
   | none=>False
 | .value x=>match k_i env c.args.toList with
   | some as0=>w_y P o (opE env x) as0 σ K
   | none=>False
def c_p (P:Program)(an:Ann)(o:Oper)(env:Env)(σ:Store)(K:a_4) :Prop:=
 match o.op with
 | .move x=>h_u (opE env x) fun e=>K (a_n env o.dst e) σ
 | .assign x=>h_u (opE env x) fun e=>K (a_n env o.dst e) σ
 | .pick c a b=>a_am (opE env c) (opE env a) (opE env b) fun e=>h_u e fun e=>K (a_n env o.dst e) σ
 | .alloc t=>c_x an o.dst t (k_9 (P.cellsOf t) ((zeroCells P t).bind d_y)) env σ K
 | .box t x=>c_x an o.dst t (k_9 (P.cellsOf t) ((toA (opE env x)).map b_j)) env σ K
 | .build t parts=>t_f P t ((zeroCells P t).bind d_y) (e_t env parts.toList) fun e=>K (a_n env o.dst e) σ
 | .buildSlice t len parts=>c_m P t len (e_t env parts.toList) σ fun e σ'=>K (a_n env o.dst e) σ'
 | .load t x=>j_c P t (opE env x) env σ fun e=>K (a_n env o.dst e) σ
 | .store t a x=>x_k P o.dst t (opE env a) (toA (opE env x)) env σ K
 | .fieldAddr t x f=>g_3 P t (opE env x) f fun e=>K (a_n env o.dst e) σ
 | .field t x f=>s_0 P t (opE env x) f fun e=>K (a_n env o.dst e) σ
 | .indexAddr t x ix=>e_k P t (opE env x) (opE env ix) σ fun e=>K (a_n env o.dst e) σ
 | .binOp bop t x y _=>q_0 P bop t x y env fun e=>K (a_n env o.dst e) σ
 | .unOp uop _ x=>match u_c (opE env x) with | some a=>b_q (c_9 P (Op.unary uop a)) fun e=>K (a_n env o.dst e) σ | none=>False
 | .convert s t x=>match u_c (opE env x) with | some a=>b_q (c_9 P (convert s t a)) fun e=>K (a_n env o.dst e) σ | none=>False
 | .extract x i=>k_x (opE env x) i fun e=>K (a_n env o.dst e) σ
 | .nilCheck x=>i_i (opE env x) fun e=>K (a_n env o.dst e) σ
 | .makeFunc (.func f) first caps=>i_k f (k_i env first.toList) (k_i env caps.toList) fun e=>K (a_n env o.dst e) σ
 | .makeSlice t l c=>c_0 P t (opE env l) (opE env c) σ fun e σ'=>K (a_n env o.dst e) σ'
 | .slice t x lo hi none=>j_4 P t (opE env x) ((lo.map (opE env)).getD (.val (.one (.int .i64 0)))) (hi.map (opE env)) σ fun e=>K (a_n env o.dst e) σ
 | .call c=>u_l P o c env σ fun e σ'=>K (a_n env o.dst e) σ'
 | .lookup t m k ok=>i_e P t ok (opE env m) (opE env k) σ fun e=>K (a_n env o.dst e) σ
 | .index t x i=>w_e P t (opE env x) (opE env i) fun e=>K (a_n env o.dst e) σ
 | op=>xop P op (op.operands.toList.map (opE env)) σ fun e σ'=>K (a_n env o.dst e) σ'
def boxDst (env:Env)(o:Oper) :Bool:=
 match o.dst with
 | some d=>d_v (get env d)
 | none=>false
def a_5 (st:Oper→Env→Store→a_4→Prop)(all:Array Oper)(o:Oper)(env:Env)(σ:Store)(K:a_4) :Prop:=
 match boxDst env o with
 | true=>False
 | false=>match o.guard with
   | none=>st o env σ K
   | some (j,want)=>match (all[j]?).bind (·.dst) with
     | some d=>match get env d with
       | .sk=>K (a_n env o.dst .sk) σ
       | .val (.one (.bool b)) => a_c b
           (match want with | true=>st o (a_t env d (.val (.one (.bool true)))) σ K | false=>K (a_n (a_t env d (.val (.one (.bool true)))) o.dst .sk) σ)
           (match want with | true=>K (a_n (a_t env d (.val (.one (.bool false)))) o.dst .sk) σ | false=>st o (a_t env d (.val (.one (.bool false)))) σ K)
       | _=>False
     | none=>False
def dFrz (P:Program)(t:TypeId)(len:Nat)(ps:Option (List (Nat × List D)))(K:E→Prop) :Prop:=
 match P.underlying t with
 | some (.slice el)=>match (zeroCells P el).bind d_y,ps with
   | some z,some ps=>match k_r (fun i=>some (i * P.cellsOf el,P.cellsOf el)) ((List.replicate len z).flatten) ps with
     | some cs=>match decide (z.length=P.cellsOf el∧0 < P.cellsOf el∧len * P.cellsOf el≤2 ^ 24) with
       | true=>K (.val (.one (.sl (P.cellsOf el) (j_b (P.cellsOf el) len cs))))
       | false=>False
     | none=>False
   | _,_=>False
 | _=>False
def fzOf (an:Ann)(o:Oper) :Bool:=
 match o.op,o.dst with
 | .buildSlice _ _ _,some d=>an.frz.contains d
 | _,_=>false
def b_0 (s:ByteArray) :List (List D):=s.data.toList.map fun b=> [.int .u8 b.toNat]
def l_g (P:Program)(o:Oper) :Nat:=
 match o.op with
 | .convert s t _=>match P.underlying s,P.underlying t with
   | some .string,some (.slice el)=>match P.underlying el with
     | some (.int .u8)=>1
     | _=>0
   | some (.slice el),some .string=>match P.underlying el,Nat.beq (P.cellsOf el) 1 with
     | some (.int .u8),true=>2
     | _,_=>0
   | _,_=>0
 | .index t _ _=>match P.underlying t with
   | some .string=>3
   | _=>0
 | .slice t _ _ _ none=>match P.underlying t with
   | some .string=>4
   | _=>0
 | .call c=>match c.callee with
   | .builtin .append=>match c.argTypes.toList with
     | [_,t']=>match P.underlying t' with
       | some .string=>5
       | _=>0
     | _=>0
   | _=>0
 | _=>0
def c_c (P:Program)(σ:Store)(el:TypeId)(bytes:Nat)(s:D)(ns:List (List D))(K:D→Store→Prop) :Prop:=
 ∃rs,Rows P σ el s rs∧bytes * (rs.length+ns.length)≤2 ^ 47∧(isSl s→ns=[])∧∀d σ',x_o P σ el s rs ns d σ'→K d σ'
def dStr (P:Program)(k:Nat)(o:Oper)(env:Env)(σ:Store)(K:E→Store→Prop) :Prop:=
 match k,o.op with
 | 1, .convert _ _ x=>match opE env x with
   | .val (.one (.str b))=>K (.val (.one (.sl 1 (b_0 b)))) σ
   | _=>False
 | 2, .convert s _ x=>match P.underlying s,opE env x with
   | some (.slice el), .val (.one d)=>∃b:ByteArray,Rows P σ el d (b_0 b)∧K (.val (.one (.str b))) σ
   | _,_=>False
 | 3, .index _ x i=>match opE env x,opE env i with
   | .val (.one (.str s)), .val (.one (.int _ i))=>∃n:Int,n_h s i n∧K (.val (.one (.int .u8 n))) σ
   | _,_=>False
 | 4, .slice _ x lo hi none=>match opE env x,(lo.map (opE env)).getD (.val (.one (.int .i64 0))) with
   | .val (.one (.str s)), .val (.one (.int _ l))=>z_3 s l (hi.map (opE env)) fun e=>K e σ
   | _,_=>False
 | 5, .call c=>match c.args.toList,c.argTypes.toList with
   | [s,x],[t,_]=>match P.underlying t,opE env s,opE env x with
     | some (.slice el), .val (.one d), .val (.one (.str b))=>match P.info? el,(zeroCells P el).bind d_y with
       | some info,some z=>match decide (z.length=1∧info.size=1∧0 < info.bytes) with
         | true=>c_c P σ el info.bytes d (b_0 b) fun d σ'=>K (.val (.one d)) σ'
         | false=>False
       | _,_=>False
     | _,_,_=>False
   | _,_=>False
 | _,_=>False
def a_g0 (P:Program)(an:Ann)(o:Oper)(env:Env)(σ:Store)(K:a_4) :Prop:=
 match l_g P o with
 | 0=>c_p P an o env σ K
 | k+1=>dStr P (k+1) o env σ fun e σ'=>K (a_n env o.dst e) σ'
def Wide (P:Program)(σ:Store)(s:D)(e n:Nat) :Prop:=∃id i0 len t rows,s= .osl id i0 len∧σ id= .live t rows∧P.cellsOf t=e∧0 < e∧i0+n≤rows.length
def dSl3 (P:Program)(t:TypeId)(x lo hi mx:E)(K:E→Prop) :Prop:=
 match P.underlying t,x,lo,hi,mx with
 | some (.slice el), .val (.one s), .val (.one (.int _ l)), .val (.one (.int _ h)), .val (.one (.int _ m))=>match P.info? el with
   | some _=>∃len:Nat,Len s len∧0≤l∧l≤h∧h≤m∧m≤len∧K .undef
   | none=>False
 | _,_,_,_,_=>False
def a_il (P:Program)(t:TypeId)(x lo hi:E)(σ:Store)(K:E→Prop) :Prop:=
 match P.underlying t,x,lo,hi with
 | some (.slice el), .val (.one s), .val (.one (.int _ l)), .val (.one (.int _ h))=>match P.info? el with
   | some _=>∃n:Nat,Wide P σ s (P.cellsOf el) n∧0≤l∧l≤h∧h≤n∧K (.val (.one (e_g s l.toNat h.toNat)))
   | none=>False
 | _,_,_,_=>False
def wzOf (an:Ann)(o:Oper) :Nat:=
 match o.op,o.dst with
 | .slice _ _ (some _) (some _) (some _),some _=>1
 | .slice _ _ (some _) (some _) none,some d=>match an.wide.contains d with | true=>2 | false=>0
 | _,_=>0
def a_f0 (P:Program)(an:Ann)(o:Oper)(env:Env)(σ:Store)(K:a_4) :Prop:=
 match fzOf an o with
 | true=>match o.op with
   | .buildSlice t len parts=>dFrz P t len (e_t env parts.toList) fun e=>K (a_n env o.dst e) σ
   | _=>False
 | false=>a_g0 P an o env σ K
def a_gs (P:Program)(an:Ann)(o:Oper)(env:Env)(σ:Store)(K:a_4) :Prop:=
 match wzOf an o with
 | 0=>a_f0 P an o env σ K
 | 1=>match o.op with
   | .slice t x (some lo) (some hi) (some mx)=>dSl3 P t (opE env x) (opE env lo) (opE env hi) (opE env mx) fun e=>K (a_n env o.dst e) σ
   | _=>False
 | _=>match o.op with
   | .slice t x (some lo) (some hi) none=>a_il P t (opE env x) (opE env lo) (opE env hi) σ fun e=>K (a_n env o.dst e) σ
   | _=>False
def dops (P:Program)(an:Ann)(all:Array Oper) :List Oper→a_4→a_4
 | [],K=>K
 | o::r,K=>fun env σ=>a_5 (a_gs P an) all o env σ (dops P an all r K)
def e_6:Code→Nat
 | .region id _ _=>id
 | .seq a _=>e_6 a
 | .cond _ x _=>e_6 x
 | .block _ c=>e_6 c
 | .loop c=>e_6 c
 | _=>0
def e_8:Code→List Nat
 | .region _ ops _=>ops.toList.filterMap (·.dst)
 | .seq a b=>e_8 a ++ e_8 b
 | .cond _ x y=>e_8 x ++ e_8 y
 | .block _ c=>e_8 c
 | .loop c=>e_8 c
 | .scope c=>e_8 c
 | .rangeFunc _ ps a b=>ps.toList ++ e_8 a ++ e_8 b
 | _=> []
def l_x (n:Nat) :List (Nat × LAnn)→Option LAnn
 | []=>none
 | (m,a) ::r=>match decide (m=n) with | true=>some a | false=>l_x n r
def CurS:Sh→Type→Type
 | .int _,R=>Int→R
 | .bool,R=>Bool→R
 | .str,R=>ByteArray→R
 | .any,R=>D→R
def h_2:List Sh→Type→Type
 | [],R=>R
 | s::ss,R=>CurS s (h_2 ss R)
def shL:SlotSh→List Sh
 | .one s=> [s]
 | .agg ss=>ss
 | .bx ss=>ss
def e_9:List (Nat × SlotSh)→Type→Type
 | [],R=>R
 | m::ms,R=>h_2 (shL m.2) (e_9 ms R)
def c_e:(ss:List Sh)→{R:Type}→List D→h_2 ss R→(R→Prop)→Prop
 | [],_,[],f,K=>K f
 | .int q::ss,_, .int q' n::ds,f,K=>match decide (q'=q) with | true=>c_e ss ds (f n) K | false=>False
 | .bool::ss,_, .bool b::ds,f,K=>c_e ss ds (f b) K
 | .str::ss,_, .str s::ds,f,K=>c_e ss ds (f s) K
 | .any::ss,_,d::ds,f,K=>c_e ss ds (f d) K
 | _,_,_,_,_=>False
def t_z:SlotSh→E→Option (List D)
 | .one _, .val (.one d)=>some [d]
 | .one _, .el s i off=>some [.el s i off]
 | .agg _, .val (.agg cs)=>some cs
 | .bx _, .bx cs=>some cs
 | _,_=>none
def l_h:(ms:List (Nat × SlotSh))→{R:Type}→Env→e_9 ms R→(R→Prop)→Prop
 | [],_,_,f,K=>K f
 | m::ms,_,env,f,K=>match t_z m.2 (get env m.1) with
   | some ds=>c_e (shL m.2) ds f fun g=>l_h ms env g K
   | none=>False
def allL:(ss:List Sh)→{R R':Type}→h_2 ss R→h_2 ss R'→(List D→List D)→(List D→R→R'→Prop)→Prop
 | [],_,_,f,g,acc,K=>K (acc []) f g
 | .int q::ss,_,_,f,g,acc,K=>∀n:Int,allL ss (f n) (g n) (fun r=>acc (.int q n::r)) K
 | .bool::ss,_,_,f,g,acc,K=>∀b:Bool,allL ss (f b) (g b) (fun r=>acc (.bool b::r)) K
 | .str::ss,_,_,f,g,acc,K=>∀s:ByteArray,allL ss (f s) (g s) (fun r=>acc (.str s::r)) K
 | .any::ss,_,_,f,g,acc,K=>∀d:D,allL ss (f d) (g d) (fun r=>acc (d::r)) K
def w_1:SlotSh→List D→E
 | .one _,[d]=> .val (.one d)
 | .agg _,cs=> .val (.agg cs)
 | .bx _,cs=> .bx cs
 | _,_=> .undef
def allM:(ms:List (Nat × SlotSh))→{R R':Type}→e_9 ms R→e_9 ms R'→Env→(Env→R→R'→Prop)→Prop
 | [],_,_,f,g,env,K=>K env f g
 | m::ms,_,_,f,g,env,K=>allL (shL m.2) f g (fun r=>r) fun ds f' g'=>allM ms f' g' (a_t env m.1 (w_1 m.2 ds)) K
def a_df (env:Env) :List Nat→Env→(Env→Prop)→Prop
 | [],acc,K=>K acc
 | s::r,acc,K=>h_u (get env s) fun e=>a_df env r (a_t acc s e) K
def bxs (env:Env) :List Nat→List (List D)
 | []=> []
 | s::r=>match get env s with
   | .bx cs=>cs::bxs env r
   | _=>bxs env r
def a_lw {α:Type} :List α→Bool
 | []=>true
 | _=>false
def a_a7 (env env':Env)(keep:List Nat)(p:Prop) :Prop:=
 match a_lw (bxs env keep) with
 | true=>p
 | false=>bxs env' keep=bxs env keep∧p
def h_s (an:Ann)(s:Nat) :Code→Bool
 | .region _ ops _=> !(ops.toList.any fun o=>match o.dst with | some d=>Nat.beq d s | none=>false)
 | .seq a b=>match h_s an s a,h_s an s b,l_x (e_6 b) an.joins with
   | true,true,some j=>j.keep.any fun d=>Nat.beq d s
   | true,true,none=>true
   | _,_,_=>false
 | .cond _ x y=>match h_s an s x with | true=>h_s an s y | false=>false
 | .block _ c=>h_s an s c
 | .loop c=>match h_s an s c,l_x (e_6 c) an.loops with
   | true,some l=>l.keep.any fun d=>Nat.beq d s
   | _,_=>false
 | .skip=>true
 | .label _=>true
 | .exit _=>true
 | .ret=>true
 | _=>false
def a_bk (env:Env)(keep:List Nat) :Bool:=
 keep.all fun s=>match get env s with
   | .bp d _=>match keep.any fun x=>Nat.beq x d with | true=>d_v (get env d) | false=>false
   | _=>true
def a_b2 (keep:List Nat)(mods:List (Nat × SlotSh))(p:Nat→Bool) :Bool:=
 keep.all fun s=>match p s with | true=> !(mods.any fun m=>Nat.beq m.1 s) | false=>false
def m_d (next:a_4)(Q:Exit→a_4) :Exit→a_4
 | .normal=>next
 | e=>Q e
def i_t (id:Nat)(Q:Exit→a_4) :Exit→a_4
 | .exit id'=>match decide (id'=id) with | true=>Q .normal | false=>Q (.exit id')
 | e=>Q e
def a_mp (e:E)(x y:Prop) :Prop:=
 match e with
 | .val (.one (.bool t))=>a_c t x y
 | _=>False
def a_lv (a:LAnn)(p:Nat→Bool)(body:(Exit→a_4)→a_4)(Q:Exit→a_4) :a_4:=fun env σ=>
 match a_b2 a.keep a.mods p,a_bk env a.keep with
 | true,true=>∃(I:e_9 a.mods (Store→Prop)) (μ:e_9 a.mods (Store→Nat)),
   l_h a.mods env I (fun i=>i σ)∧
   a_df env a.keep env0 fun envK=>allM a.mods I μ envK fun envH i m=>∀σ',i σ'→
     body (m_d (fun env' σ''=>a_a7 envH env' a.keep (l_h a.mods env' I fun i'=>i' σ''∧l_h a.mods env' μ fun m'=>m' σ'' < m σ')) Q) envH σ'
 | _,_=>False
def v_0 (body:(Exit→a_4)→a_4)(Q:Exit→a_4) :Nat→a_4
 | 0=>fun _ _=>False
 | m+1=>body (m_d (v_0 body Q m) Q)
def a_kl (a:LAnn)(p:Nat→Bool)(x:(Exit→a_4)→a_4)(y:a_4)(Q:Exit→a_4) :a_4:=fun env σ=>
 match a_b2 a.keep a.mods p,a_bk env a.keep with
 | true,true=>∀R:e_9 a.mods (Store→Prop),
   (a_df env a.keep env0 fun envK=>allM a.mods R R envK fun envJ r _=>∀σ',y envJ σ'→r σ')→
   x (m_d (fun env' σ'=>a_a7 env env' a.keep (l_h a.mods env' R fun r=>r σ')) Q) env σ
 | _,_=>False
/-! ### regions whose order is open -/
def e_s (op:Op) :Bool:=
 match op with
 | .move _ | .assign _ | .pick _ _ _ | .build _ _ | .load _ _ | .fieldAddr _ _ _ | .field _ _ _ | .indexAddr _ _ _ | .binOp _ _ _ _ _ | .unOp _ _ _ | .convert _ _ _ | .extract _ _
 | .nilCheck _ | .makeFunc _ _ _ | .slice _ _ _ _ _ | .lookup _ _ _ _ | .index _ _ _=>true
 | .call c=>match c.callee with
   | .builtin .len=>true
   | .builtin .min=>true
   | .builtin .max=>true
   | _=>false
 | _=>false
def e_x (an:Ann)(o:Oper) :Bool:=
 match o.op,o.dst with
 | .alloc _,some d=> !an.esc.contains d
 | .box _ _,some d=> !an.esc.contains d
 | _,_=>false
def a_ee (an:Ann)(o:Oper) :Bool:=
 match o.op,o.dst with
 | .alloc _,some d=>an.esc.contains d
 | .box _ _,some d=>an.esc.contains d
 | _,_=>false
def sdep (P:Program)(op:Op) :Bool:=
 match op with
 | .load _ _=>true
 | .indexAddr _ _ _=>true
 | .slice t _ _ _ _=>match P.underlying t with
   | some .string=>false
   | _=>true
 | .lookup _ _ _ _=>true
 | _=>false
def h_j (op:Op) :Bool:=
 match op with
 | .store _ _ _=>true
 | _=>false
def isLd (op:Op) :Bool:=
 match op with
 | .load _ _=>true
 | _=>false
def isLk (op:Op) :Bool:=
 match op with
 | .lookup _ _ _ _=>true
 | _=>false
def isIx (op:Op) :Bool:=
 match op with
 | .indexAddr _ _ _=>true
 | .slice _ _ _ _ _=>true
 | _=>false
def lkMe (y x:Op) :Bool:=
 match y,x with
 | .lookup t _ _ false, .mapEntry t' _ _=>Nat.beq t t'
 | _,_=>false
def k_g (op:Op) :Option Nat:=
 match op with
 | .store _ (.tmp r) _=>some r
 | _=>none
def t_2:E→Option Nat
 | .bp s _=>some s
 | _=>none
def isBx:E→Bool
 | .bx _=>true
 | _=>false
def o_a (op:Op) :Option Operand:=
 match op with
 | .load _ x=>some x
 | _=>none
def s_z (op:Op) :Option Operand:=
 match op with
 | .store _ p _=>some p
 | _=>none
def okR (da:DAnn)(i:Nat)(op:Op)(env:Env) :Bool:=
 (match da.nb.contains i with
   | false=>true
   | true=>match o_a op with
     | some x=>(t_2 (opE env x)).isSome
     | none=>match s_z op with
       | some x=>(t_2 (opE env x)).isNone
       | none=>false) &&
 (match o_a op with
   | some x=>match t_2 (opE env x) with
     | some s=>da.av.all fun p=> !(p.1 == i && p.2 == s)
     | none=>true
   | none=>true) &&
 (match da.dir.contains i with
   | false=>true
   | true=>match k_g op with
     | some r=>isBx (get env r)
     | none=>false)
def Fin (σ:Store) :Prop:=∃N,∀i,N≤i→σ i= .free
def f_9 (c:CSpec) :Prop:=
 (∀as0 s,c.pre as0 s→Fin s→∃r s',c.post as0 s r s'∧Fin s')∧
 (∀as0 s r s',c.post as0 s r s'→Fin s→Fin s')∧
 (∀as0 s id so,s id= .free→so≠ .free→c.pre as0 s→c.pre as0 (s.set id so)∧
   ∀r s',c.post as0 (s.set id so) r s'→∃s0,c.post as0 s r s0∧s0 id= .free∧s'=s0.set id so)∧
 (∀as0 s r s',c.pre as0 s→c.post as0 s r s'→∀i,s i≠ .free→s' i=s i)
def a_bz (P:Program)(f:FuncId)(pre:List A→Store→Prop)(post:List A→Store→RV→Store→Prop) :Prop:=
 (∀as0 s,pre as0 s→DCalls P f as0 s (post as0 s))∧f_9 ⟨pre,post⟩
def i_1 (op:Op) :Option FuncId:=
 match op with
 | .call c=>match c.callee with
   | .value (.func f)=>some f
   | _=>none
 | _=>none
def z_i (env:Env)(op:Op) :Option (List A):=
 match op with
 | .call c=>k_i env c.args.toList
 | _=>none
def z_7 (P:Program)(c:CSpec)(o:Oper)(env:Env)(σ:Store)(K:a_4) :Prop:=
 match i_1 o.op,z_i env o.op with
 | some _,some as0=>c.pre as0 σ∧∀r s,c.post as0 σ r s→v_l P o.type r fun e=>K (a_n env o.dst e) s
 | _,_=>False
def a_9 (P:Program)(an:Ann)(da:DAnn)(i:Nat)(o:Oper)(env:Env)(σ:Store)(K:a_4) :Prop:=
 match okR da i o.op env with
 | true=>match da.cs i with
   | some c=>z_7 P c o env σ K
   | none=>match da.sp.contains i with
     | true=>False
     | false=>c_p P an o env σ K
 | false=>False
def k_f (op:Op) :Bool:=
 match op with
 | .makeSlice _ _ _=>true
 | .buildSlice _ _ _=>true
 | _=>false
def isMp (op:Op) :Bool:=
 match op with
 | .makeMap _ _=>true
 | .insert _ _ _ _=>true
 | _=>false
def a_mq (y x:Oper) :Bool:=
 match y.op,y.dst,x.op,x.dst with
 | .insert t (.tmp m) (.const (.int _ a)) _,none, .insert t' (.tmp m') (.const (.int _ b)) _,none=>Nat.beq t t' && Nat.beq m m' && !(decide (a=b))
 | _,_,_,_=>false
def v_4 (P:Program)(an:Ann)(ops:Array Oper)(da:DAnn)(yi:Nat)(y:Oper)(xi:Nat)(x:Oper) :Bool:=
 y.apart ops x && (e_x an y || (k_f y.op && k_f x.op) || (da.sp.contains yi && k_f x.op) || lkMe y.op x.op || (da.sp.contains xi && (i_1 x.op).isSome && e_s y.op && !isLk y.op) || ((h_j x.op || k_f x.op) && isIx y.op) || (e_s y.op && !isLk y.op && (k_f x.op || a_ee an x)) || (e_s y.op &&
   (!sdep P y.op || e_s x.op || e_x an x ||
     (h_j x.op && da.dir.contains xi && (!isLd y.op || match k_g x.op with | some r=>da.av.any (fun p=>p.1 == yi && p.2 == r) | none=>false)) ||
     (isLd y.op && da.nb.contains yi && (!h_j x.op || da.nb.contains xi)))))
def s_4 (P:Program)(an:Ann)(ops:Array Oper)(da:DAnn)(yi:Nat)(y:Oper)(xi:Nat)(x:Oper) :Bool:=
 v_4 P an ops da yi y xi x || (y.apart ops x && ((e_s y.op && !isLk y.op && isMp x.op) || a_mq y x))
def a_hx (n:Nat) :List (Nat × Nat)→Option Nat
 | []=>none
 | (m,a) ::r=>match Nat.beq m n with | true=>some a | false=>a_hx n r
def t_l (acc:List (Nat × Nat)) :List Edge→Option Nat
 | []=>some 0
 | e::es=>match Region.binds .any e with
   | false=>t_l acc es
   | true=>match a_hx e.on acc,t_l acc es with
     | some me,some m=>some ((m ||| me) ||| (1 <<< e.on))
     | _,_=>none
def j_w (P:Program)(an:Ann)(ops:Array Oper)(da:DAnn) :List Nat→List (Nat × Nat)→Bool
 | [],_=>true
 | x::r,acc=>match ops[x]? with
   | none=>false
   | some o=>match t_l acc o.after.toList with
     | none=>false
     | some m=>match acc.all fun p=> !(Nat.beq p.1 x) && (m.testBit p.1 || (match ops[p.1]? with | some y=>s_4 P an ops da p.1 y x o | none=>false)) with
       | true=>j_w P an ops da r ((x,m) ::acc)
       | false=>false
def e_q (P:Program)(an:Ann)(ops:Array Oper)(da:DAnn) :Bool:=
 Nat.ble da.ord.length ops.size && ((List.range ops.size).all fun i=>da.ord.contains i) && j_w P an ops da da.ord []
def m_c (P:Program)(an:Ann)(ops:Array Oper)(da:DAnn) :List Nat→a_4→a_4
 | [],K=>K
 | i::r,K=>fun env σ=>match ops[i]? with
   | some o=>a_5 (a_9 P an da i) ops o env σ (m_c P an ops da r K)
   | none=>False
def i_l (P:Program)(ops:Array Oper) :List Nat→((Nat→Option CSpec)→Prop)→Prop
 | [],k=>k fun _=>none
 | i::r,k=>match (ops[i]?).bind fun o=>i_1 o.op with
   | some f=>∃pre:List A→Store→Prop,∃post:List A→Store→RV→Store→Prop,a_bz P f pre post∧
     i_l P ops r fun cs=>k fun j=>match Nat.beq j i with | true=>some ⟨pre,post⟩ | false=>cs j
   | none=>False
def a_kr (n:Nat) :List (Nat × DAnn)→Option DAnn
 | []=>none
 | (m,a) ::r=>match Nat.beq m n with | true=>some a | false=>a_kr n r
def a_ka (n:Nat) :List (Nat × DT)→Option DT
 | []=>none
 | (m,a) ::r=>match Nat.beq m n with | true=>some a | false=>a_ka n r
def h_t (i:Nat) :Nat→List Oper→List Oper
 | _,[]=> []
 | 0,o::r=> { o with after:=(o.after.toList ++ [Edge.mk i .data]).toArray }::r
 | n+1,o::r=>o::h_t i n r
def a_7 (ops:Array Oper)(i j:Nat) :Array Oper:=(h_t i j ops.toList).toArray
def a_lx (P:Program)(an:Ann)(da:DAnn)(ops:Array Oper)(K:a_4) :a_4:=
 match e_q P an ops da with
 | true=>fun env σ=>i_l P ops da.sp fun cs=>m_c P an ops { ord:=da.ord,nb:=da.nb,av:=da.av,dir:=da.dir,sp:=da.sp,cs:=cs } da.ord K env σ
 | false=>fun _ _=>False
def z_x (P:Program)(an:Ann) :DT→Array Oper→a_4→a_4
 | .leaf da,ops,K=>a_lx P an da ops K
 | .split i j a b,ops,K=>match Nat.beq i j with
   | true=>fun _ _=>False
   | false=>fun env σ=>z_x P an a (a_7 ops i j) K env σ∧z_x P an b (a_7 ops j i) K env σ
def a_li (P:Program)(an:Ann)(id:Nat)(ops:Array Oper)(K:a_4) :a_4:=
 match a_ka id an.splits with
 | some t=>z_x P an t ops K
 | none=>match a_kr id an.draws with
   | none=>fun _ _=>False
   | some da=>a_lx P an da ops K
def dwp (P:Program)(an:Ann) :Code→(Exit→a_4)→a_4
 | .skip,Q=>Q .normal
 | .label _,Q=>Q .normal
 | .region id ops draw,Q=>match draw with
   | false=>dops P an ops ops.toList (Q .normal)
   | true=>a_li P an id ops (Q .normal)
 | .seq a b,Q=>match l_x (e_6 b) an.joins with
   | some j=>a_kl j (fun s=>h_s an s a) (dwp P an a) (dwp P an b Q) Q
   | none=>dwp P an a (m_d (dwp P an b Q) Q)
 | .cond c x y,Q=>fun env σ=>a_mp (opE env c) (dwp P an x Q env σ) (dwp P an y Q env σ)
 | .block id c,Q=>dwp P an c (i_t id Q)
 | .loop c,Q=>match l_x (e_6 c) an.loops with
   | some a=>match a.un with
     | 0=>a_lv a (fun s=>h_s an s c) (dwp P an c) Q
     | m+1=>v_0 (dwp P an c) Q (m+1)
   | none=>fun _ _=>False
 | .exit id,Q=>Q (.exit id)
 | .ret,Q=>Q .ret
 | _,_=>fun _ _=>False
def y_i (P:Program)(env:Env) :List ResultVar→Option (List A)
 | []=>some []
 | .tmp t::r=>match toA (opE env (.tmp t)),y_i P env r with
   | some a,some as0=>some (a::as0)
   | _,_=>none
 | .cell t ty::r=>match opE env (.tmp t),b_k P ty with
   | .bp s off,some agg=>match get env s with
     | .bx cs=>match decide (off+P.cellsOf ty≤cs.length) with
       | true=>match agg,(cs.drop off).take (P.cellsOf ty),y_i P env r with
         | true,c,some as0=>some (.agg c::as0)
         | false,[d],some as0=>some (.one d::as0)
         | _,_,_=>none
       | false=>none
     | _=>none
   | _,_=>none
def retX (P:Program)(fn:Func)(Q:RV→Store→Prop) :Exit→a_4
 | .normal,env,σ | .ret,env,σ=>match y_i P env fn.results.toList with
   | some [a]=>Q (.a a) σ
   | some as0=>Q (.tup as0) σ
   | none=>False
 | _,_,_=>False
def d_q (i:Nat) :List A→Env
 | []=>env0
 | .one d::r=>a_t (d_q (i+1) r) i (.val (.one d))
 | .agg cs::r=>a_t (d_q (i+1) r) i (.val (.agg cs))
def a_of (P:Program)(fn:Func)(an:Ann)(args:List A)(σ:Store)(Q:RV→Store→Prop) :Prop:=
 match fn.body with
 | some c=>match (e_8 c).all (fun d=>Nat.blt d fn.ntmps),Nat.ble args.length fn.ntmps with
   | true,true=>dwp P an c (retX P fn Q) (d_q 0 args) σ
   | _,_=>False
 | none=>False
end
end Go.Fw
namespace Go.Fw
abbrev iD (n:Int) :D:= .int .i64 n
abbrev iA (n:Int) :A:= .one (.int .i64 n)
abbrev bA (b:Bool) :A:= .one (.bool b)
abbrev s6:SlotSh:= .one (.int .i64)
abbrev sQ:SlotSh:= .one .any
abbrev sB:SlotSh:= .one .bool

end Go.Fw
namespace Go.Fw
section
theorem b_f (d:Nat)(e:E)(env:Env) :get (a_t env d e) d=e:=by simp[get,a_t]
theorem a_0 {d s:Nat}(e:E)(env:Env)(h:s≠d) :get (a_t env d e) s=get env s:=by
 have:Nat.beq d s=false:=by
   cases hb:Nat.beq d s with
   | false=>rfl
   | true=>exact absurd (Nat.eq_of_beq_eq_true hb).symm h
 simp[get,a_t,this]
def ND (env:Env) :Prop:=∀s d off,get env s= .bp d off→d_v (get env d) =true
def f_f (e:E)(cs:List D) :Prop:=e= .bx cs∨e= .cb cs
def EV (k:Nat→Prop)(β:Bk)(γ:Nat→Nat)(W:World)(v:Value)(s:Nat) :E→Prop
 | .undef=>True
 | .sk=>v=undef
 | .bx _=>v= .pointer (some ⟨γ s,0,none⟩)
 | .cb _=>v= .pointer (some ⟨γ s,0,none⟩)
 | .bp s' off=>v= .pointer (some ⟨γ s',off,none⟩)
 | .el d i off=>V k β W v (.el d i off)
 | .val x=>VA k β W v x
 | .tup xs=>VR k β W v (.tup xs)
theorem EV.slot {k β γ W v s s' e}(h:EV k β γ W v s e)(hn:∀cs,¬f_f e cs) :EV k β γ W v s' e:=by
 cases e <;> first | exact h | exact absurd (.inl rfl) (hn _) | exact absurd (.inr rfl) (hn _)
theorem VR.mono {k k':Nat→Prop}{β β':Bk}{W W':World}(hk:∀b,k b→k' b)(hb:∀i bi,β i=some bi→β' i=some bi)(hw:Keep k W W')
   {v x} (h:VR k β W v x) :VR k' β' W' v x:=by
 cases x with
 | a x=>exact VA.mono hk hb hw h
 | tup xs=>obtain ⟨vs,e,hs,h⟩:=h;exact ⟨vs,e,hs,fun i u x hu hx=>(h i u x hu hx).mono hk hb hw⟩
theorem EV.mono {k k':Nat→Prop}{β β':Bk}{γ:Nat→Nat}{W W':World}(hk:∀b,k b→k' b)(hb:∀i bi,β i=some bi→β' i=some bi)(hw:Keep k W W')
   {v s e} (h:EV k β γ W v s e) :EV k' β' γ W' v s e:=by
 cases e with
 | undef=>trivial
 | sk=>exact h
 | bx cs=>exact h
 | cb cs=>exact h
 | bp s' off=>exact h
 | el d i off=>exact V.mono hk hb hw h
 | val x=>exact VA.mono hk hb hw h
 | tup xs=>exact VR.mono (x:= .tup xs) hk hb hw h
structure RelX (P:Program) (k0:Nat→Prop) (β0:Bk) (σ0:Store) (W0:World) (n:Nat) (k:Nat→Prop) (β:Bk) (γ:Nat→Nat)
   (tmps:Array Value) (W:World) (env:Env) (σ:Store) :Prop where
 srel:SRel P k β W σ
 slot:∀s,EV k β γ W (tmps.getD s undef) s (get env s)
 box:∀s cs,f_f (get env s) cs→γ s < W.heap.size∧¬k (γ s)∧(∀i bi,β i=some bi→bi.blk≠γ s)∧W0.heap.size≤γ s∧
   ∃(arr:Array Value) (t:TypeId),W.heap[γ s]? =some (.cells arr t (0,0))∧(∀v ∈ arr,cell1 v=true)∧VL k β W arr.toList cs
 inj:∀s s' cs cs',f_f (get env s) cs→f_f (get env s') cs'→γ s=γ s'→s=s'
 ghost:Ghost k0 β0 σ0 W0 k β σ
 frm:Frm β0 σ0 W0 W
 size:tmps.size=n
def Rel (df:List Deferred)(P:Program)(k0:Nat→Prop)(β0:Bk)(σ0:Store)(W0:World)(n:Nat)(a:Act)(W:World)(env:Env)(σ:Store) :Prop:=
 a.defers=df∧∃k β γ,RelX P k0 β0 σ0 W0 n k β γ a.tmps W env σ
section
variable {df:List Deferred} {P:Program} {k0:Nat→Prop} {β0:Bk} {σ0:Store} {W0:World} {n:Nat} {k:Nat→Prop} {β:Bk} {γ:Nat→Nat}
 {tmps:Array Value} {W:World} {env:Env} {σ:Store}
theorem RelX.put (h:RelX P k0 β0 σ0 W0 n k β γ tmps W env σ){d:Nat}(hd:d < n){v:Value}{e:E}(hn:∀cs,¬f_f e cs)(hev:EV k β γ W v d e) :
   RelX P k0 β0 σ0 W0 n k β γ (tmps.setIfInBounds d v) W (a_t env d e) σ where
 srel:=h.srel
 slot s:=by
   by_cases hs:s=d
   · subst hs
     rw[b_f]
     have:(tmps.setIfInBounds s v).getD s undef=v:=by simp[h.size,hd]
     rw[this];exact hev
   · rw[a_0 _ _ hs]
     have:(tmps.setIfInBounds d v).getD s undef=tmps.getD s undef:=by
       simp[Array.getElem?_setIfInBounds_ne (fun e=>hs e.symm)]
     rw[this];exact h.slot s
 box s cs hb:=by
   by_cases hs:s=d
   · subst hs;rw[b_f] at hb;exact absurd hb (hn cs)
   · rw[a_0 _ _ hs] at hb;exact h.box s cs hb
 inj s s' cs cs' hb hb' he:=by
   by_cases hs:s=d
   · subst hs;rw[b_f] at hb;exact absurd hb (hn cs)
   · by_cases hs':s'=d
     · subst hs';rw[b_f] at hb';exact absurd hb' (hn cs')
     · rw[a_0 _ _ hs] at hb;rw[a_0 _ _ hs'] at hb';exact h.inj s s' cs cs' hb hb' he
 ghost:=h.ghost
 frm:=h.frm
 size:=by simp[h.size]
theorem RelX.step (h:RelX P k0 β0 σ0 W0 n k β γ tmps W env σ){k':Nat→Prop}{β':Bk}{W':World}{σ':Store}(hs:SRel P k' β' W' σ')
   (g:Ghost k β σ W k' β' σ') (f:Frm β σ W W') :RelX P k0 β0 σ0 W0 n k' β' γ tmps W' env σ' where
 srel:=hs
 slot s:=(h.slot s).mono g.kk g.bb (f.keep h.srel)
 box s cs hb:=by
   obtain ⟨h1,h2,h3,h4,arr,t,h5,h6,h7⟩:=h.box s cs hb
   refine ⟨Nat.lt_of_lt_of_le h1 f.size,fun hk=>?_,fun i bi hi he=>?_,h4,arr,t,?_,h6,h7.mono g.kk g.bb (f.keep h.srel)⟩
   · rcases g.kn _ hk with hk | hk | ⟨i,bi,hi,_,he⟩
     · exact h2 hk
     · omega
     · exact h3 i bi hi he
   · rcases g.bn i bi hi with hi | hi | ⟨j,bj,hj,_,hb⟩
     · exact h3 i bi hi he
     · omega
     · exact h3 j bj hj (hb.trans he)
   · rw[f.block _ h1 (fun i bi hi _ he=>h3 i bi hi he)];exact h5
 inj:=h.inj
 ghost:=h.ghost.trans h.frm.size g
 frm:=h.frm.trans h.ghost f
 size:=h.size
theorem RelX.grow (h:RelX P k0 β0 σ0 W0 n k β γ tmps W env σ){W':World}(g:Grow W W') :RelX P k0 β0 σ0 W0 n k β γ tmps W' env σ:=
 h.step (h.srel.grow g) ⟨fun _ h=>h,fun _ h=> .inl h,fun _ _ h=>h,fun _ _ h=> .inl h,fun _ h=>h⟩ (g.frm β σ)
theorem a_g2 {v:Value}{d:D}(h:dOfV v=some d) :V k β W v d:=by
 unfold dOfV at h
 split at h <;> first | (injection h with h;subst h;constructor) | cases h
theorem g_h {vs:List Value}{ds:List D}(h:d_y vs=some ds) :VL k β W vs ds:=by
 induction vs generalizing ds with
 | nil=>simp[d_y] at h;subst h;exact ⟨rfl,fun i v d hv=>by simp at hv⟩
 | cons v vs ih=>
   unfold d_y at h
   split at h
   · rename_i d ds' h1 h2
     injection h with h;subst h
     obtain ⟨hl,hv⟩:=ih h2
     refine ⟨by simp[hl],fun i u e hu he=>?_⟩
     cases i with
     | zero=>simp at hu he;subst hu he;exact a_g2 h1
     | succ i=>exact hv i u e (by simpa using hu) (by simpa using he)
   · cases h
theorem a_hq {v:Value}{e:E}(s:Nat)(h:eOfV v=some e) :EV k β γ W v s e∧∀cs,¬f_f e cs:=by
 unfold eOfV at h
 split at h
 · injection h with h;subst h;exact ⟨V.bool _,by rintro cs (h | h) <;> cases h⟩
 · rename_i vs
   cases hd:d_y vs.toList with
   | none=>simp[hd] at h
   | some ds=>simp[hd] at h;subst h;exact ⟨⟨vs,rfl,g_h hd⟩,by rintro cs (h | h) <;> cases h⟩
 · cases hd:dOfV v with
   | none=>simp[hd] at h
   | some d=>simp[hd] at h;subst h;exact ⟨a_g2 hd,by rintro cs (h | h) <;> cases h⟩
theorem a_ji (v:Value)(s:Nat) :EV k β γ W v s (q_x v)∧∀cs,¬f_f (q_x v) cs:=by
 unfold q_x
 cases h:eOfV v with
 | none=>exact ⟨trivial,by rintro cs (h | h) <;> cases h⟩
 | some e=>exact a_hq s h
theorem a_o (h:RelX P k0 β0 σ0 W0 n k β γ tmps W env σ)(a:Act)(ha:a.tmps=tmps)(x:Operand)(s:Nat) :
   EV k β γ W (a.eval x) s (opE env x)∧∀cs,¬f_f (opE env x) cs:=by
 cases x with
 | tmp t=>
   have ht:=h.slot t
   simp only[opE,Act.eval,ha]
   cases hg:get env t <;> rw[hg] at ht <;> simp only[] <;>
     first
       | exact ⟨ht,by rintro cs (h | h) <;> cases h⟩
 | const v=>exact a_ji v s
 | global g=>exact ⟨trivial,by rintro cs (h | h) <;> cases h⟩
 | func f=>
   refine ⟨?_,by rintro cs (h | h) <;> cases h⟩
   exact V.fn f #[] #[] [] [] (fun _ _=>undef) (fun _ _=>undef) rfl (by intro i b cs h;simp at h) (by intro i b cs j d h;simp at h) rfl
     (by intro i b cs h;simp at h) (by intro i b cs j d h;simp at h)
theorem a_ie {v u:Value}{d:D}(hv:V k β W v d)(h:vOfD d=some u) :v=u:=by
 cases hv <;> simp[vOfD] at h <;> exact h
theorem a_ew {vs us:List Value}{ds:List D}(hv:VL k β W vs ds)(h:z_h ds=some us) :vs=us:=by
 induction ds generalizing vs us with
 | nil=>
   simp[z_h] at h;subst h
   have:=hv.1;simp at this;exact this
 | cons d ds ih=>
   unfold z_h at h
   split at h
   · rename_i u us' h1 h2
     injection h with h;subst h
     obtain ⟨hl,hv⟩:=hv
     cases vs with
     | nil=>simp at hl
     | cons v vs=>
       have e1:=a_ie (hv 0 v d rfl rfl) h1
       have e2:=ih (vs:=vs) ⟨by simpa using hl,fun i v d hv' hd=>hv (i+1) v d (by simpa using hv') (by simpa using hd)⟩ h2
       rw[e1,e2]
   · cases h
theorem s_s {v u:Value}{e:E}{s:Nat}(hv:EV k β γ W v s e)(h:u_c e=some u) :v=u:=by
 unfold u_c at h
 split at h
 · exact a_ie hv h
 · obtain ⟨vs,rfl,hv⟩:=hv
   rename_i cs
   cases hs:z_h cs with
   | none=>simp[hs] at h
   | some us=>
     simp[hs] at h;subst h
     have:=a_ew hv hs
     rw[←this]
 · cases h
theorem h_o {v:Value}{e:E}{x:A}{s:Nat}(hv:EV k β γ W v s e)(h:toA e=some x) :VA k β W v x:=by
 unfold toA at h
 split at h <;> first | (injection h with h;subst h) | cases h
 · exact hv
 · exact hv
theorem a_as (h:RelX P k0 β0 σ0 W0 n k β γ tmps W env σ)(a:Act)(ha:a.tmps=tmps) :
   ∀(xs:List Operand) (as0:List A),k_i env xs=some as0→xs.length=as0.length∧∀(i:Nat) v x,(xs.map a.eval)[i]? =some v→as0[i]? =some x→VA k β W v x
 | [],as0,hs=>by simp[k_i] at hs;subst hs;exact ⟨rfl,fun i v x hv=>by simp at hv⟩
 | y::ys,as0,hs=>by
   unfold k_i at hs
   split at hs
   · rename_i x xs' h1 h2
     injection hs with hs;subst hs
     obtain ⟨hl,hv⟩:=a_as h a ha ys xs' h2
     refine ⟨by simp[hl],fun i v x' hv' hx'=>?_⟩
     cases i with
     | zero=>simp at hv' hx';subst hv' hx';exact h_o (a_o h a ha y 0).1 h1
     | succ i=>exact hv i v x' (by simpa using hv') (by simpa using hx')
   · cases hs
end
end
section
theorem a_gd {α:Type}{P:Program}(s:Sem α){v:α}(h:c_9 P s=some v)(W:World) :s.run P W= .ok v W:=by
 induction s with
 | pure a=>simp[c_9] at h;subst h;rfl
 | program k ih=>simp only[c_9] at h;simp only[Sem.run];exact ih _ h
 | mark m k ih=>simp only[c_9] at h;simp only[Sem.run];exact ih h
 | _=>simp[c_9] at h
section
variable {df:List Deferred} {P:Program} {k0:Nat→Prop} {β0:Bk} {σ0:Store} {W0:World} {n:Nat} {k:Nat→Prop} {β:Bk} {γ:Nat→Nat}
 {tmps:Array Value} {W W':World} {env:Env} {σ σ':Store} {a:Act} {o:Oper} {Q:Exit→Act→World→Prop} {K:a_4}
theorem V.inv_bool {v:Value}{b:Bool}(h:V k β W v (.bool b)) :v= .bool b:=by cases h;rfl
theorem V.inv_int {v:Value}{q:IntKind}{m:Int}(h:V k β W v (.int q m)) :v= .int q m:=by cases h;rfl
theorem V.inv_str {v:Value}{s:ByteArray}(h:V k β W v (.str s)) :v= .string s:=by cases h;rfl
def FrS (env env':Env)(s:Nat) :Prop:=(∀cs,get env s= .bx cs→∃cs',get env' s= .bx cs')∧((∀cs,get env s≠ .bx cs)→get env' s=get env s)
theorem FrS.of_eq {env env':Env}{s:Nat}(h:get env' s=get env s) :FrS env env' s:=⟨fun cs hc=>⟨cs,h.trans hc⟩,fun _=>h⟩
theorem FrS.trans {e1 e2 e3:Env}{s:Nat}(h:FrS e1 e2 s)(h':FrS e2 e3 s) :FrS e1 e3 s:=by
 refine ⟨fun cs hc=>?_,fun hn=>?_⟩
 · obtain ⟨cs',h1⟩:=h.1 cs hc;exact h'.1 cs' h1
 · have h1:=h.2 hn
   rw[h'.2 (fun cs hc=>hn cs (by rw[←h1];exact hc)),h1]
def Out (df:List Deferred)(P:Program)(k0:Nat→Prop)(β0:Bk)(σ0:Store)(W0:World)(n:Nat)(S:Nat→Prop)(env:Env)(K:a_4) :Act→World→Prop:=fun a' W'=>
 ∃env' σ',K env' σ'∧Rel df P k0 β0 σ0 W0 n a' W' env' σ'∧∀s,¬S s→FrS env env' s
abbrev Dst (o:Oper) :Nat→Prop:=fun s=>o.dst=some s
theorem c_u {next:Act→World→Prop}{v:Value}(h:(execOp a.eval o).run P W= .ok (.value v) W')(hn:next (a.put o.dst v) W') :o.wp P a W next Q:=by
 unfold Oper.wp;rw[h];exact hn
theorem n_0 {next:Act→World→Prop}(h:(execOp a.eval o).run P W= .ok .skip W')(hn:next (a.put o.dst undef) W') :o.wp P a W next Q:=by
 unfold Oper.wp;rw[h];exact hn
theorem forceE_iff {e:E}{K:E→Prop} :h_u e K↔K e:=by
 cases e <;> first | exact Iff.rfl | (rename_i x;cases x <;> exact Iff.rfl)
theorem c_f (hd:∀d,o.dst=some d→d < n)(hdef:a.defers=df)(h:RelX P k0 β0 σ0 W0 n k β γ a.tmps W' env σ'){v:Value}{e:E}
   (hn:∀cs,¬f_f e cs) (hev:EV k β γ W' v 0 e) (hK:K (a_n env o.dst e) σ') :Out df P k0 β0 σ0 W0 n (Dst o) env K (a.put o.dst v) W':=by
 cases hdst:o.dst with
 | none=>
   rw[hdst] at hK
   exact ⟨env,σ',hK,⟨hdef,k,β,γ,h⟩,fun s _=> .of_eq rfl⟩
 | some d=>
   rw[hdst] at hK
   refine ⟨a_t env d e,σ',hK,⟨hdef,k,β,γ,h.put (hd d hdst) hn (hev.slot hn)⟩,fun s hs=>?_⟩
   have hne:s≠d:=fun e=>hs (by show o.dst=some s;rw[hdst,e])
   exact .of_eq (a_0 _ _ hne)
theorem a_v (hd:∀d,o.dst=some d→d < n)(hdef:a.defers=df)(h:RelX P k0 β0 σ0 W0 n k β γ a.tmps W env σ){v:Value}{e:E}
   (hrun:(execOp a.eval o).run P W= .ok (.value v) W) (hn:∀cs,¬f_f e cs) (hev:EV k β γ W v 0 e) (hK:K (a_n env o.dst e) σ) :
   o.wp P a W (Out df P k0 β0 σ0 W0 n (Dst o) env K) Q:=
 c_u hrun (c_f hd hdef h hn hev hK)
theorem g_i (hd:∀d,o.dst=some d→d < n)(hdef:a.defers=df)(h:RelX P k0 β0 σ0 W0 n k β γ a.tmps W env σ){s:Sem Value}
   (hrun:∀v,s.run P W= .ok v W→(execOp a.eval o).run P W= .ok (.value v) W)
   (hp:b_q (c_9 P s) fun e=>K (a_n env o.dst e) σ) :o.wp P a W (Out df P k0 β0 σ0 W0 n (Dst o) env K) Q:=by
 unfold b_q at hp
 split at hp
 · rename_i v hv
   split at hp
   · rename_i e he
     obtain ⟨h1,h2⟩:=a_hq (k:=k) (β:=β) (γ:=γ) (W:=W) 0 he
     exact a_v hd hdef h (hrun v (a_gd s hv W)) h2 h1 hp
   · exact hp.elim
 · exact hp.elim
theorem j_x {e:E}{v:Value}{p:E→Prop}(hev:EV k β γ W v 0 e)(h:k_l e p) :
   ∃e',p e'∧EV k β γ W v 0 e'∧((∃s off,e'= .bp s off)∨∃s i off,e'= .el s i off):=by
 unfold k_l at h
 split at h
 · exact ⟨_,h,hev, .inl ⟨_,_,rfl⟩⟩
 · exact ⟨_,h,hev, .inr ⟨_,_,_,rfl⟩⟩
 · obtain ⟨s,i,off,rfl,h⟩:=h
   exact ⟨_,h,hev, .inr ⟨_,_,_,rfl⟩⟩
 · exact h.elim
theorem add_mk (b o n:Nat) :(⟨b,o,none⟩ :Addr).add n=⟨b,o+n,none⟩:=by
 unfold Addr.add;split
 · rename_i h;subst h;rfl
 · rfl
theorem V.el_add {d:D}{i off:Nat}{v:Value}(h:V k β W v (.el d i off))(m:Nat) :
   ∃b o,v= .pointer (some ⟨b,o,none⟩)∧V k β W (.pointer (some ⟨b,o+m,none⟩)) (.el d i (off+m)):=by
 cases h with
 | elsl a len cap es rows i off hs hi=>
   refine ⟨_,_,rfl,?_⟩
   rw[Nat.add_assoc];exact .elsl a len cap es rows i (off+m) hs hi
 | elosl id i0 len i off bi hb hi=>
   refine ⟨_,_,rfl,?_⟩
   rw[Nat.add_assoc];exact .elosl id i0 len i (off+m) bi hb hi
theorem m_1 {t:TypeId}(h:0 < P.cellsOf t) :∃i,P.info? t=some i∧i.size=P.cellsOf t:=by
 unfold Program.cellsOf at h ⊢
 cases hi:P.info? t with
 | none=>simp[hi] at h
 | some i=>exact ⟨i,rfl,by simp⟩
/-! ### moves, picks, fields -/
theorem a_ir (hd:∀d,o.dst=some d→d < n)(hdef:a.defers=df)(h:RelX P k0 β0 σ0 W0 n k β γ a.tmps W env σ)(x:Operand)
   (hop:o.op= .move x∨o.op= .assign x) (hs:h_u (opE env x) fun e=>K (a_n env o.dst e) σ) :
   o.wp P a W (Out df P k0 β0 σ0 W0 n (Dst o) env K) Q:=by
 rw[forceE_iff] at hs
 obtain ⟨h1,h2⟩:=a_o h a rfl x 0
 refine a_v hd hdef h (v:=a.eval x) ?_ h2 h1 hs
 rcases hop with hop | hop <;> simp[execOp,hop]
theorem a_ns (hd:∀d,o.dst=some d→d < n)(hdef:a.defers=df)(h:RelX P k0 β0 σ0 W0 n k β γ a.tmps W env σ)(c x y:Operand)
   (hop:o.op= .pick c x y) (hs:a_am (opE env c) (opE env x) (opE env y) fun e=>h_u e fun e=>K (a_n env o.dst e) σ) :
   o.wp P a W (Out df P k0 β0 σ0 W0 n (Dst o) env K) Q:=by
 obtain ⟨hc,_⟩:=a_o h a rfl c 0
 obtain ⟨hx1,hx2⟩:=a_o h a rfl x 0
 obtain ⟨hy1,hy2⟩:=a_o h a rfl y 0
 have key : ∀ t : Bool, a.eval c = .bool t → (t = true → K (a_n env o.dst (opE env x)) σ) → (t = false → K (a_n env o.dst (opE env y)) σ) →
     o.wp P a W (Out df P k0 β0 σ0 W0 n (Dst o) env K) Q:=by
   intro t ht h1 h2
   cases t with
   | true=>exact a_v hd hdef h (v:=a.eval x) (by simp[execOp,hop,ht,asBool]) hx2 hx1 (h1 rfl)
   | false=>exact a_v hd hdef h (v:=a.eval y) (by simp[execOp,hop,ht,asBool]) hy2 hy1 (h2 rfl)
 unfold a_am at hs
 split at hs
 · rename_i t he
   rw[he] at hc
   have hb:a.eval c= .bool t:=V.inv_bool hc
   simp only[forceE_iff] at hs
   exact key t hb (fun e=>by subst e;exact hs) (fun e=>by subst e;exact hs)
 · exact hs.elim
theorem a_bc (hd:∀d,o.dst=some d→d < n)(hdef:a.defers=df)(h:RelX P k0 β0 σ0 W0 n k β γ a.tmps W env σ)(t:TypeId)(x:Operand)(f:Nat)
   (hop:o.op= .fieldAddr t x f) (hs:g_3 P t (opE env x) f fun e=>K (a_n env o.dst e) σ) :
   o.wp P a W (Out df P k0 β0 σ0 W0 n (Dst o) env K) Q:=by
 obtain ⟨hx,_⟩:=a_o h a rfl x 0
 unfold g_3 at hs
 split at hs
 · rename_i fs hu
   split at hs
   · rename_i fd hf
     split at hs
     · rename_i hpos
       have hpos:=of_decide_eq_true hpos
       obtain ⟨info,hi,hsz⟩:=m_1 hpos
       have hrun:∀b o',a.eval x= .pointer (some ⟨b,o',none⟩)→(execOp a.eval o).run P W= .ok (.value (.pointer (some ⟨b,o'+fd.offset,none⟩))) W:=by
         intro b o' he
         have hne:info.size≠0:=by omega
         simp[execOp,hop,Instr.fieldAt,run_underlying hu,hf,Instr.sureAddr,he,fieldPlace,sizeOf,run_typeInfo W hi,hne,add_mk]
       obtain ⟨e',hp,hev,he'⟩:=j_x hx hs
       rcases he' with ⟨s,off,rfl⟩ | ⟨s,i,off,rfl⟩
       · exact a_v (e:= .bp s (off+fd.offset)) hd hdef h (hrun _ _ hev) (by rintro cs (h | h) <;> cases h) rfl hp
       · obtain ⟨b,o',he,hv⟩:=V.el_add hev fd.offset
         exact a_v (e:= .el s i (off+fd.offset)) hd hdef h (hrun _ _ he) (by rintro cs (h | h) <;> cases h) hv hp
     · exact hs.elim
   · exact hs.elim
 · exact hs.elim
theorem VL.drop_take {vs:List Value}{ds:List D}(h:VL k β W vs ds)(i j:Nat) :VL k β W ((vs.drop i).take j) ((ds.drop i).take j):=by
 refine ⟨by simp[h.1],fun m v d hv hd=>?_⟩
 rw[List.getElem?_take] at hv hd
 split at hv
 · rename_i hlt
   rw[if_pos hlt] at hd
   simp at hv hd
   exact h.2 _ v d hv hd
 · cases hv
theorem a_le {agg:Bool}{vs:List Value}{cs:List D}{e:E}(hv:VL k β W vs cs)(he:mkE agg cs=some e)(s:Nat) :
   (∀v,(agg=true∧v= .agg vs.toArray)∨(agg=false∧vs=[v])→EV k β γ W v s e)∧(∀cs,¬f_f e cs)∧(agg=false→∃v,vs=[v]):=by
 unfold mkE at he
 split at he
 · injection he with he;subst he
   refine ⟨fun v hv'=>?_,(by rintro cs (h | h) <;> cases h),fun h=>by cases h⟩
   rcases hv' with ⟨_,rfl⟩ | ⟨h,_⟩
   · exact ⟨_,rfl,by simpa using hv⟩
   · cases h
 · injection he with he;subst he
   have hl:=hv.1
   cases vs with
   | nil=>simp at hl
   | cons u us=>
     cases us with
     | cons=>simp at hl
     | nil=>
       refine ⟨fun v hv'=>?_,(by rintro cs (h | h) <;> cases h),fun _=>⟨u,rfl⟩⟩
       rcases hv' with ⟨h,_⟩ | ⟨_,h⟩
       · cases h
       · injection h with h _;subst h;exact hv.2 0 u _ rfl rfl
 · cases he
theorem i_m {t:TypeId}{b:Bool}(h:b_k P t=some b)(W:World) :(isAgg t).run P W= .ok b W:=by
 unfold b_k at h
 unfold isAgg
 cases hu:P.underlying t with
 | none=>simp[hu] at h
 | some d=>cases d <;> simp[hu] at h <;> subst h <;> simp[run_underlying hu]
theorem a_km (hd:∀d,o.dst=some d→d < n)(hdef:a.defers=df)(h:RelX P k0 β0 σ0 W0 n k β γ a.tmps W env σ)(t:TypeId)(x:Operand)(f:Nat)
   (hop:o.op= .field t x f) (hs:s_0 P t (opE env x) f fun e=>K (a_n env o.dst e) σ) :
   o.wp P a W (Out df P k0 β0 σ0 W0 n (Dst o) env K) Q:=by
 obtain ⟨hx,_⟩:=a_o h a rfl x 0
 unfold s_0 at hs
 split at hs
 · rename_i fs cs hu he
   rw[he] at hx
   obtain ⟨vs,hv,hVL⟩:=hx
   split at hs
   · rename_i fd hf
     split at hs
     · rename_i agg hagg
       split at hs
       · rename_i hle
         have hle:=of_decide_eq_true hle
         split at hs
         · rename_i e he'
           obtain ⟨h1,h2,h3⟩:=a_le (γ:=γ) (hVL.drop_take fd.offset (P.cellsOf fd.type)) he' 0
           have hsz:vs.size=cs.length:=by simpa using hVL.1
           cases agg with
           | true=>
             have hi:∃i,P.info? fd.type=some i:=by
               unfold b_k Program.underlying at hagg
               cases hi:P.info? fd.type with
               | some i=>exact ⟨i,rfl⟩
               | none=>simp[hi] at hagg
             obtain ⟨i,hi⟩:=hi
             refine a_v hd hdef h (v:= .agg (vs.extract fd.offset (fd.offset+P.cellsOf fd.type))) ?_ h2 (h1 _ (.inl ⟨rfl,?_⟩)) hs
             · simp[execOp,hop,Instr.field,run_underlying hu,hf,hv,asAgg,part,i_m hagg,run_sizeOf W hi]
             · congr 1
               apply Array.ext'
               simp[Array.toList_extract,List.extract]
           | false=>
             obtain ⟨u,hu'⟩:=h3 rfl
             have hget:vs[fd.offset]? =some u:=by
               have:=congrArg (·[0]?) hu'
               simp only[List.getElem?_take,List.getElem?_drop] at this
               split at this
               · simpa using this
               · simp at this
             refine a_v hd hdef h (v:=u) ?_ h2 (h1 _ (.inr ⟨rfl,hu'⟩)) hs
             simp[execOp,hop,Instr.field,run_underlying hu,hf,hv,asAgg,part,i_m hagg,hget]
         · exact hs.elim
       · exact hs.elim
     · exact hs.elim
   · exact hs.elim
 · exact hs.elim
theorem a_gi (hd:∀d,o.dst=some d→d < n)(hdef:a.defers=df)(h:RelX P k0 β0 σ0 W0 n k β γ a.tmps W env σ)(x:Operand)(i:Nat)
   (hop:o.op= .extract x i) (hs:k_x (opE env x) i fun e=>K (a_n env o.dst e) σ) :
   o.wp P a W (Out df P k0 β0 σ0 W0 n (Dst o) env K) Q:=by
 obtain ⟨hx,_⟩:=a_o h a rfl x 0
 unfold k_x at hs
 split at hs
 · rename_i xs he
   rw[he] at hx
   obtain ⟨vs,hv,hsz,hv'⟩:=hx
   split at hs
   · rename_i y hy
     have hlt:i < vs.size:=by rw[hsz];exact (List.getElem?_eq_some_iff.1 hy).1
     have hg:vs[i]? =some vs[i]:=Array.getElem?_eq_getElem hlt
     refine a_v (e:= .val y) hd hdef h (v:=vs[i]) ?_ (by rintro cs (h | h) <;> cases h) (hv' i _ y hg hy) hs
     simp[execOp,hop,Instr.extract,hv,hg]
   · exact hs.elim
 · exact hs.elim
end
end
section
section
variable {df:List Deferred} {P:Program} {k0:Nat→Prop} {β0:Bk} {σ0:Store} {W0:World} {n:Nat} {k:Nat→Prop} {β:Bk} {γ:Nat→Nat}
 {tmps:Array Value} {W W':World} {env:Env} {σ σ':Store} {a:Act} {o:Oper} {Q:Exit→Act→World→Prop} {K:a_4}
theorem a_m4 (hd:∀d,o.dst=some d→d < n)(hdef:a.defers=df)(h:RelX P k0 β0 σ0 W0 n k β γ a.tmps W env σ)(u:UnOp)(t:TypeId)(x:Operand)
   (hop:o.op= .unOp u t x) (v:Value) (hv:u_c (opE env x) =some v) (hs:b_q (c_9 P (Op.unary u v)) fun e=>K (a_n env o.dst e) σ) :
   o.wp P a W (Out df P k0 β0 σ0 W0 n (Dst o) env K) Q:=by
 have he:=s_s (a_o h a rfl x 0).1 hv
 exact g_i hd hdef h (fun r hr=>by simp[execOp,hop,he,hr]) hs
theorem a_hc (hd:∀d,o.dst=some d→d < n)(hdef:a.defers=df)(h:RelX P k0 β0 σ0 W0 n k β γ a.tmps W env σ)(s t:TypeId)(x:Operand)
   (hop:o.op= .convert s t x) (v:Value) (hv:u_c (opE env x) =some v) (hs:b_q (c_9 P (convert s t v)) fun e=>K (a_n env o.dst e) σ) :
   o.wp P a W (Out df P k0 β0 σ0 W0 n (Dst o) env K) Q:=by
 have he:=s_s (a_o h a rfl x 0).1 hv
 exact g_i hd hdef h (fun r hr=>by simp[execOp,hop,he,hr]) hs
theorem a_bx {b:BinOp}{t:TypeId}{x y:Operand}{v w:Value}{put:E→Prop}(h:k_8 P b t x y v w put) :b_q (c_9 P (do eqGuard b t x y v w;binOp b t v w)) put:=by
 unfold k_8 at h
 split at h
 · exact h
 · split at h
   · rename_i q m q' n _ _ hq
     have hq:=of_decide_eq_true hq
     subst hq
     obtain ⟨hn,h⟩:=h
     have e:binOp .rem t (.int q m) (.int q n) =pure (.int q (m.tmod n)):=by simp only[binOp,Op.intDiv,if_neg hn,ne_eq,not_true_eq_false,if_false]
     rw[e];exact h
   · exact h.elim
 · split at h
   · rename_i q m q' n _ _ hq
     have hq:=of_decide_eq_true hq
     subst hq
     obtain ⟨hn,h⟩:=h
     have e:binOp .quo t (.int q m) (.int q n) =pure (.int q (q.wrap (m.tdiv n))):=by simp only[binOp,Op.intDiv,if_neg hn,ne_eq,not_true_eq_false,if_false]
     rw[e];exact h
   · exact h.elim
 · rename_i q m q' n _
   obtain ⟨hn,h⟩:=h
   have e:binOp .shl t (.int q m) (.int q' n) =pure (.int q (q.wrap (m * 2 ^ min n.toNat q.bits))):=by simp only[binOp,Op.shift,if_neg (Int.not_lt.2 hn)]
   rw[e];exact h
 · rename_i q m q' n _
   obtain ⟨hn,h⟩:=h
   have e:binOp .shr t (.int q m) (.int q' n) =pure (.int q (m.fdiv (2 ^ min n.toNat q.bits))):=by simp only[binOp,Op.shift,if_neg (Int.not_lt.2 hn)]
   rw[e];exact h
 · exact h
theorem a_ea {b:BinOp}{t:TypeId}{x y:Operand}{v w:Value}{put:E→Prop}(h:l_a P b t x y v w put) :b_q (c_9 P (do eqGuard b t x y v w;binOp b t v w)) put:=by
 unfold l_a at h
 split at h
 · rename_i s u
   obtain ⟨hn,h⟩:=h
   have e:binOp .add t (.string s) (.string u) =pure (.string (s ++ u)):=by
     have hg:¬(((s.size+u.size:Nat) :Int) > IntKind.i64.max):=by
       have:IntKind.i64.max=9223372036854775807:=rfl
       omega
     simp only[binOp,Op.stringOp,if_neg hg]
   rw[e];exact h
 · exact a_bx h
theorem a_jl (hd:∀d,o.dst=some d→d < n)(hdef:a.defers=df)(h:RelX P k0 β0 σ0 W0 n k β γ a.tmps W env σ)(b:BinOp)(t u:TypeId)(x y:Operand)
   (hop:o.op= .binOp b t x y u)
   (hs:match u_c (opE env x),u_c (opE env y) with
     | some v,some w=>l_a P b t x y v w fun e=>K (a_n env o.dst e) σ
     | _,_=>False) :
   o.wp P a W (Out df P k0 β0 σ0 W0 n (Dst o) env K) Q:=by
 split at hs
 · rename_i v w hv hw
   have e1:=s_s (a_o h a rfl x 0).1 hv
   have e2:=s_s (a_o h a rfl y 0).1 hw
   refine g_i hd hdef h (fun r hr=>?_) (a_ea hs)
   simp only[execOp,hop,e1,e2,Sem.run_bind] at hr ⊢
   rw[hr];rfl
 · exact hs.elim
def NKof (P:Program)(t:TypeId) :NK→Prop
 | .sl=>∃e,P.underlying t=some (.slice e)
 | .pt=>∃e,P.underlying t=some (.pointer e)
 | .fn=>∃x y z,P.underlying t=some (.func x y z)
 | .mp=>∃x y,P.underlying t=some (.map x y)
 | .ic=>∃x,P.underlying t=some (.interface x)
theorem a_lg {nk:NK}{v:Value}{d:D}{b:Bool}(hv:V k β W v d)(hd:j_2 nk d b){t:TypeId}{c:Value}(hc:q_n nk c=true)
   (hu:NKof P t nk) (m:Nat) :(Op.equalIn (m+1) t v c).run P W= .ok b W:=by
 unfold q_n at hc
 split at hc <;> first | (cases hc;done) | skip
 · obtain ⟨e,hu⟩:=hu
   cases d <;> simp only[j_2] at hd <;> subst hd <;> cases hv <;> simp[Op.equalIn,run_underlying hu]
 · obtain ⟨e,hu⟩:=hu
   cases d <;> simp only[j_2] at hd <;> subst hd <;> cases hv <;> simp[Op.equalIn,run_underlying hu]
 · obtain ⟨e,f,g,hu⟩:=hu
   cases d <;> simp only[j_2] at hd <;> subst hd <;> cases hv <;> simp[Op.equalIn,run_underlying hu]
 · obtain ⟨e,f,hu⟩:=hu
   cases d <;> simp only[j_2] at hd <;> subst hd <;> cases hv <;> simp[Op.equalIn,run_underlying hu]
 · obtain ⟨e,hu⟩:=hu
   cases d <;> simp only[j_2] at hd <;> subst hd <;> cases hv <;> simp[Op.equalIn,run_underlying hu]
theorem w_8 {v c:Value}{b:Bool}{t:TypeId}(h:∀m,(Op.equalIn (m+1) t v c).run P W= .ok b W)(hb1:∀q m,v≠ .int q m)(hb2:∀s,v≠ .string s)
   (hb3:∀q m,v≠ .float q m) (hb4:∀q m l,v≠ .complex q m l) :
   (binOp .eql t v c).run P W= .ok (.bool b) W∧(binOp .neq t v c).run P W= .ok (.bool !b) W:=by
 have h1:(Op.equal t v c).run P W= .ok b W:=h 9999
 constructor
 · unfold binOp
   split <;> simp_all
 · unfold binOp
   split <;> simp_all
theorem a_n4 {nk:NK}{v:Value}{d:D}{b:Bool}(hv:V k β W v d)(hd:j_2 nk d b){t:TypeId}{c:Value}(hc:q_n nk c=true)
   (hu:NKof P t nk) (x y:Operand) (hy:y= .const c) :
   (do eqGuard .eql t x y v c;binOp .eql t v c:Sem Value).run P W= .ok (.bool b) W∧(do eqGuard .neq t x y v c;binOp .neq t v c:Sem Value).run P W= .ok (.bool !b) W:=by
 obtain ⟨h1,h2⟩:=w_8 (a_lg hv hd hc hu) (by intro q m e;subst e;cases hv;cases nk <;> simp[j_2] at hd) (by intro s e;subst e;cases hv;cases nk <;> simp[j_2] at hd)
   (by intro q m e;subst e;cases hv) (by intro q m l e;subst e;cases hv)
 have g:∀op,(eqGuard op t x y v c).run P W= .ok () W:=by
   intro op
   subst hy
   cases op <;> first | rfl | (cases hv <;> first | rfl | (cases c <;> first | rfl | (cases x <;> rfl)))
 simp[g,h1,h2]
theorem k_n (hd:∀d,o.dst=some d→d < n)(hdef:a.defers=df)(h:RelX P k0 β0 σ0 W0 n k β γ a.tmps W env σ)(nk:NK)(b:BinOp)(t u:TypeId)(x y:Operand)
   (hop:o.op= .binOp b t x y u)
   (hu:NKof P t nk)
   (hs:dNil nk b (opE env x) y fun e=>K (a_n env o.dst e) σ) :
   o.wp P a W (Out df P k0 β0 σ0 W0 n (Dst o) env K) Q:=by
 obtain ⟨hx,_⟩:=a_o h a rfl x 0
 have key : ∀ (neq : Bool) (c : Value), y = .const c → q_n nk c = true → (b = if neq then .neq else .eql) → t_6 nk neq (opE env x) (fun e => K (a_n env o.dst e) σ) →
     o.wp P a W (Out df P k0 β0 σ0 W0 n (Dst o) env K) Q:=by
   intro neq c hy hc hb hs
   have fin : ∀ (d : D) (r : Bool) (e : E), V k β W (a.eval x) d → j_2 nk d r → e = .val (.one (.bool (r != neq))) → K (a_n env o.dst e) σ →
       o.wp P a W (Out df P k0 β0 σ0 W0 n (Dst o) env K) Q:=by
     intro d r e hv hr he hK
     obtain ⟨r1,r2⟩:=a_n4 hv hr hc hu x y hy
     have hcv:a.eval y=c:=by rw[hy];rfl
     refine a_v (e:=e) (v:= .bool (r != neq)) hd hdef h ?_ ?_ ?_ hK
     · subst hb
       cases neq with
       | false=>
         simp only[Sem.run_bind] at r1
         simp only[execOp,hop,hcv,Sem.run_bind,Bool.false_eq_true,if_false]
         rw[r1];simp
       | true=>
         simp only[Sem.run_bind] at r2
         simp only[execOp,hop,hcv,Sem.run_bind,if_true]
         rw[r2];simp
     · subst he;rintro cs (h | h) <;> cases h
     · subst he;exact V.bool _
   unfold t_6 at hs
   split at hs
   · rename_i s off he
     rw[he] at hx
     cases nk <;> first | exact hs.elim | skip
     obtain ⟨e,hu⟩:=hu
     have hcv:a.eval y=c:=by rw[hy];rfl
     have hc':c= .pointer none:=by unfold q_n at hc;split at hc <;> first | rfl | contradiction
     have hxv:a.eval x= .pointer (some ⟨γ s,off,none⟩):=hx
     have hr:∀m,(Op.equalIn (m+1) t (.pointer (some ⟨γ s,off,none⟩)) (.pointer none)).run P W= .ok false W:=fun m=>by simp[Op.equalIn,run_underlying hu]
     obtain ⟨r1,r2⟩:=w_8 hr (by intro q m e;cases e) (by intro s e;cases e) (by intro q m e;cases e) (by intro q m l e;cases e)
     refine a_v (e:= .val (.one (.bool neq))) (v:= .bool neq) hd hdef h ?_ (by rintro cs (h | h) <;> cases h) (V.bool _) hs
     have g:∀op,(eqGuard op t x y (.pointer (some ⟨γ s,off,none⟩)) (.pointer none)).run P W= .ok () W:=by intro op;cases op <;> rfl
     subst hb
     cases neq with
     | false=>simp[execOp,hop,hcv,hc',hxv,g,r1]
     | true=>simp[execOp,hop,hcv,hc',hxv,g,r2]
   · rename_i s i off he
     rw[he] at hx
     cases nk <;> first | exact hs.elim | skip
     exact fin _ false _ hx rfl rfl (by cases neq <;> exact hs)
   · rename_i d he
     rw[he] at hx
     obtain ⟨r,hr,hs⟩:=hs
     exact fin d r _ hx hr rfl hs
   · exact hs.elim
 unfold dNil at hs
 split at hs
 · split at hs
   · rename_i c _ hc;exact key false c rfl hc rfl hs
   · exact hs.elim
 · split at hs
   · rename_i c _ hc;exact key true c rfl hc rfl hs
   · exact hs.elim
 · exact hs.elim
end
end
section
section
variable {df:List Deferred} {P:Program} {k0:Nat→Prop} {β0:Bk} {σ0:Store} {W0:World} {n:Nat} {k:Nat→Prop} {β:Bk} {γ:Nat→Nat}
 {tmps:Array Value} {W W':World} {env:Env} {σ σ':Store} {a:Act} {o:Oper} {Q:Exit→Act→World→Prop} {K:a_4}
theorem j_f {zs:List Value} :∀{f:List D→List D} {p:List D→Prop},t_b zs f p→∃cs,cs.length=zs.length∧p (f cs):=by
 induction zs with
 | nil=>intro f p h;exact ⟨[],rfl,h⟩
 | cons z zs ih=>
   intro f p h
   cases z <;> (obtain ⟨m,h⟩:=h;obtain ⟨cs,h1,h2⟩:=ih h;exact ⟨_::cs,by simp[h1],h2⟩)
theorem p_s {t:TypeId}{b:Bool}(h:b_k P t=some b) :∃i,P.info? t=some i∧i.size=P.cellsOf t:=by
 unfold b_k Program.underlying at h
 cases hi:P.info? t with
 | some i=>exact ⟨i,rfl,by simp[Program.cellsOf,hi]⟩
 | none=>simp[hi] at h
theorem cell_of_heap {b o':Nat}{arr:Array Value}{t:TypeId}{fr:Nat × Nat}(h:W.heap[b]? =some (.cells arr t fr)) :W.cell? ⟨b,o',none⟩ =arr[o']? :=by
 simp[World.cell?,h]
theorem j_l {t:TypeId}{agg:Bool}(hagg:b_k P t=some agg){b o':Nat}{vals:List Value}(hl:vals.length=P.cellsOf t)
   (hc:∀(j:Nat) v,vals[j]? =some v→W.cell? ⟨b,o'+j,none⟩ =some v) :
   (agg=true→(loadVar t ⟨b,o',none⟩).run P W= .ok (.agg vals.toArray) W)∧(∀u,agg=false→vals=[u]→(loadVar t ⟨b,o',none⟩).run P W= .ok u W):=by
 obtain ⟨i,hi,hs⟩:=p_s hagg
 constructor
 · intro he;subst he
   have h1:=run_loadCells_list (P:=P) W ⟨b,o',none⟩ vals (fun j v hv=>by rw[add_mk];exact hc j v hv)
   rw[hl] at h1
   simp[loadVar,i_m hagg,run_sizeOf W hi,h1]
 · intro u he hv;subst he;subst hv
   have:=hc 0 u rfl
   simp[loadVar,i_m hagg,load,Sem.run,show W.cell? ⟨b,o',none⟩ =some u from by simpa using this]
theorem a_ak (hd:∀d,o.dst=some d→d < n)(hdef:a.defers=df)(h:RelX P k0 β0 σ0 W0 n k β γ a.tmps W env σ)(t:TypeId)(x:Operand)
   (hop:o.op= .load t x) {agg:Bool} (hagg:b_k P t=some agg) {b o':Nat} (hx:a.eval x= .pointer (some ⟨b,o',none⟩)) {vals:List Value} {cs:List D} {e:E}
   (hl:vals.length=P.cellsOf t) (hc:∀(j:Nat) v,vals[j]? =some v→W.cell? ⟨b,o'+j,none⟩ =some v) (hv:VL k β W vals cs) (he:mkE agg cs=some e)
   (hK:K (a_n env o.dst e) σ) :o.wp P a W (Out df P k0 β0 σ0 W0 n (Dst o) env K) Q:=by
 obtain ⟨h1,h2,h3⟩:=a_le (γ:=γ) hv he 0
 obtain ⟨r1,r2⟩:=j_l hagg hl hc
 cases agg with
 | true=>
   refine a_v (v:= .agg vals.toArray) hd hdef h ?_ h2 (h1 _ (.inl ⟨rfl,rfl⟩)) hK
   simp[execOp,hop,Instr.loadAt,Instr.sureAddr,hx,r1 rfl]
 | false=>
   obtain ⟨u,hu⟩:=h3 rfl
   refine a_v (v:=u) hd hdef h ?_ h2 (h1 _ (.inr ⟨rfl,hu⟩)) hK
   simp[execOp,hop,Instr.loadAt,Instr.sureAddr,hx,r2 u rfl hu]
theorem a_ii (hs:SRel P k β W σ){v:Value}{s:D}{i off m:Nat}{row cs:List D}(hv:V k β W v (.el s i off))(hr:Row σ s i row)
   (hc:(row.drop off).take m=cs) (hl:cs.length=m) :
   ∃b o' vals,v= .pointer (some ⟨b,o',none⟩)∧vals.length=m∧VL k β W vals cs∧∀(j:Nat) u,vals[j]? =some u→W.cell? ⟨b,o'+j,none⟩ =some u:=by
 have hget:∀(j:Nat) d,cs[j]? =some d→j < m∧row[off+j]? =some d:=by
   intro j d hj
   have hlt:j < m:=by rw[←hl];exact (List.getElem?_eq_some_iff.1 hj).1
   rw[←hc,List.getElem?_take,if_pos hlt,List.getElem?_drop] at hj
   exact ⟨hlt,hj⟩
 cases hv with
 | elsl ad len cap es rows i off hsl hi=>
   cases hsl with
   | sl _ _ _ _ _ f h1 h2 h3 h4 h5 h6=>
     have hr:rows[i]? =some row:=hr
     refine ⟨_,_,(List.range m).map fun j=>f i (off+j),rfl,by simp,⟨by simp[hl],fun j u d hu hd=>?_⟩,fun j u hu=>?_⟩
     · obtain ⟨hlt,hd⟩:=hget j d hd
       simp[List.getElem?_map,List.getElem?_range hlt] at hu
       subst hu
       exact h6 i row (off+j) d hr hd
     · have hlt : j < m := by
         have:=(List.getElem?_eq_some_iff.1 hu).1
         simpa using this
       simp[List.getElem?_map,List.getElem?_range hlt] at hu
       subst hu
       have hj:j < cs.length:=by omega
       obtain ⟨_,hd⟩:=hget j cs[j] (List.getElem?_eq_getElem hj)
       have:=h5 i row (off+j) _ hr hd
       rw[←this]
       congr 2
       omega
 | elosl id i0 len i off bi hb hi=>
   obtain ⟨_,t,rows,hlive,hrow⟩:=hr
   obtain ⟨arr,g1,g2,g3,g4,g5,g6,g7⟩:=hs.obj id bi t rows hb hlive
   have hex:∀(j:Nat) d,cs[j]? =some d→∃u,arr[(i0+i) * bi.es+ (off+j)]? =some u∧V k β W u d:=fun j d hd=>g7 _ row _ d hrow (hget j d hd).2
   refine ⟨_,_,(List.range m).map fun j=>(arr[(i0+i) * bi.es+ (off+j)]?).getD undef,rfl,by simp,⟨by simp[hl],fun j u d hu hd=>?_⟩,fun j u hu=>?_⟩
   · obtain ⟨hlt,_⟩:=hget j d hd
     simp only[List.getElem?_map,List.getElem?_range hlt,Option.map_some,Option.some.injEq] at hu
     obtain ⟨w,hw,hV⟩:=hex j d hd
     rw[hw] at hu;simp at hu;subst hu;exact hV
   · have hlt : j < m := by
       have:=(List.getElem?_eq_some_iff.1 hu).1
       simpa using this
     have hj:j < cs.length:=by omega
     simp only[List.getElem?_map,List.getElem?_range hlt,Option.map_some,Option.some.injEq] at hu
     obtain ⟨w,hw,hV⟩:=hex j cs[j] (List.getElem?_eq_getElem hj)
     rw[hw] at hu;simp at hu;subst hu
     rw[cell_of_heap g1,Nat.add_assoc];exact hw
theorem a_m1 (hd:∀d,o.dst=some d→d < n)(hdef:a.defers=df)(h:RelX P k0 β0 σ0 W0 n k β γ a.tmps W env σ)(t:TypeId)(x:Operand)
   (hop:o.op= .load t x) (hs:j_c P t (opE env x) env σ fun e=>K (a_n env o.dst e) σ) :
   o.wp P a W (Out df P k0 β0 σ0 W0 n (Dst o) env K) Q:=by
 obtain ⟨hx,_⟩:=a_o h a rfl x 0
 unfold j_c at hs
 split at hs
 · rename_i agg zs hagg hz
   have hzl:zs.length=P.cellsOf t:=by
     unfold a_oi at hz
     split at hz
     · split at hz
       · rename_i he;injection hz with hz;subst hz;exact of_decide_eq_true he
       · cases hz
     · cases hz
   obtain ⟨e',hp,hev,he'⟩:=j_x hx hs
   rcases he' with ⟨s,off,rfl⟩ | ⟨s,i,off,rfl⟩
   · have key : ∀ cs, f_f (get env s) cs → o_i agg zs.length cs off (fun e => K (a_n env o.dst e) σ) → o.wp P a W (Out df P k0 β0 σ0 W0 n (Dst o) env K) Q := by
       intro cs hb hl
       obtain ⟨_,_,_,_,arr,t',hheap,_,hVL⟩:=h.box s cs hb
       unfold o_i at hl
       split at hl
       · rename_i hle
         have hle:=of_decide_eq_true hle
         split at hl
         · rename_i e he
           have hsz:arr.size=cs.length:=by simpa using hVL.1
           refine a_ak hd hdef h t x hop hagg (b:=γ s) (o':=off) hev (vals:=(arr.toList.drop off).take zs.length) ?_ (fun j v hv=>?_) (hVL.drop_take off zs.length) he hl
           · simp;omega
           · rw[cell_of_heap hheap]
             rw[List.getElem?_take] at hv
             split at hv
             · simpa using hv
             · cases hv
         · exact hl.elim
       · exact hl.elim
     simp only at hp
     split at hp
     · rename_i cs hg;exact key cs (.inl hg) hp
     · rename_i cs hg;exact key cs (.inr hg) hp
     · exact hp.elim
   · obtain ⟨row,hr,hp⟩:=hp
     obtain ⟨cs,hl,hc,hp⟩:=j_f hp
     split at hp
     · rename_i e he
       obtain ⟨b,o',vals,hv,hvl,hVL,hcell⟩:=a_ii h.srel hev hr hc hl
       exact a_ak hd hdef h t x hop hagg hv (hvl.trans hzl) hcell hVL he hp
     · exact hp.elim
 · exact hs.elim
theorem a_d3 (hd:∀d,o.dst=some d→d < n)(hdef:a.defers=df)(h:RelX P k0 β0 σ0 W0 n k β γ a.tmps W env σ)(x:Operand)
   (hop:o.op= .nilCheck x) (hs:i_i (opE env x) fun e=>K (a_n env o.dst e) σ) :
   o.wp P a W (Out df P k0 β0 σ0 W0 n (Dst o) env K) Q:=by
 obtain ⟨hx,_⟩:=a_o h a rfl x 0
 have key:∀{v:Value},a.eval x=v→(∃p,v= .pointer (some p))∨(∃f b c,v= .func (.func f) b c)→(execOp a.eval o).run P W= .ok (.value v) W:=by
   intro v hv h
   rcases h with ⟨p,rfl⟩ | ⟨f,b,c,rfl⟩ <;> simp[execOp,hop,hv]
 unfold i_i at hs
 split at hs
 · rename_i s off he
   rw[he] at hx
   exact a_v (e:= .bp s off) hd hdef h (key hx (.inl ⟨_,rfl⟩)) (by rintro cs (h | h) <;> cases h) rfl hs
 · rename_i s i off he
   rw[he] at hx
   have hp:∃p,a.eval x= .pointer (some p):=by
     have hx:V k β W (a.eval x) (.el s i off):=hx
     generalize a.eval x=v at hx
     cases hx <;> exact ⟨_,rfl⟩
   exact a_v (e:= .el s i off) hd hdef h (key rfl (.inl hp)) (by rintro cs (h | h) <;> cases h) hx hs
 · rename_i d he
   rw[he] at hx
   obtain ⟨hn,hs⟩:=hs
   have hx:V k β W (a.eval x) d:=hx
   have hp:(∃p,a.eval x= .pointer (some p))∨(∃f b c,a.eval x= .func (.func f) b c):=by
     generalize a.eval x=v at hx
     cases hx <;> simp[a_l] at hn <;> simp
   exact a_v (e:= .val (.one d)) hd hdef h (key rfl hp) (by rintro cs (h | h) <;> cases h) hx hs
 · exact hs.elim
theorem a_cm (hd:∀d,o.dst=some d→d < n)(hdef:a.defers=df)(h:RelX P k0 β0 σ0 W0 n k β γ a.tmps W env σ)(t:TypeId)(x ix:Operand)
   (hop:o.op= .indexAddr t x ix) (hs:e_k P t (opE env x) (opE env ix) σ fun e=>K (a_n env o.dst e) σ) :
   o.wp P a W (Out df P k0 β0 σ0 W0 n (Dst o) env K) Q:=by
 obtain ⟨hx,_⟩:=a_o h a rfl x 0
 obtain ⟨hix,_⟩:=a_o h a rfl ix 0
 unfold e_k at hs
 split at hs
 · rename_i el q m hu hi
   rw[hi] at hix
   have hix:=V.inv_int hix
   split at hs
   · rename_i s info he hinf
     rw[he] at hx
     have hx:V k β W (a.eval x) s:=hx
     obtain ⟨len,hI,h0,hlt,hK⟩:=hs
     obtain ⟨j,rfl⟩:=Int.eq_ofNat_of_zero_le h0
     rw[Int.toNat_natCast] at hK
     have hj:j < len:=by omega
     have hrun : ∀ (ad : Addr) (len' cap : Nat), a.eval x = .slice (some ad) len' cap → j < len' → ad.spot = none →
         (execOp a.eval o).run P W= .ok (.value (.pointer (some ⟨ad.block,ad.off+j * P.cellsOf el,none⟩))) W:=by
       intro ad len' cap hv hlt' hsp
       have e1:(0:Int)≤(j:Int)∧(j:Int) < (len':Int):=by omega
       have e2:ad.add (j * P.cellsOf el) =⟨ad.block,ad.off+j * P.cellsOf el,none⟩:=by
         obtain ⟨b,o',sp⟩:=ad;simp at hsp;subst hsp;exact add_mk _ _ _
       simp[execOp,hop,Instr.indexAt,hix,hv,asIntOf,run_underlying hu,e1,run_sizeOf W hinf,e2]
       intro hh;omega
     cases s with
     | sl es rows=>
       obtain ⟨rfl,rfl⟩:=hI
       generalize hv:a.eval x=v at hx
       have hx':=hx
       cases hx with
       | sl ad len' cap _ _ f h1 h2 h3 h4 h5 h6=>
         have hne:rows≠[]:=by intro e;subst e;simp at hj
         have hV:=V.elsl ad len' cap _ rows j 0 hx' hj
         exact a_v (e:= .el (.sl _ rows) j 0) hd hdef h (hrun ad len' cap hv (by omega) (h1 hne).2) (by rintro cs (h | h) <;> cases h) hV hK
     | osl id i0 len'=>
       obtain ⟨rfl,t',rows,hlive,hes⟩:=hI
       generalize hv:a.eval x=v at hx
       cases hx with
       | osl _ _ _ cap ad bi hb ha hc hsz hcm=>
         have hcap:0 < cap:=by omega
         have ha:=ha hcap
         subst ha
         obtain ⟨_,_,_,hes',_⟩:=h.srel.obj id bi t' rows hb hlive
         have hV:=V.elosl (k:=k) (W:=W) id i0 len j 0 bi hb hj
         refine a_v (e:= .el (.osl id i0 len) j 0) hd hdef h (hrun _ len cap hv hj rfl) (by rintro cs (h | h) <;> cases h) ?_ hK
         show V k β W _ _
         have:(⟨bi.blk,i0 * bi.es+j * P.cellsOf el,none⟩ :Addr) =⟨bi.blk,(i0+j) * bi.es+0,none⟩:=by
           rw[←hes,hes',Nat.add_mul];rfl
         rw[this];exact hV
     | _=>exact hI.elim
   · exact hs.elim
 · rename_i len el q m hu hi
   rw[hi] at hix
   have hix:=V.inv_int hix
   split at hs
   rotate_left
   · exact hs.elim
   rename_i info hinf
   obtain ⟨e',hp,hev,he'⟩:=j_x hx hs
   have hrun : ∀ b o' (j : Nat), m = j → a.eval x = .pointer (some ⟨b, o', none⟩) → j < len →
       (execOp a.eval o).run P W= .ok (.value (.pointer (some ⟨b,o'+j * P.cellsOf el,none⟩))) W:=by
     intro b o' j hm hv hlt
     have e1:(0:Int)≤(j:Int)∧(j:Int) < (len:Int):=by omega
     simp[execOp,hop,Instr.indexAt,hix,hm,hv,asIntOf,run_underlying hu,Instr.sureAddr,e1,run_sizeOf W hinf,add_mk]
     intro hh;omega
   rcases he' with ⟨s,off,rfl⟩ | ⟨s,i,off,rfl⟩
   · obtain ⟨h0,hlt,hK⟩:=hp
     obtain ⟨j,rfl⟩:=Int.eq_ofNat_of_zero_le h0
     rw[Int.toNat_natCast] at hK
     exact a_v (e:= .bp s (off+j * P.cellsOf el)) hd hdef h (hrun _ _ j rfl hev (by omega)) (by rintro cs (h | h) <;> cases h) rfl hK
   · obtain ⟨h0,hlt,hK⟩:=hp
     obtain ⟨j,rfl⟩:=Int.eq_ofNat_of_zero_le h0
     rw[Int.toNat_natCast] at hK
     obtain ⟨b,o',hv,hV⟩:=V.el_add hev (j * P.cellsOf el)
     exact a_v (e:= .el s i (off+j * P.cellsOf el)) hd hdef h (hrun _ _ j rfl hv (by omega)) (by rintro cs (h | h) <;> cases h) hV hK
 · exact hs.elim
end
end
section
section
variable {df:List Deferred} {P:Program} {k0:Nat→Prop} {β0:Bk} {σ0:Store} {W0:World} {n:Nat} {k:Nat→Prop} {β:Bk} {γ:Nat→Nat}
 {tmps:Array Value} {W W':World} {env:Env} {σ σ':Store} {a:Act} {o:Oper} {Q:Exit→Act→World→Prop} {K:a_4}
theorem VL.append {vs vs':List Value}{ds ds':List D}(h:VL k β W vs ds)(h':VL k β W vs' ds') :VL k β W (vs ++ vs') (ds ++ ds'):=by
 refine ⟨by simp[h.1,h'.1],fun i v d hv hd=>?_⟩
 have hl:=h.1
 by_cases hi:i < vs.length
 · rw[List.getElem?_append_left hi] at hv
   rw[List.getElem?_append_left (by omega)] at hd
   exact h.2 i v d hv hd
 · rw[List.getElem?_append_right (by omega)] at hv
   rw[List.getElem?_append_right (by omega),←hl] at hd
   exact h'.2 _ v d hv hd
theorem VL.take {vs:List Value}{ds:List D}(h:VL k β W vs ds)(i:Nat) :VL k β W (vs.take i) (ds.take i):=by
 simpa using h.drop_take 0 i
theorem VL.drop {vs:List Value}{ds:List D}(h:VL k β W vs ds)(i:Nat) :VL k β W (vs.drop i) (ds.drop i):=by
 have:=h.drop_take i vs.length
 rw[List.take_of_length_le (by simp),List.take_of_length_le (by simp[h.1])] at this
 exact this
theorem VL.patch {vs us:List Value}{ds es:List D}(h:VL k β W vs ds)(h':VL k β W us es)(off:Nat) :
   VL k β W (vs.take off ++ us ++ vs.drop (off+us.length)) (patch ds off es):=by
 unfold Fw.patch
 rw[h'.1]
 exact ((h.take off).append h').append (h.drop _)
theorem s_f {v:Value}{x:A}(h:VA k β W v x) :VL k β W v.cells.toList (b_j x)∧∃c,v.cells=c∧c.size=(b_j x).length:=by
 cases x with
 | one d=>
   have hc:=V.cells h
   refine ⟨?_,_,rfl,by rw[hc];rfl⟩
   rw[hc]
   refine ⟨rfl,fun i u e hu he=>?_⟩
   cases i with
   | zero=>simp at hu;simp[b_j] at he;subst hu he;exact h
   | succ i=>simp at hu
 | agg cs=>
   obtain ⟨vs,rfl,h⟩:=h
   exact ⟨h,_,rfl,by simpa[Value.cells,b_j] using h.1⟩
theorem c_2 {vs:List Value}{ds:List D}(h:VL k β W vs ds) :∀v ∈ vs,v.oneCell'=true:=by
 intro v hv
 obtain ⟨i,hi,rfl⟩:=List.getElem_of_mem hv
 have hd:i < ds.length:=by rw[←h.1];exact hi
 exact (h.2 i _ _ (List.getElem?_eq_getElem hi) (List.getElem?_eq_getElem hd)).cell1
theorem s_k {t:TypeId}{v:Value}{x:A}(hv:VA k β W v x)(hl:(b_j x).length=P.cellsOf t)(hp:0 < P.cellsOf t){g o':Nat}{arr:Array Value}{tt:TypeId}
   (hg:W.heap[g]? =some (.cells arr tt (0,0))) (hb:o'+ (b_j x).length≤arr.size) :
   (storeVar t ⟨g,o',none⟩ v).run P W= .ok () (W.setRow g (arr.toList.take o' ++ v.cells.toList ++ arr.toList.drop (o'+v.cells.toList.length)).toArray):=by
 obtain ⟨hVL,c,hc,hsz⟩:=s_f hv
 obtain ⟨i,hi,his⟩:=m_1 hp
 have h1:=run_storeCells_at (P:=P) g o' tt v.cells.toList 0 arr W hg (by rw[hVL.1];simpa using hb) (c_2 hVL)
 have hs:v.cells.size=P.cellsOf t:=by rw[hc,hsz,hl]
 simp only[Nat.add_zero] at h1
 simp[storeVar,run_sizeOf W hi,hs,h1]
theorem a_z (W:World)(g b:Nat)(c:Array Value)(h:b≠g) :(W.setRow g c).heap[b]? =W.heap[b]? :=setRow_other W g b c h
theorem SRel.other (h:SRel P k β W σ){g:Nat}(c:Array Value)(hk:¬k g)(hb:∀i bi,β i=some bi→bi.blk≠g) :SRel P k β (W.setRow g c) σ where
 gl:=h.gl.mono (fun _ h=>h) fun b hkb=>a_z _ _ _ _ (fun e=>by subst e;exact hk hkb)
 fin:=h.fin
 dom:=h.dom
 klt b hb:=by rw[setRow_size];exact h.klt b hb
 blt i bi hi:=by rw[setRow_size];exact h.blt i bi hi
 inj:=h.inj
 notk:=h.notk
 obj i bi t rows hi hs:=by
   obtain ⟨arr,h1,h2,h3,h4,h5,h6,h7⟩:=h.obj i bi t rows hi hs
   refine ⟨arr,by rw[a_z _ _ _ _ (hb i bi hi)];exact h1,h2,h3,h4,h5,h6,fun r row j d hr hj=>?_⟩
   obtain ⟨v,hv,hV⟩:=h7 r row j d hr hj
   exact ⟨v,hv,hV.mono (fun _ h=>h) (fun _ _ h=>h) (fun b hkb=>a_z _ _ _ _ (fun e=>by subst e;exact hk hkb))⟩
 omap i bi clock es hi hs:=by
   obtain ⟨ents,h1,h2,h3,h4,h5⟩:=h.omap i bi clock es hi hs
   refine ⟨ents,by rw[a_z _ _ _ _ (hb i bi hi)];exact h1,h2,h3,h4,fun r e b ks vs hr he=>?_⟩
   obtain ⟨hbo,ha,hv⟩:=h5 r e b ks vs hr he
   exact ⟨hbo,ha.mono (fun _ h=>h) (fun _ _ h=>h) (fun b hkb=>a_z _ _ _ _ (fun e=>by subst e;exact hk hkb)),hv.mono (fun _ h=>h) (fun _ _ h=>h) (fun b hkb=>a_z _ _ _ _ (fun e=>by subst e;exact hk hkb))⟩
theorem RelX.setBox (h:RelX P k0 β0 σ0 W0 n k β γ tmps W env σ){s:Nat}{cs:List D}(hs:get env s= .bx cs){c:List Value}{cs':List D}(hVL:VL k β W c cs') :
   RelX P k0 β0 σ0 W0 n k β γ tmps (W.setRow (γ s) c.toArray) (a_t env s (.bx cs')) σ:=by
 obtain ⟨h1,h2,h3,h4,arr,t,h5,h6,h7⟩:=h.box s cs (.inl hs)
 have hkeep:Keep k W (W.setRow (γ s) c.toArray):=fun b hb=>a_z _ _ _ _ (fun e=>h2 (e ▸ hb))
 exact {
   srel:=h.srel.other _ h2 h3
   slot:=fun s'=>by
     by_cases he:s'=s
     · subst he;rw[b_f]
       have:=h.slot s'
       rw[hs] at this
       exact this
     · rw[a_0 _ _ he];exact (h.slot s').mono (fun _ h=>h) (fun _ _ h=>h) hkeep
   box:=fun s' cs'' hb=>by
     by_cases he:s'=s
     · subst he;rw[b_f] at hb
       have hcs:cs''=cs':=by rcases hb with hb | hb <;> cases hb;rfl
       subst hcs
       refine ⟨by rw[setRow_size];exact h1,h2,h3,h4,c.toArray,t,setRow_heap _ _ _ _ _ _ h5,fun v hv=>?_,?_⟩
       · exact c_2 hVL v (by simpa using hv)
       · simpa using hVL.mono (fun _ h=>h) (fun _ _ h=>h) hkeep
     · rw[a_0 _ _ he] at hb
       obtain ⟨g1,g2,g3,g4,arr',t',g5,g6,g7⟩:=h.box s' cs'' hb
       refine ⟨by rw[setRow_size];exact g1,g2,g3,g4,arr',t',?_,g6,g7.mono (fun _ h=>h) (fun _ _ h=>h) hkeep⟩
       rw[a_z _ _ _ _ (fun e=>he (h.inj s' s cs'' cs hb (.inl hs) e))]
       exact g5
   inj:=fun s1 s2 c1 c2 hb1 hb2 he=>by
     have fix:∀s' c',f_f (get (a_t env s (.bx cs')) s') c'→∃c'',f_f (get env s') c'':=by
       intro s' c' hb
       by_cases he:s'=s
       · subst he;exact ⟨cs, .inl hs⟩
       · rw[a_0 _ _ he] at hb;exact ⟨c',hb⟩
     obtain ⟨d1,e1⟩:=fix s1 c1 hb1
     obtain ⟨d2,e2⟩:=fix s2 c2 hb2
     exact h.inj s1 s2 d1 d2 e1 e2 he
   ghost:=h.ghost
   frm:=⟨h.frm.os,h.frm.tape,h.frm.output,by rw[setRow_size];exact h.frm.size,fun b hb hn=>by
     rw[a_z _ _ _ _ (by omega)];exact h.frm.block b hb hn⟩
   size:=h.size }
theorem f_p {r q es j:Nat}(hj:j < es)(h:r < q) :r * es+j < q * es:=by
 have:(r+1) * es≤q * es:=Nat.mul_le_mul_right es h
 rw[Nat.add_mul] at this
 omega
theorem SRel.setRow (h:SRel P k β W σ){id:Nat}{bi:BI}(hb:β id=some bi){t:TypeId}{rows:List (List D)}(hl:σ id= .live t rows){r:Nat}{row:List D}
   (hr:rows[r]? =some row) {off:Nat} {us:List Value} {ys:List D} (hVL:VL k β W us ys) (hoff:off+ys.length≤row.length) {arr:Array Value}
   (ha:W.heap[bi.blk]? =some (.cells arr t (0,0))) :
   SRel P k β (W.setRow bi.blk (arr.toList.take (r * bi.es+off) ++ us ++ arr.toList.drop (r * bi.es+off+us.length)).toArray) (σ.set id (.live t (rows.set r (patch row off ys)))):=by
 have hnk:=h.notk id bi hb (by rw[hl];intro e;cases e)
 obtain ⟨arr',h1,h2,h3,h4,h5,h6,h7⟩:=h.obj id bi t rows hb hl
 have e1:arr'=arr:=by rw[ha] at h1;injection h1 with h1;injection h1 with h1;exact h1.symm
 subst e1
 have hkeep:∀c,Keep k W (W.setRow bi.blk c):=fun c b hb=>a_z _ _ _ _ (fun e=>hnk (e ▸ hb))
 have hrl:row.length=bi.es:=h6 r row hr
 have hrlt:r < rows.length:=(List.getElem?_eq_some_iff.1 hr).1
 have hfit:(r+1) * bi.es≤arr'.size:=Nat.le_trans (Nat.mul_le_mul_right _ hrlt) h4
 have hul:us.length=ys.length:=hVL.1
 have hend:r * bi.es+off+us.length≤arr'.size:=by rw[Nat.add_mul] at hfit;omega
 have hlen:(arr'.toList.take (r * bi.es+off) ++ us ++ arr'.toList.drop (r * bi.es+off+us.length)).length=arr'.size:=by simp;omega
 exact {
   gl:=h.gl.mono (fun _ h=>h) (hkeep _)
   fin:=by
     obtain ⟨N,hN⟩:=h.fin
     refine ⟨max N (id+1),fun i hi=>?_⟩
     rw[Store.set_ne _ _ (by omega)];exact hN i (by omega)
   dom:=fun i=>by
     by_cases he:i=id
     · subst he;rw[Store.set_same];simp[hb]
     · rw[Store.set_ne _ _ he];exact h.dom i
   klt:=fun b hb=>by rw[setRow_size];exact h.klt b hb
   blt:=fun i bi hi=>by rw[setRow_size];exact h.blt i bi hi
   inj:=fun i j b1 b2 hi hj h1' h2' he=>by
     refine h.inj i j b1 b2 hi hj (fun hd=>h1' ?_) (fun hd=>h2' ?_) he
     · have hne:i≠id:=by intro e;subst e;rw[hl] at hd;cases hd
       rw[Store.set_ne _ _ hne];exact hd
     · have hne:j≠id:=by intro e;subst e;rw[hl] at hd;cases hd
       rw[Store.set_ne _ _ hne];exact hd
   notk:=fun i b1 hi hd=>h.notk i b1 hi (fun hd'=>hd (by
     have hne:i≠id:=by intro e;subst e;rw[hl] at hd';cases hd'
     rw[Store.set_ne _ _ hne];exact hd'))
   obj:=fun i b1 t' rows' hi hs=>by
     by_cases he:i=id
     · subst he
       rw[Store.set_same] at hs
       injection hs with hs1 hs2
       subst hs1 hs2
       rw[hb] at hi;injection hi with hi;subst hi
       refine ⟨_,setRow_heap _ _ _ _ _ _ ha,by simp only[List.size_toArray,hlen];exact h2,h3,by simp only[List.size_toArray,hlen,List.length_set];exact h4,fun v hv=>?_,fun q row' hq=>?_,fun q row' j d hq hj=>?_⟩
       · simp only[List.mem_toArray,List.mem_append] at hv
         rcases hv with (hv | hv) | hv
         · exact h5 v (by have:=List.mem_of_mem_take hv;simpa using this)
         · exact c_2 hVL v hv
         · exact h5 v (by have:=List.mem_of_mem_drop hv;simpa using this)
       · rw[List.getElem?_set] at hq
         split at hq
         · rename_i hqe
           injection hq with hq;subst hq;unfold patch;simp;omega
         · exact h6 q row' hq
       · -- the cell,as0 it was or as0 it is written
         have hget : ∀ m, (arr'.toList.take (r * bi.es + off) ++ us ++ arr'.toList.drop (r * bi.es + off + us.length)).toArray[m]? =
             if m < r * bi.es+off then arr'[m]? else if m < r * bi.es+off+us.length then us[m - (r * bi.es+off)]? else arr'[m]? :=by
           intro m
           simp only[List.getElem?_toArray]
           by_cases c1:m < r * bi.es+off
           · rw[if_pos c1,List.getElem?_append_left (by simp;omega),List.getElem?_append_left (by simp;omega),List.getElem?_take,if_pos c1];simp
           · rw[if_neg c1]
             by_cases c2:m < r * bi.es+off+us.length
             · rw[if_pos c2,List.getElem?_append_left (by simp;omega),List.getElem?_append_right (by simp;omega)]
               congr 1;simp;omega
             · rw[if_neg c2,List.getElem?_append_right (by simp;omega),List.getElem?_drop]
               have:r * bi.es+off+us.length+ (m - (List.take (r * bi.es+off) arr'.toList ++ us).length) =m:=by simp;omega
               rw[this];simp
         rw[hget]
         rw[List.getElem?_set] at hq
         split at hq
         · rename_i hqe
           subst hqe
           injection hq with hq;subst hq
           unfold patch at hj
           by_cases c1:j < off
           · rw[List.getElem?_append_left (by simp;omega),List.getElem?_append_left (by simp;omega),List.getElem?_take,if_pos c1] at hj
             obtain ⟨v,hv,hV⟩:=h7 r row j d hr hj
             rw[if_pos (by omega)]
             exact ⟨v,hv,hV.mono (fun _ h=>h) (fun _ _ h=>h) (hkeep _)⟩
           · by_cases c2:j < off+ys.length
             · rw[List.getElem?_append_left (by simp;omega),List.getElem?_append_right (by simp;omega)] at hj
               rw[if_neg (by omega),if_pos (by omega)]
               have e2:j - (List.take off row).length=j - off:=by simp;omega
               rw[e2] at hj
               have e3:r * bi.es+j - (r * bi.es+off) =j - off:=by omega
               rw[e3]
               have hlt:j - off < us.length:=by omega
               exact ⟨_,List.getElem?_eq_getElem hlt,(hVL.2 _ _ _ (List.getElem?_eq_getElem hlt) hj).mono (fun _ h=>h) (fun _ _ h=>h) (hkeep _)⟩
             · rw[List.getElem?_append_right (by simp;omega),List.getElem?_drop] at hj
               have e2:off+ys.length+ (j - (List.take off row ++ ys).length) =j:=by simp;omega
               rw[e2] at hj
               obtain ⟨v,hv,hV⟩:=h7 r row j d hr hj
               rw[if_neg (by omega),if_neg (by omega)]
               exact ⟨v,hv,hV.mono (fun _ h=>h) (fun _ _ h=>h) (hkeep _)⟩
         · rename_i hqe
           obtain ⟨v,hv,hV⟩:=h7 q row' j d hq hj
           have hjl:j < bi.es:=by rw[←h6 q row' hq];exact (List.getElem?_eq_some_iff.1 hj).1
           refine ⟨v,?_,hV.mono (fun _ h=>h) (fun _ _ h=>h) (hkeep _)⟩
           rcases Nat.lt_or_gt_of_ne hqe with c | c
           · have:=f_p (r:=r) (q:=q) (es:=bi.es) (j:=off+us.length - 1) (by omega) c
             by_cases c0:off+us.length=0
             · rw[if_neg (by have:=Nat.mul_le_mul_right bi.es (Nat.le_of_lt c);omega),if_neg (by have:=Nat.mul_le_mul_right bi.es (Nat.le_of_lt c);omega)];exact hv
             · rw[if_neg (by omega),if_neg (by omega)];exact hv
           · have:=f_p hjl c
             rw[if_pos (by omega)];exact hv
     · rw[Store.set_ne _ _ he] at hs
       obtain ⟨arr2,g1,g2,g3,g4,g5,g6,g7⟩:=h.obj i b1 t' rows' hi hs
       have hne:b1.blk≠bi.blk:=fun e=>he (h.inj i id b1 bi hi hb (by rw[hs];intro e;cases e) (by rw[hl];intro e;cases e) e)
       refine ⟨arr2,by rw[a_z _ _ _ _ hne];exact g1,g2,g3,g4,g5,g6,fun q row' j d hq hj=>?_⟩
       obtain ⟨v,hv,hV⟩:=g7 q row' j d hq hj
       exact ⟨v,hv,hV.mono (fun _ h=>h) (fun _ _ h=>h) (hkeep _)⟩
   omap:=fun i b1 clock es hi hs=>by
     have he:i≠id:=by intro e;subst e;rw[Store.set_same] at hs;cases hs
     rw[Store.set_ne _ _ he] at hs
     obtain ⟨ents,g1,g2,g3,g4,g5⟩:=h.omap i b1 clock es hi hs
     have hne:b1.blk≠bi.blk:=fun e=>he (h.inj i id b1 bi hi hb (by rw[hs];intro e;cases e) (by rw[hl];intro e;cases e) e)
     refine ⟨ents,by rw[a_z _ _ _ _ hne];exact g1,g2,g3,g4,fun q e b ks vs hq he=>?_⟩
     obtain ⟨hbo,ha,hv⟩:=g5 q e b ks vs hq he
     exact ⟨hbo,ha.mono (fun _ h=>h) (fun _ _ h=>h) (hkeep _),hv.mono (fun _ h=>h) (fun _ _ h=>h) (hkeep _)⟩ }
end
end
section
section
variable {df:List Deferred} {P:Program} {k0:Nat→Prop} {β0:Bk} {σ0:Store} {W0:World} {n:Nat} {k:Nat→Prop} {β:Bk} {γ:Nat→Nat}
 {tmps:Array Value} {W W':World} {env:Env} {σ σ':Store} {a:Act} {o:Oper} {Q:Exit→Act→World→Prop} {K:a_4}
theorem u_j {dst:Option Tmp}{e:E}{s:Nat}(h:dst≠some s) :get (a_n env dst e) s=get env s:=by
 cases dst with
 | none=>rfl
 | some d=>exact a_0 _ _ (fun e=>h (by rw[e]))
theorem a_ma (hd:∀d,o.dst=some d→d < n)(hdef:a.defers=df)(h:RelX P k0 β0 σ0 W0 n k β γ a.tmps W env σ)(t:TypeId)(p x:Operand)
   (hop:o.op= .store t p x) (hs:x_k P o.dst t (opE env p) (toA (opE env x)) env σ K) :
   o.wp P a W (Out df P k0 β0 σ0 W0 n (Dst o) env K) Q:=by
 obtain ⟨hp,_⟩:=a_o h a rfl p 0
 obtain ⟨hx,_⟩:=a_o h a rfl x 0
 unfold x_k at hs
 split at hs
 · rename_i y hy
   have hv:=h_o hx hy
   split at hs
   · rename_i hsz
     obtain ⟨hsz,hpos⟩:=of_decide_eq_true hsz
     obtain ⟨hVL,c,hc,hcs⟩:=s_f hv
     obtain ⟨e',hp',hev,he'⟩:=j_x hp hs
     rcases he' with ⟨s,off,rfl⟩ | ⟨s,i,off,rfl⟩
     · simp only at hp'
       split at hp'
       · rename_i cs hg
         split at hp'
         · rename_i hle
           have hle:=of_decide_eq_true hle
           obtain ⟨h1,h2,h3,h4,arr,tt,h5,h6,h7⟩:=h.box s cs (.inl hg)
           have hasz:arr.size=cs.length:=by simpa using h7.1
           have hrun:=s_k hv hsz hpos h5 (o':=off) (by omega)
           have hX:=h.setBox hg (h7.patch hVL off)
           refine n_0 (W':=W.setRow (γ s) (arr.toList.take off ++ (a.eval x).cells.toList ++ arr.toList.drop (off+ (a.eval x).cells.toList.length)).toArray) ?_ ?_
           · have hev:a.eval p= .pointer (some ⟨γ s,off,none⟩):=hev
             simp only[execOp,hop,Instr.storeAt,Instr.sureAddr,hev]
             simp[hrun]
           · obtain ⟨env',σ',q1,q2,_⟩:=c_f (a:=a) (K:=fun env' σ'=>env'=a_n (a_t env s (E.bx (patch cs off (b_j y)))) o.dst .undef∧σ'=σ) hd hdef hX (v:=undef) (e:= .undef) (by rintro cs (h | h) <;> cases h) trivial ⟨rfl,rfl⟩
             obtain ⟨q1,q4⟩:=q1
             subst q1 q4
             refine ⟨_,_,hp',q2,fun s' hs'=>?_⟩
             by_cases he:s'=s
             · subst he
               refine ⟨fun _ _=>⟨_,by rw[u_j hs',b_f]⟩,fun hnb=>absurd hg (hnb _)⟩
             · exact .of_eq (by rw[u_j hs'];exact a_0 _ _ he)
         · exact hp'.elim
       · exact hp'.elim
     · obtain ⟨id,i0,len,tt,rows,row,rfl,hi,hlive,hrow,hoff,hK⟩:=hp'
       have hev:V k β W (a.eval p) (.el (.osl id i0 len) i off):=hev
       generalize hpe:a.eval p=pv at hev
       cases hev with
       | elosl _ _ _ _ _ bi hb hi'=>
         obtain ⟨arr,g1,g2,g3,g4,g5,g6,g7⟩:=h.srel.obj id bi tt rows hb hlive
         have hrl:row.length=bi.es:=g6 _ row hrow
         have hrlt:i0+i < rows.length:=(List.getElem?_eq_some_iff.1 hrow).1
         have hfit:(i0+i+1) * bi.es≤arr.size:=Nat.le_trans (Nat.mul_le_mul_right _ hrlt) g4
         have hend:(i0+i) * bi.es+off+ (b_j y).length≤arr.size:=by rw[Nat.add_mul _ 1] at hfit;omega
         have hrun:=s_k hv hsz hpos g1 (o':=(i0+i) * bi.es+off) hend
         have hS:=h.srel.setRow hb hlive hrow hVL hoff g1
         have hX := h.step hS ⟨fun _ h => h, fun _ h => .inl h, fun _ _ h => h, fun _ _ h => .inl h, fun j hj => by
             rw[Store.set_ne _ _ (by intro e;subst e;rw[hlive] at hj;cases hj)];exact hj⟩
           ⟨rfl,rfl,rfl,by rw[setRow_size];exact Nat.le_refl _,fun b hbl hn=>a_z _ _ _ _ (fun e=>hn id bi hb (by rw[hlive];intro e;cases e) e.symm)⟩
         refine n_0 ?_ (c_f hd hdef hX (v:=undef) (e:= .undef) (by rintro cs (h | h) <;> cases h) trivial hK)
         simp only[execOp,hop,Instr.storeAt,Instr.sureAddr,hpe]
         simp[hrun]
   · exact hs.elim
 · exact hs.elim
theorem RelX.newBox (h:RelX P k0 β0 σ0 W0 n k β γ tmps W env σ){d:Nat}(hd:d < n)(hr:∀s off,get env s≠ .bp d off){arr:Array Value}{cs:List D}(t:TypeId)
   (hVL:VL k β W arr.toList cs) {e:E} (he:f_f e cs) :
   RelX P k0 β0 σ0 W0 n k β (fun s=>if s=d then W.heap.size else γ s) (tmps.setIfInBounds d (.pointer (some ⟨W.heap.size,0,none⟩)))
     { W with heap:=W.heap.push (.cells arr t (0,0)) } (a_t env d e) σ:=by
 have hg:=Grow.push W (.cells arr t (0,0))
 have h':=h.grow hg
 have hkeep:Keep k W { W with heap:=W.heap.push (.cells arr t (0,0)) } :=fun b hb=>hg.block b (h.srel.klt b hb)
 have hslot:∀s,s≠d→(tmps.setIfInBounds d (.pointer (some ⟨W.heap.size,0,none⟩))).getD s undef=tmps.getD s undef:=by
   intro s hs;simp[Array.getElem?_setIfInBounds_ne (fun e=>hs e.symm)]
 exact {
   srel:=h'.srel
   slot:=fun s=>by
     by_cases hs:s=d
     · subst hs
       rw[b_f]
       have e1:(tmps.setIfInBounds s (.pointer (some ⟨W.heap.size,0,none⟩))).getD s undef= .pointer (some ⟨W.heap.size,0,none⟩):=by simp[h.size,hd]
       rw[e1]
       rcases he with rfl | rfl <;> simp[EV]
     · rw[a_0 _ _ hs,hslot s hs]
       have:=h'.slot s
       have hnr:=hr s
       cases hge:get env s with
       | bp s' off=>
         rw[hge] at this
         have hne:s'≠d:=fun e=>hnr off (by rw[hge,e])
         simp only[EV,hne,if_false];exact this
       | bx c=>rw[hge] at this;simp only[EV,hs,if_false];exact this
       | cb c=>rw[hge] at this;simp only[EV,hs,if_false];exact this
       | _=>rw[hge] at this;exact this
   box:=fun s c hb=>by
     by_cases hs:s=d
     · subst hs
       rw[b_f] at hb
       have hc:c=cs:=by rcases hb with rfl | rfl <;> rcases he with he | he <;> cases he <;> rfl
       subst hc
       simp only[if_true]
       refine ⟨by simp,fun hk=>?_,fun i bi hi e=>?_,h.frm.size,arr,t,by simp,fun v hv=>?_,hVL.mono (fun _ h=>h) (fun _ _ h=>h) hkeep⟩
       · have:=h.srel.klt _ hk;omega
       · have:=h.srel.blt i bi hi;omega
       · exact c_2 hVL v (by simpa using hv)
     · rw[a_0 _ _ hs] at hb
       simp only[hs,if_false]
       exact h'.box s c hb
   inj:=fun s s' c c' hb hb' e=>by
     by_cases hs:s=d
     · by_cases hs':s'=d
       · rw[hs,hs']
       · rw[a_0 _ _ hs'] at hb'
         simp only[hs,hs',if_true,if_false] at e
         have:=(h.box s' c' hb').1;omega
     · rw[a_0 _ _ hs] at hb
       by_cases hs':s'=d
       · simp only[hs,hs',if_true,if_false] at e
         have:=(h.box s c hb).1;omega
       · rw[a_0 _ _ hs'] at hb'
         simp only[hs,hs',if_false] at e
         exact h.inj s s' c c' hb hb' e
   ghost:=h'.ghost
   frm:=h'.frm
   size:=by simp[h.size] }
theorem SRel.newRows (h:SRel P k β W σ){id:Nat}(hid:σ id= .free){arr:Array Value}{t:TypeId}{rows:List (List D)}(hr:∀(r:Nat) row,rows[r]? =some row→row.length=P.cellsOf t)
   (hsz:rows.length * P.cellsOf t≤arr.size) (h1:∀v ∈ arr,cell1 v=true)
   (hV:∀(r:Nat) row (j:Nat) d,rows[r]? =some row→row[j]? =some d→∃v,arr[r * P.cellsOf t+j]? =some v∧V k β W v d) :
   SRel P k (fun i=>if i=id then some ⟨W.heap.size,P.cellsOf t,arr.size⟩ else β i) { W with heap:=W.heap.push (.cells arr t (0,0)) } (σ.set id (.live t rows))∧
   Ghost k β σ W k (fun i=>if i=id then some ⟨W.heap.size,P.cellsOf t,arr.size⟩ else β i) (σ.set id (.live t rows)):=by
 have hg:=Grow.push W (.cells arr t (0,0))
 have hβ:β id=none:=by
   cases hb:β id with
   | none=>rfl
   | some bi=>exact absurd hid ((h.dom id).1 (by rw[hb];rfl))
 have hbb:∀i bi,β i=some bi→(if i=id then some (⟨W.heap.size,P.cellsOf t,arr.size⟩ :BI) else β i) =some bi:=by
   intro i bi hi
   have:i≠id:=fun e=>by subst e;rw[hβ] at hi;cases hi
   simp[this,hi]
 have hkeep:Keep k W { W with heap:=W.heap.push (.cells arr t (0,0)) } :=fun b hb=>hg.block b (h.klt b hb)
 refine ⟨?_,⟨fun _ h=>h,fun _ h=> .inl h,hbb,fun i bi hi=>?_,fun i hi=>?_⟩⟩
 · exact {
     gl:=h.gl.mono (fun _ h=>h) hkeep
     fin:=by
       obtain ⟨N,hN⟩:=h.fin
       refine ⟨max N (id+1),fun i hi=>?_⟩
       rw[Store.set_ne _ _ (by omega)];exact hN i (by omega)
     dom:=fun i=>by
       by_cases he:i=id
       · subst he;rw[Store.set_same];simp
       · rw[Store.set_ne _ _ he];simp only[he,if_false];exact h.dom i
     klt:=fun b hb=>Nat.lt_of_lt_of_le (h.klt b hb) hg.size
     blt:=fun i bi hi=>by
       by_cases he:i=id
       · simp only[he,if_true,Option.some.injEq] at hi;subst hi;simp
       · simp only[he,if_false] at hi;exact Nat.lt_of_lt_of_le (h.blt i bi hi) hg.size
     inj:=fun i j bi bj hi hj hd hd' e=>by
       by_cases he:i=id
       · by_cases he':j=id
         · rw[he,he']
         · simp only[he,if_true,Option.some.injEq] at hi
           simp only[he',if_false] at hj
           subst hi
           have:=h.blt j bj hj
           simp at e;omega
       · simp only[he,if_false] at hi
         by_cases he':j=id
         · simp only[he',if_true,Option.some.injEq] at hj
           subst hj
           have:=h.blt i bi hi
           simp at e;omega
         · simp only[he',if_false] at hj
           rw[Store.set_ne _ _ he] at hd
           rw[Store.set_ne _ _ he'] at hd'
           exact h.inj i j bi bj hi hj hd hd' e
     notk:=fun i bi hi hd=>by
       by_cases he:i=id
       · simp only[he,if_true,Option.some.injEq] at hi;subst hi
         intro hk;have:=h.klt _ hk;simp at this
       · simp only[he,if_false] at hi
         rw[Store.set_ne _ _ he] at hd
         exact h.notk i bi hi hd
     obj:=fun i bi t' rows' hi hs=>by
       by_cases he:i=id
       · subst he
         simp only[if_true,Option.some.injEq] at hi;subst hi
         rw[Store.set_same] at hs
         injection hs with e1 e2;subst e1 e2
         refine ⟨arr,by simp,rfl,rfl,hsz,h1,hr,fun r row j d hr' hj=>?_⟩
         obtain ⟨v,hv,hV'⟩:=hV r row j d hr' hj
         exact ⟨v,hv,hV'.mono (fun _ h=>h) hbb hkeep⟩
       · simp only[he,if_false] at hi
         rw[Store.set_ne _ _ he] at hs
         obtain ⟨arr',g1,g2,g3,g4,g5,g6,g7⟩:=h.obj i bi t' rows' hi hs
         refine ⟨arr',(hg.block _ (h.blt i bi hi)).trans g1,g2,g3,g4,g5,g6,fun r row j d hr' hj=>?_⟩
         obtain ⟨v,hv,hV'⟩:=g7 r row j d hr' hj
         exact ⟨v,hv,hV'.mono (fun _ h=>h) hbb hkeep⟩
     omap:=fun i bi clock es hi hs=>by
       have he:i≠id:=by intro e;subst e;rw[Store.set_same] at hs;cases hs
       simp only[he,if_false] at hi
       rw[Store.set_ne _ _ he] at hs
       obtain ⟨ents,g1,g2,g3,g4,g5⟩:=h.omap i bi clock es hi hs
       refine ⟨ents,(hg.block _ (h.blt i bi hi)).trans g1,g2,g3,g4,fun r e b ks vs hr' he'=>?_⟩
       obtain ⟨q0,q1,q2⟩:=g5 r e b ks vs hr' he'
       exact ⟨q0,q1.mono (fun _ h=>h) hbb hkeep,q2.mono (fun _ h=>h) hbb hkeep⟩ }
 · by_cases he:i=id
   · simp only[he,if_true,Option.some.injEq] at hi;subst hi;exact .inr (.inl (Nat.le_refl _))
   · simp only[he,if_false] at hi;exact .inl hi
 · have he:i≠id:=by intro e;subst e;rw[hid] at hi;cases hi
   rw[Store.set_ne _ _ he];exact hi
theorem SRel.someFree (h:SRel P k β W σ) :∃id,σ id= .free:=by
 obtain ⟨N,hN⟩:=h.fin
 exact ⟨N,hN N (Nat.le_refl _)⟩
theorem k_p (β:Bk)(σ:Store)(W:World)(o:Obj) :Frm β σ W { W with heap:=W.heap.push o } :=(Grow.push W o).frm β σ
theorem a_ev (hnd:ND env)(hnb:boxDst env o=false)(hd:∀d,o.dst=some d→d < n)(hdef:a.defers=df)(h:RelX P k0 β0 σ0 W0 n k β γ a.tmps W env σ){an:Ann}{t:TypeId}{cs:List D}{arr:Array Value}
   (hVL:VL k β W arr.toList cs) (hl:cs.length=P.cellsOf t)
   (hrun:(execOp a.eval o).run P W= .ok (.value (.pointer (some ⟨W.heap.size,0,none⟩))) { W with heap:=W.heap.push (.cells arr t (0,0)) })
   (hs:c_x an o.dst t (some cs) env σ K) :o.wp P a W (Out df P k0 β0 σ0 W0 n (Dst o) env K) Q:=by
 unfold c_x at hs
 split at hs
 · rename_i d cs' hdst hcs
   injection hcs with hcs;subst hcs
   have hdn:=hd d hdst
   split at hs
   · obtain ⟨id,hid⟩:=h.srel.someFree
     have hlen:arr.size=cs.length:=by simpa using hVL.1
     obtain ⟨hS,hG⟩:=h.srel.newRows hid (arr:=arr) (t:=t) (rows:= [cs])
       (by intro r row hr;cases r with
         | zero=>simp at hr;subst hr;exact hl
         | succ r=>simp at hr)
       (by simp;omega) (fun v hv=>c_2 hVL v (by simpa using hv))
       (by
         intro r row j d' hr hj
         cases r with
         | zero=>
           simp at hr;subst hr
           have hj':j < arr.size:=by rw[hlen];exact (List.getElem?_eq_some_iff.1 hj).1
           refine ⟨arr[j],by simp[hj'],hVL.2 j _ d' (by simp[hj']) hj⟩
         | succ r=>simp at hr)
     have hX:=h.step hS hG (k_p β σ W _)
     refine c_u hrun (c_f hd hdef hX (e:= .el (.osl id 0 1) 0 0) (by rintro cs (h | h) <;> cases h) ?_ (by rw[hdst];exact hs id hid))
     have:=V.elosl (k:=k) (β:=fun i=>if i=id then some ⟨W.heap.size,P.cellsOf t,arr.size⟩ else β i) (W:= { W with heap:=W.heap.push (.cells arr t (0,0)) }) id 0 1 0 0
       ⟨W.heap.size,P.cellsOf t,arr.size⟩ (by simp) (by omega)
     simp only[Nat.add_zero,Nat.zero_mul] at this
     exact this
   · have hr : ∀ s off, get env s ≠ .bp d off := fun s off hg => by
       have h1:=hnd s d off hg
       simp[boxDst,hdst,h1] at hnb
     have key:∀e,f_f e cs→K (a_t env d e) σ→o.wp P a W (Out df P k0 β0 σ0 W0 n (Dst o) env K) Q:=by
       intro e he hK
       have hX:=h.newBox hdn hr t hVL he
       refine c_u hrun ⟨a_t env d e,σ,hK,⟨by rw[hdst];exact hdef,k,β,(fun s=>if s=d then W.heap.size else γ s),?_⟩,fun s hs=>?_⟩
       · simp only[Act.put,hdst];exact hX
       · have hne:s≠d:=fun e=>hs (by show o.dst=some s;rw[hdst,e])
         exact .of_eq (a_0 _ _ hne)
     split at hs
     · exact key _ (.inr rfl) hs
     · exact key _ (.inl rfl) hs
 · exact hs.elim
theorem c_z {t:TypeId}{zs:List Value}(h:zeroCells P t=some zs) :∃i z,P.info? t=some i∧i.zero=some z∧zs=z.cells.toList:=by
 unfold zeroCells at h
 split at h
 · rename_i i hi
   split at h
   · rename_i z hz;injection h with h;exact ⟨i,z,hi,hz,h.symm⟩
   · cases h
 · cases h
theorem w_r {m:Nat}{x:Option (List D)}{cs:List D}(h:k_9 m x=some cs) :x=some cs∧cs.length=m:=by
 unfold k_9 at h
 split at h
 · split at h
   · rename_i he;injection h with h;subst h;exact ⟨rfl,of_decide_eq_true he⟩
   · cases h
 · cases h
theorem a_f8 (hnd:ND env)(hnb:boxDst env o=false)(hd:∀d,o.dst=some d→d < n)(hdef:a.defers=df)(h:RelX P k0 β0 σ0 W0 n k β γ a.tmps W env σ)(an:Ann)(t:TypeId)
   (hop:o.op= .alloc t) (hs:c_x an o.dst t (k_9 (P.cellsOf t) ((zeroCells P t).bind d_y)) env σ K) :o.wp P a W (Out df P k0 β0 σ0 W0 n (Dst o) env K) Q:=by
 cases hc:k_9 (P.cellsOf t) ((zeroCells P t).bind d_y) with
 | none=>rw[hc] at hs;unfold c_x at hs;split at hs <;> first | exact hs.elim | (rename_i h2;cases h2)
 | some cs=>
   rw[hc] at hs
   obtain ⟨h1,h2⟩:=w_r hc
   cases hz:zeroCells P t with
   | none=>rw[hz] at h1;cases h1
   | some zs=>
     rw[hz] at h1
     obtain ⟨i,z,hi,hzz,rfl⟩:=c_z hz
     refine a_ev hnd hnb (arr:=z.cells) hd hdef h (g_h h1) h2 ?_ hs
     simp[execOp,hop,Instr.alloc,zeroValue,run_typeInfo W hi,hzz,newVar,newRow]
theorem a_lr (hnd:ND env)(hnb:boxDst env o=false)(hd:∀d,o.dst=some d→d < n)(hdef:a.defers=df)(h:RelX P k0 β0 σ0 W0 n k β γ a.tmps W env σ)(an:Ann)(t:TypeId)(x:Operand)
   (hop:o.op= .box t x) (hs:c_x an o.dst t (k_9 (P.cellsOf t) ((toA (opE env x)).map b_j)) env σ K) :o.wp P a W (Out df P k0 β0 σ0 W0 n (Dst o) env K) Q:=by
 cases hc:k_9 (P.cellsOf t) ((toA (opE env x)).map b_j) with
 | none=>rw[hc] at hs;unfold c_x at hs;split at hs <;> first | exact hs.elim | (rename_i h2;cases h2)
 | some cs=>
   rw[hc] at hs
   obtain ⟨h1,h2⟩:=w_r hc
   cases hx:toA (opE env x) with
   | none=>rw[hx] at h1;cases h1
   | some y=>
     rw[hx] at h1
     injection h1 with h1
     subst h1
     have hv:=h_o (a_o h a rfl x 0).1 hx
     refine a_ev hnd hnb (arr:=(a.eval x).cells) hd hdef h (s_f hv).1 h2 ?_ hs
     simp[execOp,hop,Instr.box,newVar,newRow]
theorem a_eh (hd:∀d,o.dst=some d→d < n)(hdef:a.defers=df)(h:RelX P k0 β0 σ0 W0 n k β γ a.tmps W env σ)(f:FuncId)(xs ys:Array Operand)
   (hop:o.op= .makeFunc (.func f) xs ys) (hs:i_k f (k_i env xs.toList) (k_i env ys.toList) fun e=>K (a_n env o.dst e) σ) :
   o.wp P a W (Out df P k0 β0 σ0 W0 n (Dst o) env K) Q:=by
 unfold i_k at hs
 split at hs
 · rename_i as0 bs ha hb
   have key : ∀ (xs : Array Operand) (as0 : List A), k_i env xs.toList = some as0 →
       ∃g:Nat→Nat→Value,xs.map a.eval=o_e g (as0.map t_d)∧a_cj (as0.map t_d)∧∀(i:Nat) b cs (j:Nat) d,(as0.map t_d)[i]? =some (b,cs)→cs[j]? =some d→V k β W (g i j) d:=by
     intro xs as0 has
     obtain ⟨hl,hv⟩:=a_as h a rfl xs.toList as0 has
     have hget:∀(i:Nat) x,as0[i]? =some x→∃v,(xs.toList.map a.eval)[i]? =some v∧VA k β W v x:=by
       intro i x hx
       have hi:i < (xs.toList.map a.eval).length:=by simp only[List.length_map,hl];exact (List.getElem?_eq_some_iff.1 hx).1
       exact ⟨_,List.getElem?_eq_getElem hi,hv i _ x (List.getElem?_eq_getElem hi) hx⟩
     refine ⟨fun i j=>(((xs.toList.map a.eval).getD i undef).cells.toList).getD j undef,?_,?_,?_⟩
     · apply Array.ext'
       rw[Array.toList_map]
       unfold o_e
       apply List.ext_getElem?
       intro i
       by_cases hi:i < as0.length
       · obtain ⟨v,hv1,hv2⟩:=hget i as0[i] (List.getElem?_eq_getElem hi)
         rw[hv1]
         simp only[List.getElem?_map,List.getElem?_zipIdx,List.getElem?_eq_getElem hi,Option.map_some,Nat.zero_add]
         have e1:(xs.toList.map a.eval).getD i undef=v:=by simp[List.getD,hv1]
         rw[e1]
         cases hai:as0[i] with
         | one d=>
           rw[hai] at hv2
           have:=V.cells hv2
           simp[t_d,this]
         | agg cs=>
           rw[hai] at hv2
           obtain ⟨vs,rfl,hVL⟩:=hv2
           simp only[t_d,if_true,Option.some.injEq,Value.agg.injEq]
           apply Array.ext'
           apply List.ext_getElem?
           intro j
           have hsz:vs.size=cs.length:=by simpa using hVL.1
           by_cases hj:j < cs.length
           · simp[Value.cells,List.getElem?_map,List.getElem?_range hj,show j < vs.size by omega]
           · rw[List.getElem?_eq_none (by simp;omega),List.getElem?_eq_none (by simp;omega)]
       · rw[List.getElem?_eq_none (by simp only[List.length_map,hl];omega),List.getElem?_eq_none (by simp;omega)]
     · intro i b cs hi
       simp only[List.getElem?_map] at hi
       cases hx:as0[i]? with
       | none=>rw[hx] at hi;cases hi
       | some x=>
         rw[hx] at hi
         cases x with
         | one d=>simp[t_d] at hi;exact .inr ⟨d,hi.2.symm⟩
         | agg c=>simp[t_d] at hi;exact .inl hi.1
     · intro i b cs j d hi hj
       simp only[List.getElem?_map] at hi
       cases hx:as0[i]? with
       | none=>rw[hx] at hi;cases hi
       | some x=>
         rw[hx] at hi
         obtain ⟨v,hv1,hv2⟩:=hget i x hx
         have e1:(xs.toList.map a.eval).getD i undef=v:=by simp[List.getD,hv1]
         simp only[e1]
         cases x with
         | one d'=>
           simp[t_d] at hi
           obtain ⟨rfl,rfl⟩:=hi
           cases j with
           | succ j=>simp at hj
           | zero=>
             simp at hj;subst hj
             have:=V.cells hv2
             simp[this];exact hv2
         | agg c=>
           simp[t_d] at hi
           obtain ⟨rfl,rfl⟩:=hi
           obtain ⟨vs,rfl,hVL⟩:=hv2
           have hj':j < vs.toList.length:=by rw[hVL.1];exact (List.getElem?_eq_some_iff.1 hj).1
           have:(Value.agg vs).cells.toList.getD j undef=vs.toList[j]:=by simp[Value.cells];simp at hj';simp[hj']
           rw[this]
           exact hVL.2 j _ d (List.getElem?_eq_getElem hj') hj
   obtain ⟨g,e1,f1,v1⟩:=key xs as0 ha
   obtain ⟨g',e2,f2,v2⟩:=key ys bs hb
   refine a_v (e:= .val (.one (.fn f (as0.map t_d) (bs.map t_d)))) hd hdef h (v:= .func (.func f) (xs.map a.eval) (ys.map a.eval)) ?_ (by rintro cs (h | h) <;> cases h) ?_ hs
   · simp[execOp,hop,Instr.makeFunc]
   · exact V.fn f _ _ _ _ g g' e1 f1 v1 e2 f2 v2
 · exact hs.elim
end
end
section
section
variable {df:List Deferred} {P:Program} {k0:Nat→Prop} {β0:Bk} {σ0:Store} {W0:World} {n:Nat} {k:Nat→Prop} {β:Bk} {γ:Nat→Nat}
 {tmps:Array Value} {W W':World} {env:Env} {σ σ':Store} {a:Act} {o:Oper} {Q:Exit→Act→World→Prop} {K:a_4}
theorem a_dm:∀(l:List Value) (i off:Nat) (arr:Array Value),off+i+l.length≤arr.size→
   ((l.zipIdx i).foldl (fun cs x=>cs.setIfInBounds (off+x.2) x.1) arr).toList=arr.toList.take (off+i) ++ l ++ arr.toList.drop (off+i+l.length)
 | [],i,off,arr,h=>by simp
 | v::l,i,off,arr,h=>by
   simp only[List.zipIdx_cons,List.foldl_cons]
   rw[a_dm l (i+1) off (arr.setIfInBounds (off+i) v) (by simp at h ⊢;omega)]
   have hlt:off+i < arr.toList.length:=by simp at h ⊢;omega
   simp only[Array.toList_setIfInBounds]
   have e1:off+ (i+1) =off+i+1:=by omega
   have e2:(arr.toList.set (off+i) v).take (off+i+1) =arr.toList.take (off+i) ++ [v]:=by
     rw[List.take_succ_eq_append_getElem (by simpa using hlt)]
     have e0:(arr.toList.set (off+i) v).take (off+i) =arr.toList.take (off+i):=by
       apply List.ext_getElem?
       intro j
       rw[List.getElem?_take,List.getElem?_take]
       split
       · rw[List.getElem?_set_ne (by omega)]
       · rfl
     rw[e0];simp
   have e3:(arr.toList.set (off+i) v).drop (off+i+1+l.length) =arr.toList.drop (off+i+ (v::l).length):=by
     rw[List.drop_set_of_lt (by omega)]
     congr 1;simp;omega
   rw[e1,e2,e3]
   simp
theorem q_3 (place:Nat→Option (Nat × Nat)) :∀(parts:List (Nat × Value)) (ps:List (Nat × List D)) (arr:Array Value) (cs cs':List D),
   VL k β W arr.toList cs→parts.length=ps.length→(∀(i:Nat) x y,parts[i]? =some x→ps[i]? =some y→x.1=y.1∧VL k β W x.2.cells.toList y.2)→
   k_r place cs ps=some cs'→∃arr',Instr.fill place arr parts=some arr'∧VL k β W arr'.toList cs'
 | [],[],arr,cs,cs',h,_,_,hd=>by
   simp[k_r] at hd;subst hd;exact ⟨arr,rfl,h⟩
 | [],_::_,_,_,_,_,hl,_,_=>by simp at hl
 | _::_,[],_,_,_,_,hl,_,_=>by simp at hl
 | (i,v) ::parts,(j,xs) ::ps,arr,cs,cs',h,hl,hv,hd=>by
   obtain ⟨e1,hx⟩:=hv 0 _ _ rfl rfl
   have e1:i=j:=e1
   subst e1
   unfold k_r at hd
   unfold Instr.fill
   split at hd
   · cases hd
   · rename_i off size hp
     split at hd
     · rename_i hc
       obtain ⟨hc1,hc2⟩:=hc
       have hvl:v.cells.size=xs.length:=by simpa using hx.1
       have hal:arr.size=cs.length:=by simpa using h.1
       rw[hp]
       simp only
       rw[if_neg (by simp;omega)]
       have hf:(v.cells.zipIdx.foldl (fun cs x=>cs.setIfInBounds (off+x.2) x.1) arr).toList=arr.toList.take off ++ v.cells.toList ++ arr.toList.drop (off+v.cells.toList.length):=by
         rw[←Array.foldl_toList,Array.toList_zipIdx]
         have:=a_dm v.cells.toList 0 off arr (by simp;omega)
         simpa using this
       have hV:VL k β W (v.cells.zipIdx.foldl (fun cs x=>cs.setIfInBounds (off+x.2) x.1) arr).toList (patch cs off xs):=by
         rw[hf];exact h.patch hx off
       exact q_3 place parts ps _ _ cs' hV (by simpa using hl) (fun i x y hi hj=>hv (i+1) x y (by simpa using hi) (by simpa using hj)) hd
     · cases hd
theorem s_6 (h:RelX P k0 β0 σ0 W0 n k β γ tmps W env σ)(ha:a.tmps=tmps) :∀(parts:List (Nat × Operand)) (ps:List (Nat × List D)),e_t env parts=some ps→
   (parts.map fun x=>(x.1,a.eval x.2)).length=ps.length∧∀(i:Nat) x y,(parts.map fun x=>(x.1,a.eval x.2))[i]? =some x→ps[i]? =some y→x.1=y.1∧VL k β W x.2.cells.toList y.2
 | [],ps,hp=>by simp[e_t] at hp;subst hp;exact ⟨rfl,fun i x y hx=>by simp at hx⟩
 | (j,x) ::parts,ps,hp=>by
   unfold e_t at hp
   split at hp
   · rename_i y ps' h1 h2
     injection hp with hp;subst hp
     obtain ⟨hl,hv⟩:=s_6 h ha parts ps' h2
     refine ⟨by simpa using hl,fun i u w hu hw=>?_⟩
     cases i with
     | zero=>
       simp at hu hw;subst hu hw
       exact ⟨rfl,(s_f (h_o (a_o h a ha x 0).1 h1)).1⟩
     | succ i=>exact hv i u w (by simpa using hu) (by simpa using hw)
   · cases hp
theorem a_lk (hd:∀d,o.dst=some d→d < n)(hdef:a.defers=df)(h:RelX P k0 β0 σ0 W0 n k β γ a.tmps W env σ)(t:TypeId)(parts:Array (Nat × Operand))
   (hop:o.op= .build t parts) (hs:t_f P t ((zeroCells P t).bind d_y) (e_t env parts.toList) fun e=>K (a_n env o.dst e) σ) :
   o.wp P a W (Out df P k0 β0 σ0 W0 n (Dst o) env K) Q:=by
 unfold t_f at hs
 split at hs
 · rename_i cs ps hc hp
   cases hz:zeroCells P t with
   | none=>rw[hz] at hc;cases hc
   | some zs=>
     rw[hz] at hc
     obtain ⟨i,z,hi,hzz,rfl⟩:=c_z hz
     obtain ⟨hl,hv⟩:=s_6 h rfl parts.toList ps hp
     have fin : ∀ place cs', k_r place cs ps = some cs' →
         (∀arr',Instr.fill place z.cells (parts.map fun x=>(x.1,a.eval x.2)).toList=some arr'→P.built t (parts.map fun x=>(x.1,a.eval x.2)).toList=some arr')→
         K (a_n env o.dst (.val (.agg cs'))) σ→o.wp P a W (Out df P k0 β0 σ0 W0 n (Dst o) env K) Q:=by
       intro place cs' hf hb hK
       obtain ⟨arr',h1,h2⟩:=q_3 place _ ps z.cells cs cs' (g_h hc) hl hv hf
       have h3:=hb arr' (by rw[Array.toList_map];exact h1)
       refine a_v (e:= .val (.agg cs')) (v:= .agg arr') hd hdef h ?_ (by rintro cs (h | h) <;> cases h) ⟨_,rfl,h2⟩ hK
       simp[execOp,hop,run_build W t _ arr' h3]
     split at hs
     · rename_i fs hu
       split at hs
       · rename_i places hpl
         split at hs
         · rename_i cs' hf
           refine fin _ cs' hf (fun arr' h1=>?_) hs
           simp only[Program.built,hi,hu,hzz,hpl]
           simpa using h1
         · exact hs.elim
       · exact hs.elim
     · rename_i m el hu
       split at hs
       · rename_i ie hie
         split at hs
         · rename_i cs' hf
           refine fin _ cs' hf (fun arr' h1=>?_) hs
           simp only[Program.built,hi,hu,hzz,hie]
           exact h1
         · exact hs.elim
       · exact hs.elim
     · exact hs.elim
 · exact hs.elim
theorem s_7 {es:Nat} :∀(m r:Nat) (cs row:List D),(j_b es m cs)[r]? =some row→r < m∧row=(cs.drop (r * es)).take es
 | 0,r,cs,row,h=>by simp[j_b] at h
 | m+1,0,cs,row,h=>by simp[j_b] at h;exact ⟨by omega,by simp[h]⟩
 | m+1,r+1,cs,row,h=>by
   simp[j_b] at h
   obtain ⟨h1,h2⟩:=s_7 m r _ row h
   refine ⟨by omega,?_⟩
   rw[h2,List.drop_drop]
   congr 2
   rw[Nat.add_mul];omega
theorem s_5 {es:Nat} :∀(m:Nat) (cs:List D),(j_b es m cs).length=m
 | 0,_=>rfl
 | m+1,cs=>by simp[j_b,s_5 m]
theorem a_nu {z:Array Value}{zs:List D}(h:VL k β W z.toList zs)(m:Nat) :VL k β W (madeCells z (m * z.size)).toList (List.replicate m zs).flatten:=by
 induction m with
 | zero=>simp[madeCells];exact ⟨rfl,fun i v d hv=>by simp at hv⟩
 | succ m ih=>
   have hz:z.size=zs.length:=by simpa using h.1
   have e1:(madeCells z ((m+1) * z.size)).toList=(madeCells z (m * z.size)).toList ++ z.toList:=by
     apply List.ext_getElem?
     intro i
     by_cases hi:i < (m+1) * z.size
     · have hpos : 0 < z.size := by
         rcases Nat.eq_zero_or_pos z.size with h0 | h0
         · rw[h0] at hi;omega
         · exact h0
       by_cases hi':i < m * z.size
       · rw[List.getElem?_append_left (by simp[madeCells];exact hi')]
         simp[madeCells,hi,hi']
       · rw[List.getElem?_append_right (by simp[madeCells];omega)]
         have hm:i % z.size=i - m * z.size:=by
           have:i=z.size * m+ (i - m * z.size):=by rw[Nat.mul_comm];omega
           rw[this,Nat.mul_add_mod]
           rw[Nat.mod_eq_of_lt (by rw[Nat.add_mul] at hi;omega)]
           rw[Nat.mul_comm z.size m];omega
         have hlt:i - m * z.size < z.size:=by rw[Nat.add_mul] at hi;omega
         simp[madeCells,hi,hm,hlt]
     · rw[List.getElem?_eq_none (by simp[madeCells];omega),List.getElem?_eq_none (by simp[madeCells];rw[Nat.add_mul] at hi;omega)]
   rw[e1]
   have e2:(List.replicate (m+1) zs).flatten=(List.replicate m zs).flatten ++ zs:=by
     rw[List.replicate_succ'];simp
   rw[e2]
   exact ih.append h
theorem u_g (hd:∀d,o.dst=some d→d < n)(hdef:a.defers=df)(h:RelX P k0 β0 σ0 W0 n k β γ a.tmps W env σ){t:TypeId}{arr:Array Value}{rows:List (List D)}{len cap:Nat}
   (hr:∀(r:Nat) row,rows[r]? =some row→row.length=P.cellsOf t) (hsz:rows.length * P.cellsOf t≤arr.size) (h1:∀v ∈ arr,cell1 v=true)
   (hV:∀(r:Nat) row (j:Nat) d,rows[r]? =some row→row[j]? =some d→∃v,arr[r * P.cellsOf t+j]? =some v∧V k β W v d)
   (hlc:len≤cap) (hcap:cap * P.cellsOf t=arr.size) (hcm:cap≤9223372036854775807)
   (hrun:(execOp a.eval o).run P W= .ok (.value (.slice (some ⟨W.heap.size,0,none⟩) len cap)) { W with heap:=W.heap.push (.cells arr t (0,0)) })
   (hs:newObj σ (.live t rows) fun id σ'=>K (a_n env o.dst (.val (.one (.osl id 0 len)))) σ') :o.wp P a W (Out df P k0 β0 σ0 W0 n (Dst o) env K) Q:=by
 obtain ⟨id,hid⟩:=h.srel.someFree
 obtain ⟨hS,hG⟩:=h.srel.newRows hid hr hsz h1 hV
 have hX:=h.step hS hG (k_p β σ W _)
 refine c_u hrun (c_f (e:= .val (.one (.osl id 0 len))) hd hdef hX (by rintro cs (h | h) <;> cases h) ?_ (hs id hid))
 exact V.osl id 0 len cap _ ⟨W.heap.size,P.cellsOf t,arr.size⟩ (by simp) (fun _=>by simp) hlc (by simpa using hcap) hcm
theorem x_e (t:TypeId)(len:Nat)(parts:Array (Nat × Operand))(h:RelX P k0 β0 σ0 W0 n k β γ a.tmps W env σ)(hop:o.op= .buildSlice t len parts){el:TypeId}(hu:P.underlying t=some (.slice el)){zd:List D}{ps:List (Nat × List D)}{cs:List D}{i:TypeInfo}{z:Value}
   (hi:P.info? el=some i) (hzz:i.zero=some z) (hc:d_y z.cells.toList=some zd) (hp:e_t env parts.toList=some ps)
   (hf:k_r (fun i=>some (i * P.cellsOf el,P.cellsOf el)) ((List.replicate len zd).flatten) ps=some cs) (d1:zd.length=P.cellsOf el) (d2:0 < P.cellsOf el) (d3:len * P.cellsOf el≤2 ^ 24) {G:Prop}
   (fin:∀arr:Array Value,(∀(r:Nat) row,(j_b (P.cellsOf el) len cs)[r]? =some row→row.length=P.cellsOf el)→(j_b (P.cellsOf el) len cs).length * P.cellsOf el≤arr.size→(∀v ∈ arr,cell1 v=true)→
     (∀(r:Nat) row (j:Nat) d,(j_b (P.cellsOf el) len cs)[r]? =some row→row[j]? =some d→∃v,arr[r * P.cellsOf el+j]? =some v∧V k β W v d)→len * P.cellsOf el=arr.size→
     (execOp a.eval o).run P W= .ok (.value (.slice (some ⟨W.heap.size,0,none⟩) len len)) { W with heap:=W.heap.push (.cells arr el (0,0)) }→G) :G:=by
 obtain ⟨hl,hv⟩:=s_6 h rfl parts.toList ps hp
 have hzV:=g_h (k:=k) (β:=β) (W:=W) hc
 have hzs:z.cells.size=P.cellsOf el:=by rw[←d1];simpa using hzV.1
 have hmade:=a_nu hzV len
 rw[hzs] at hmade
 obtain ⟨arr,f1,f2⟩:=q_3 _ _ ps _ _ cs hmade hl hv hf
 have hlen:cs.length=len * P.cellsOf el:=by
   have:arr.size=cs.length:=by simpa using f2.1
   have hfs:∀(parts:List (Nat × List D)) (c c':List D),k_r (fun i=>some (i * P.cellsOf el,P.cellsOf el)) c parts=some c'→c'.length=c.length:=by
     intro parts
     induction parts with
     | nil=>intro c c' hh;simp[k_r] at hh;rw[hh]
     | cons x r ih=>
       intro c c' hh
       obtain ⟨j,xs⟩:=x
       simp only[k_r] at hh
       split at hh
       · rename_i hcc
         rw[ih _ _ hh];unfold patch;simp;omega
       · cases hh
   rw[hfs ps _ cs hf]
   simp[d1]
 have hasz:arr.size=len * P.cellsOf el:=by rw[←hlen];simpa using f2.1
 refine fin arr (fun r row hr=>?_) (by rw[s_5,hasz];exact Nat.le_refl _)
   (fun v hv=>c_2 f2 v (by simpa using hv)) (fun r row j d hr hj=>?_) hasz.symm ?_
 · obtain ⟨hlt,rfl⟩:=s_7 _ _ _ _ hr
   have:=Nat.mul_le_mul_right (P.cellsOf el) (show r+1≤len from hlt)
   rw[Nat.add_mul] at this
   simp;omega
 · obtain ⟨hlt,rfl⟩:=s_7 _ _ _ _ hr
   rw[List.getElem?_take] at hj
   split at hj
   · rw[List.getElem?_drop] at hj
     have hlt':r * P.cellsOf el+j < arr.toList.length:=by rw[f2.1];exact (List.getElem?_eq_some_iff.1 hj).1
     refine ⟨arr.toList[r * P.cellsOf el+j],?_,f2.2 _ _ d (List.getElem?_eq_getElem hlt') hj⟩
     simp at hlt';simp[hlt']
   · cases hj
 · have hne : ¬ (16777216 < len * i.size) := by
     have:i.size=P.cellsOf el:=by simp[Program.cellsOf,hi]
     rw[this];omega
   have his:P.cellsOf el=i.size:=by simp[Program.cellsOf,hi]
   have f1':Instr.fill (fun i=>some (i * P.cellsOf el,P.cellsOf el)) (madeCells z.cells (len * P.cellsOf el)) (parts.toList.map fun x=>(x.1,a.eval x.2)) =some arr:=f1
   have hmk:(Array.range (len * P.cellsOf el)).map (z.cells[· % z.cells.size]!) =madeCells z.cells (len * P.cellsOf el):=rfl
   have hne':¬(16777216 < len * P.cellsOf el):=by omega
   by_cases hl0:len * P.cellsOf el=0
   · have hl00 : len = 0 := by
       rcases Nat.mul_eq_zero.1 hl0 with h0 | h0
       · exact h0
       · omega
     subst hl00
     have hma:madeCells z.cells (0 * P.cellsOf el) = #[]:=by simp[madeCells]
     rw[hma] at f1'
     simp[execOp,hop,Instr.buildSlice,run_underlying hu,run_sizeOf W hi,newRow,show (Array.range 0) = #[] from rfl,f1']
   · simp[execOp,hop,Instr.buildSlice,run_underlying hu,run_sizeOf W hi,hne',zeroValue,run_typeInfo W hi,hzz,hmk,newRow,f1']
     intro hh;exact absurd hh hl0
theorem y_n (hd:∀d,o.dst=some d→d < n)(hdef:a.defers=df)(h:RelX P k0 β0 σ0 W0 n k β γ a.tmps W env σ)(t:TypeId)(len:Nat)(parts:Array (Nat × Operand))
   (hop:o.op= .buildSlice t len parts) (hs:c_m P t len (e_t env parts.toList) σ fun e σ'=>K (a_n env o.dst e) σ') :
   o.wp P a W (Out df P k0 β0 σ0 W0 n (Dst o) env K) Q:=by
 unfold c_m at hs
 split at hs
 · rename_i el hu
   split at hs
   · rename_i zd ps hc hp
     cases hz:zeroCells P el with
     | none=>rw[hz] at hc;cases hc
     | some zs=>
       rw[hz] at hc
       obtain ⟨i,z,hi,hzz,rfl⟩:=c_z hz
       split at hs
       · rename_i cs hf
         split at hs
         · rename_i hdec
           obtain ⟨d1,d2,d3⟩:=of_decide_eq_true hdec
           exact x_e t len parts h hop hu hi hzz hc hp hf d1 d2 d3 fun arr g1 g2 g3 g4 g5 g6=>u_g (t:=el) (arr:=arr) (rows:=j_b (P.cellsOf el) len cs) (cap:=len) hd hdef h g1 g2 g3 g4 (Nat.le_refl _) g5 (by have:=Nat.le_mul_of_pos_right len d2;omega) g6 hs
         · exact hs.elim
       · exact hs.elim
   · exact hs.elim
 · exact hs.elim
theorem SRel.frz (h:SRel P k β W σ)(o:Obj) :SRel P (fun b=>k b∨b=W.heap.size) β { W with heap:=W.heap.push o } σ where
 gl:=h.gl.mono (fun _ h=> .inl h) fun b hb=>(Grow.push W o).block b (h.klt b hb)
 fin:=h.fin
 dom:=h.dom
 klt b hb:=by
   have e:W.heap.size < ({ W with heap:=W.heap.push o } :World).heap.size:=by simp
   rcases hb with hb | rfl
   · exact Nat.lt_trans (h.klt b hb) e
   · exact e
 blt i bi hi:=by
   have e:W.heap.size < ({ W with heap:=W.heap.push o } :World).heap.size:=by simp
   exact Nat.lt_trans (h.blt i bi hi) e
 inj:=h.inj
 notk i bi hi hl hk:=by
   rcases hk with hk | hk
   · exact h.notk i bi hi hl hk
   · have:=h.blt i bi hi;omega
 obj i bi t rows hb hs:=by
   obtain ⟨arr,h1,h2,h3,h4,h5,h6,h7⟩:=(h.grow (Grow.push W o)).obj i bi t rows hb hs
   refine ⟨arr,h1,h2,h3,h4,h5,h6,fun r row j d hr hj=>?_⟩
   obtain ⟨v,hv,hV⟩:=h7 r row j d hr hj
   exact ⟨v,hv,hV.mono (fun _ h=> .inl h) (fun _ _ h=>h) (fun b hb=>rfl)⟩
 omap i bi clock es hb hs:=by
   obtain ⟨ents,h1,h2,h3,h4,h5⟩:=(h.grow (Grow.push W o)).omap i bi clock es hb hs
   refine ⟨ents,h1,h2,h3,h4,fun r e b ks vs hr he=>?_⟩
   obtain ⟨hbo,ha,hv⟩:=h5 r e b ks vs hr he
   exact ⟨hbo,ha.mono (fun _ h=> .inl h) (fun _ _ h=>h) (fun b hb=>rfl),hv.mono (fun _ h=> .inl h) (fun _ _ h=>h) (fun b hb=>rfl)⟩
theorem a_db (hd:∀d,o.dst=some d→d < n)(hdef:a.defers=df)(h:RelX P k0 β0 σ0 W0 n k β γ a.tmps W env σ)(t:TypeId)(len:Nat)(parts:Array (Nat × Operand))
   (hop:o.op= .buildSlice t len parts) (hs:dFrz P t len (e_t env parts.toList) fun e=>K (a_n env o.dst e) σ) :
   o.wp P a W (Out df P k0 β0 σ0 W0 n (Dst o) env K) Q:=by
 unfold dFrz at hs
 split at hs
 · rename_i el hu
   split at hs
   · rename_i zd ps hc hp
     cases hz:zeroCells P el with
     | none=>rw[hz] at hc;cases hc
     | some zs=>
       rw[hz] at hc
       obtain ⟨i,z,hi,hzz,rfl⟩:=c_z hz
       split at hs
       · rename_i cs hf
         split at hs
         · rename_i hdec
           obtain ⟨d1,d2,d3⟩:=of_decide_eq_true hdec
           refine x_e t len parts h hop hu hi hzz hc hp hf d1 d2 d3 fun arr g1 g2 g3 g4 g5 g6=>?_
           have hX:=h.step (h.srel.frz (.cells arr el (0,0))) ⟨fun _ h=> .inl h,fun b hb=>hb.elim .inl fun e=> .inr (.inl (by omega)),fun _ _ h=>h,fun _ _ h=> .inl h,fun _ h=>h⟩ (k_p β σ W _)
           refine c_u g6 (c_f (e:= .val (.one (.sl (P.cellsOf el) (j_b (P.cellsOf el) len cs)))) hd hdef hX (by rintro cs (h | h) <;> cases h) ?_ hs)
           refine V.sl ⟨W.heap.size,0,none⟩ len len (P.cellsOf el) _ (fun i j=>arr.getD (i * P.cellsOf el+j) undef) (fun _=>⟨.inr rfl,rfl⟩) (s_5 _ _) (Nat.le_refl _) g1 (fun i row j d hi hj=>?_) (fun i row j d hi hj=>?_)
           · obtain ⟨v,hv,_⟩:=g4 i row j d hi hj
             have hw:(W.heap.push (.cells arr el (0,0)))[W.heap.size]? =some (.cells arr el (0,0)):=by simp
             simp only[Nat.zero_add]
             rw[cell_of_heap hw,hv,Array.getD_eq_getD_getElem?,hv];rfl
           · obtain ⟨v,hv,hV⟩:=g4 i row j d hi hj
             rw[Array.getD_eq_getD_getElem?,hv]
             exact hV.mono (fun _ h=> .inl h) (fun _ _ h=>h) (fun b hb=>(Grow.push W _).block b (h.srel.klt b hb))
         · exact hs.elim
       · exact hs.elim
   · exact hs.elim
 · exact hs.elim
theorem a_cw (hd:∀d,o.dst=some d→d < n)(hdef:a.defers=df)(h:RelX P k0 β0 σ0 W0 n k β γ a.tmps W env σ)(t:TypeId)(l c:Operand)
   (hop:o.op= .makeSlice t l c) (hs:c_0 P t (opE env l) (opE env c) σ fun e σ'=>K (a_n env o.dst e) σ') :
   o.wp P a W (Out df P k0 β0 σ0 W0 n (Dst o) env K) Q:=by
 obtain ⟨hl,_⟩:=a_o h a rfl l 0
 obtain ⟨hc,_⟩:=a_o h a rfl c 0
 unfold c_0 at hs
 split at hs
 · rename_i el ln cn hu hle hce
   rw[hle] at hl;rw[hce] at hc
   have hl:=V.inv_int hl
   have hc:=V.inv_int hc
   split at hs
   · rename_i zd info hz hi
     cases hzc:zeroCells P el with
     | none=>rw[hzc] at hz;cases hz
     | some zs=>
       rw[hzc] at hz
       obtain ⟨i,z,hi',hzz,rfl⟩:=c_z hzc
       rw[hi] at hi';injection hi' with hi';subst hi'
       split at hs
       · rename_i hdec
         obtain ⟨d1,d2,d3⟩:=of_decide_eq_true hdec
         obtain ⟨h0,hlc,hb,hK⟩:=hs
         have his:P.cellsOf el=info.size:=by simp[Program.cellsOf,hi]
         have hzV:=g_h (k:=k) (β:=β) (W:=W) hz
         have hzs:z.cells.size=info.size:=by rw[←d1];simpa using hzV.1
         have hcn:cn≤281474976710656:=by
           have h1:(1:Int)≤info.bytes:=by omega
           have h2:(1:Int) * cn≤info.bytes * cn:=Int.mul_le_mul_of_nonneg_right h1 (by omega)
           omega
         have hrun:=run_make (P:=P) W t el info z hu hi hzz .i64 .i64 ln cn h0 hlc (by simpa using hb) (by omega)
         refine u_g (t:=el) (arr:=madeCells z.cells (cn.toNat * info.size)) (rows:=List.replicate cn.toNat zd) (cap:=cn.toNat) hd hdef h (fun r row hr=>?_)
           (by rw[size_madeCells,his];simp) (fun v hv=>?_) (fun r row j d hr hj=>?_) (by omega) (by rw[size_madeCells,his]) (by omega) ?_ hK
         · rw[List.getElem?_replicate] at hr
           split at hr
           · injection hr with hr;subst hr;omega
           · cases hr
         · simp only[madeCells,Array.mem_map,Array.mem_range] at hv
           obtain ⟨j,hj,rfl⟩:=hv
           have hpos:0 < z.cells.size:=by omega
           have hlt:=Nat.mod_lt j hpos
           rw[getElem!_pos z.cells _ hlt]
           exact c_2 hzV _ (by simp)
         · rw[List.getElem?_replicate] at hr
           split at hr
           · rename_i hrlt
             injection hr with hr;subst hr
             have hj':j < info.size:=by rw[←d1];exact (List.getElem?_eq_some_iff.1 hj).1
             rw[his]
             have hlt:r * info.size+j < cn.toNat * info.size:=f_p hj' hrlt
             have hm:(r * info.size+j) % z.cells.size=j:=by rw[hzs,Nat.mul_comm,Nat.mul_add_mod,Nat.mod_eq_of_lt hj']
             have hjz:j < z.cells.size:=by omega
             refine ⟨z.cells[j],?_,hzV.2 j _ d (by simp[hjz]) hj⟩
             simp[madeCells,hlt,hm,hjz]
           · cases hr
         · simp only[execOp,hop,hl,hc,Sem.run_bind]
           rw[hrun];rfl
       · exact hs.elim
   · exact hs.elim
 · exact hs.elim
end
end
section
theorem d_1 {α:Type}{es:Nat}(hes:0 < es) :∀(rs:List (List α)),(∀(i:Nat) r,rs[i]? =some r→r.length=es)→∀(j:Nat) (d:α),rs.flatten[j]? =some d→
   ∃r,rs[j / es]? =some r∧r[j % es]? =some d
 | [],_,j,d,h=>by simp at h
 | x::rs,hl,j,d,h=>by
   have hx:x.length=es:=hl 0 x rfl
   rw[List.flatten_cons] at h
   by_cases hj:j < es
   · rw[List.getElem?_append_left (by omega)] at h
     refine ⟨x,?_,?_⟩
     · rw[Nat.div_eq_of_lt hj];rfl
     · rw[Nat.mod_eq_of_lt hj];exact h
   · rw[List.getElem?_append_right (by omega),hx] at h
     obtain ⟨r,h1,h2⟩:=d_1 hes rs (fun i r hr=>hl (i+1) r (by simpa using hr)) (j - es) d h
     have e1:j / es=(j - es) / es+1:=by
       rw[Nat.div_eq_sub_div hes (by omega)]
     have e2:j % es=(j - es) % es:=by rw[Nat.mod_eq_sub_mod (by omega)]
     exact ⟨r,by rw[e1];simpa using h1,by rw[e2];exact h2⟩
theorem h_a {α:Type}{es:Nat} :∀(rs:List (List α)),(∀(i:Nat) r,rs[i]? =some r→r.length=es)→rs.flatten.length=rs.length * es
 | [],_=>by simp
 | x::rs,hl=>by
   have hx:x.length=es:=hl 0 x rfl
   rw[List.flatten_cons,List.length_append,h_a rs (fun i r hr=>hl (i+1) r (by simpa using hr)),hx,List.length_cons,Nat.add_mul]
   omega
section
variable {df:List Deferred} {P:Program} {k0:Nat→Prop} {β0:Bk} {σ0:Store} {W0:World} {n:Nat} {k:Nat→Prop} {β:Bk} {γ:Nat→Nat}
 {tmps:Array Value} {W W':World} {env:Env} {σ σ':Store} {a:Act} {o:Oper} {Q:Exit→Act→World→Prop} {K:a_4}
theorem o_r (hs:SRel P k β W σ){v:Value}{s:D}{el:TypeId}{rs:List (List D)}(hv:V k β W v s)(hr:Rows P σ el s rs)(hes:0 < P.cellsOf el)(hne:rs≠[]) :
   ∃(ad:Addr) (cap:Nat) (vals:List Value),v= .slice (some ad) rs.length cap∧rs.length≤cap∧ad.spot=none∧vals.length=rs.length * P.cellsOf el∧VL k β W vals rs.flatten∧
     (∀(j:Nat) u,vals[j]? =some u→W.cell? (ad.add j) =some u)∧(∀(i:Nat) r,rs[i]? =some r→r.length=P.cellsOf el):=by
 cases hv with
 | nils=>exact absurd hr hne
 | zsl ad=>exact absurd hr hne
 | sl ad len cap es rows f hk hl hc hlen hcell hval=>
   obtain ⟨rfl,he⟩:=hr
   have he:es=P.cellsOf el:=he.resolve_left hne
   subst he
   have hsp:=(hk hne).2
   have hadd:∀j,ad.add j=⟨ad.block,ad.off+j,none⟩:=fun j=>by
     obtain ⟨b,o',sp⟩:=ad;simp at hsp;subst hsp;exact add_mk _ _ _
   have hfl:=h_a rs hlen
   refine ⟨ad,cap,(List.range (rs.length * P.cellsOf el)).map fun j=>f (j / P.cellsOf el) (j % P.cellsOf el),by rw[hl],by omega,hsp,by simp,⟨by simp[hfl],fun j u d hu hd=>?_⟩,fun j u hu=>?_,hlen⟩
   · have hj:j < rs.length * P.cellsOf el:=by rw[←hfl];exact (List.getElem?_eq_some_iff.1 hd).1
     simp[List.getElem?_range hj] at hu
     subst hu
     obtain ⟨r,h1,h2⟩:=d_1 hes rs hlen j d hd
     exact hval _ r _ d h1 h2
   · have hj : j < rs.length * P.cellsOf el := by
       have:=(List.getElem?_eq_some_iff.1 hu).1
       simpa using this
     simp[List.getElem?_range hj] at hu
     subst hu
     have hd:=List.getElem?_eq_getElem (show j < rs.flatten.length by rw[hfl];exact hj)
     obtain ⟨r,h1,h2⟩:=d_1 hes rs hlen j _ hd
     have:=hcell _ r _ _ h1 h2
     rw[hadd,←this]
     congr 2
     have:=Nat.div_add_mod j (P.cellsOf el)
     rw[Nat.mul_comm] at this
     omega
 | osl id i0 len cap ad bi hb ha hc hsz hcm=>
   obtain ⟨t,rows,hlive,het,hfit,rfl⟩:=hr
   obtain ⟨arr,g1,g2,g3,g4,g5,g6,g7⟩:=hs.obj id bi t rows hb hlive
   have hlen:((rows.drop i0).take len).length=len:=by simp;omega
   have hpos:0 < len:=by
     rcases Nat.eq_zero_or_pos len with h0 | h0
     · subst h0;simp at hne
     · exact h0
   have ha:=ha (by omega)
   subst ha
   have hbe:bi.es=P.cellsOf el:=by rw[←g3,het]
   have hrl:∀(i:Nat) r,((rows.drop i0).take len)[i]? =some r→r.length=P.cellsOf el:=by
     intro i r hr
     rw[List.getElem?_take] at hr
     split at hr
     · rw[List.getElem?_drop] at hr
       rw[←hbe];exact g6 _ r hr
     · cases hr
   have hfl:=h_a _ hrl
   rw[hlen] at hfl
   have hroom:(i0+len) * P.cellsOf el≤arr.size:=by
     have:(i0+len) * bi.es≤rows.length * bi.es:=Nat.mul_le_mul_right _ hfit
     rw[←hbe];omega
   rw[Nat.add_mul] at hroom
   have hexp:∀(j:Nat) d,((rows.drop i0).take len).flatten[j]? =some d→∃u,arr[i0 * P.cellsOf el+j]? =some u∧V k β W u d:=by
     intro j d hd
     obtain ⟨r,h1,h2⟩:=d_1 hes _ hrl j d hd
     rw[List.getElem?_take] at h1
     split at h1
     · rw[List.getElem?_drop] at h1
       obtain ⟨u,hu,hV⟩:=g7 _ r _ d h1 h2
       refine ⟨u,?_,hV⟩
       rw[←hu,hbe]
       congr 1
       have:=Nat.div_add_mod j (P.cellsOf el)
       rw[Nat.add_mul,Nat.mul_comm (j / _)]
       omega
     · cases h1
   refine ⟨_,cap,(arr.toList.drop (i0 * P.cellsOf el)).take (len * P.cellsOf el),by rw[hlen],by rw[hlen];exact hc,rfl,by rw[hlen];simp;omega,⟨by rw[hfl];simp;omega,fun j u d hu hd=>?_⟩,fun j u hu=>?_,hrl⟩
   · obtain ⟨u',hu',hV⟩:=hexp j d hd
     rw[List.getElem?_take] at hu
     split at hu
     · rw[List.getElem?_drop] at hu
       simp at hu
       rw[hu'] at hu;injection hu with hu;subst hu;exact hV
     · cases hu
   · rw[add_mk,hbe]
     rw[List.getElem?_take] at hu
     split at hu
     · rw[List.getElem?_drop] at hu
       simp at hu
       rw[cell_of_heap g1];exact hu
     · cases hu
 | _=>exact hr.elim
theorem SRel.setObj (h:SRel P k β W σ){id:Nat}{bi:BI}(hb:β id=some bi){t:TypeId}{rows rows':List (List D)}(hl:σ id= .live t rows){arr c:Array Value}
   (ha:W.heap[bi.blk]? =some (.cells arr t (0,0))) (hsz:c.size=arr.size) (hfit:rows'.length * bi.es≤arr.size) (h1:∀v ∈ c,cell1 v=true)
   (hlen:∀(r:Nat) row,rows'[r]? =some row→row.length=bi.es)
   (hV:∀(r:Nat) row (j:Nat) d,rows'[r]? =some row→row[j]? =some d→∃v,c[r * bi.es+j]? =some v∧V k β W v d) :
   SRel P k β (W.setRow bi.blk c) (σ.set id (.live t rows')):=by
 have hnk:=h.notk id bi hb (by rw[hl];intro e;cases e)
 obtain ⟨arr',g1,g2,g3,g4,g5,g6,g7⟩:=h.obj id bi t rows hb hl
 have e1:arr'=arr:=by rw[ha] at g1;injection g1 with g1;injection g1 with g1;exact g1.symm
 subst e1
 have hkeep:∀c,Keep k W (W.setRow bi.blk c):=fun c b hb=>a_z _ _ _ _ (fun e=>hnk (e ▸ hb))
 exact {
   gl:=h.gl.mono (fun _ h=>h) (hkeep _)
   fin:=by
     obtain ⟨N,hN⟩:=h.fin
     refine ⟨max N (id+1),fun i hi=>?_⟩
     rw[Store.set_ne _ _ (by omega)];exact hN i (by omega)
   dom:=fun i=>by
     by_cases he:i=id
     · subst he;rw[Store.set_same];simp[hb]
     · rw[Store.set_ne _ _ he];exact h.dom i
   klt:=fun b hb=>by rw[setRow_size];exact h.klt b hb
   blt:=fun i bi hi=>by rw[setRow_size];exact h.blt i bi hi
   inj:=fun i j b1 b2 hi hj h1' h2' he=>by
     refine h.inj i j b1 b2 hi hj (fun hd=>h1' ?_) (fun hd=>h2' ?_) he
     · have hne:i≠id:=by intro e;subst e;rw[hl] at hd;cases hd
       rw[Store.set_ne _ _ hne];exact hd
     · have hne:j≠id:=by intro e;subst e;rw[hl] at hd;cases hd
       rw[Store.set_ne _ _ hne];exact hd
   notk:=fun i b1 hi hd=>h.notk i b1 hi (fun hd'=>hd (by
     have hne:i≠id:=by intro e;subst e;rw[hl] at hd';cases hd'
     rw[Store.set_ne _ _ hne];exact hd'))
   obj:=fun i b1 t' rows1 hi hs=>by
     by_cases he:i=id
     · subst he
       rw[Store.set_same] at hs
       injection hs with hs1 hs2
       subst hs1 hs2
       rw[hb] at hi;injection hi with hi;subst hi
       refine ⟨c,setRow_heap _ _ _ _ _ _ ha,by rw[hsz];exact g2,g3,by rw[hsz];exact hfit,h1,hlen,fun r row j d hr hj=>?_⟩
       obtain ⟨v,hv,hV'⟩:=hV r row j d hr hj
       exact ⟨v,hv,hV'.mono (fun _ h=>h) (fun _ _ h=>h) (hkeep _)⟩
     · rw[Store.set_ne _ _ he] at hs
       obtain ⟨arr2,g1,g2,g3,g4,g5,g6,g7⟩:=h.obj i b1 t' rows1 hi hs
       have hne:b1.blk≠bi.blk:=fun e=>he (h.inj i id b1 bi hi hb (by rw[hs];intro e;cases e) (by rw[hl];intro e;cases e) e)
       refine ⟨arr2,by rw[a_z _ _ _ _ hne];exact g1,g2,g3,g4,g5,g6,fun q row' j d hq hj=>?_⟩
       obtain ⟨v,hv,hV⟩:=g7 q row' j d hq hj
       exact ⟨v,hv,hV.mono (fun _ h=>h) (fun _ _ h=>h) (hkeep _)⟩
   omap:=fun i b1 clock es hi hs=>by
     have he:i≠id:=by intro e;subst e;rw[Store.set_same] at hs;cases hs
     rw[Store.set_ne _ _ he] at hs
     obtain ⟨ents,g1,g2,g3,g4,g5⟩:=h.omap i b1 clock es hi hs
     have hne:b1.blk≠bi.blk:=fun e=>he (h.inj i id b1 bi hi hb (by rw[hs];intro e;cases e) (by rw[hl];intro e;cases e) e)
     refine ⟨ents,by rw[a_z _ _ _ _ hne];exact g1,g2,g3,g4,fun q e b ks vs hq he=>?_⟩
     obtain ⟨hbo,ha,hv⟩:=g5 q e b ks vs hq he
     exact ⟨hbo,ha.mono (fun _ h=>h) (fun _ _ h=>h) (hkeep _),hv.mono (fun _ h=>h) (fun _ _ h=>h) (hkeep _)⟩ }
theorem a_ds {v:Value}{s:D}{el:TypeId}(hv:V k β W v s)(hr:Rows P σ el s []) :∃ad cap,v= .slice ad 0 cap:=by
 cases hv with
 | nils=>exact ⟨none,0,rfl⟩
 | zsl ad=>exact ⟨ad,0,rfl⟩
 | sl ad len cap es rows f hk hl hc hlen hcell hval=>
   obtain ⟨h1,_⟩:=hr
   subst h1
   have:len=0:=by simpa using hl.symm
   subst this;exact ⟨_,_,rfl⟩
 | osl id i0 len cap ad bi hb ha hc hsz hcm=>
   obtain ⟨t,rows,_,_,hfit,h1⟩:=hr
   have:len=0:=by
     have:=congrArg List.length h1
     simp at this;omega
   subst this;exact ⟨_,_,rfl⟩
 | _=>exact hr.elim
theorem l_2 {v:Value}{s:D}{el:TypeId}{rs:List (List D)}(hv:V k β W v s)(hr:Rows P σ el s rs) :∃ad cap,v= .slice ad rs.length cap∧rs.length≤cap:=by
 cases hv with
 | nils=>have hr:rs=[]:=hr;subst hr;exact ⟨none,0,rfl,by simp⟩
 | zsl ad=>have hr:rs=[]:=hr;subst hr;exact ⟨ad,0,rfl,by simp⟩
 | sl ad len cap es rows f hk hl hc hlen hcell hval=>
   obtain ⟨rfl,_⟩:=hr
   exact ⟨_,cap,by rw[hl],by omega⟩
 | osl id i0 len cap ad bi hb ha hc hsz hcm=>
   obtain ⟨t,rows,_,_,hfit,rfl⟩:=hr
   have:((rows.drop i0).take len).length=len:=by simp;omega
   exact ⟨_,cap,by rw[this],by omega⟩
 | _=>exact hr.elim
theorem w_x {t ty el:TypeId}{i:TypeInfo}(ht:P.underlying t=some (.slice el))(hi:P.info? el=some i)(ad ad':Option Addr)(n c c':Nat)(hc:n≤c) :
   (Builtin.append_ #[t,t] ty #[.slice ad n c, .slice ad' 0 c']).run P W= .ok (.slice ad n c) W:=by
 have hf:(Builtin.firstCells i.size 0 (.slice ad' 0 c')).run P W= .ok #[] W:=by
   cases ad' with
   | none=>exact run_firstCells_none _ _ _ _ _
   | some b=>exact run_firstCells_some W i.size 0 b 0 c' [] (by simp) (fun j v hv=>by simp at hv)
 cases ad with
 | none=>simp[Builtin.append_,run_underlying ht,sizeOf,typeInfo,hi,Builtin.lenOf,hc,hf]
 | some b=>simp[Builtin.append_,run_underlying ht,sizeOf,typeInfo,hi,Builtin.lenOf,hc,hf,storeCells]
theorem a_dk {t ty el tt:TypeId}{i:TypeInfo}(ht:P.underlying t=some (.slice el))(hi:P.info? el=some i)(g off sLen sCap:Nat)(cur:Array Value)(hg:W.heap[g]? =some (.cells cur tt (0,0)))
   (ad:Addr) (m c:Nat) (news:List Value) (hl:news.length=m * i.size) (hnews:∀j u,news[j]? =some u→W.cell? (ad.add j) =some u) (h1:∀u ∈ news,u.oneCell'=true)
   (hroom:sLen+m≤sCap) (hfit:off+sLen * i.size+news.length≤cur.size) :
   (Builtin.append_ #[t,t] ty #[.slice (some ⟨g,off,none⟩) sLen sCap, .slice (some ad) m c]).run P W =
     .ok (.slice (some ⟨g,off,none⟩) (sLen+m) sCap) (W.setRow g (cur.toList.take (off+sLen * i.size) ++ news ++ cur.toList.drop (off+sLen * i.size+news.length)).toArray):=by
 have hf:=run_firstCells_some (P:=P) W i.size m ad m c news hl hnews
 have hst:=run_storeCells_at P g (off+sLen * i.size) tt news 0 cur W hg (by simpa using hfit) h1
 simp only[Nat.add_zero] at hst
 simp[Builtin.append_,run_underlying ht,sizeOf,typeInfo,hi,Builtin.lenOf,hroom,hf,Addr.add_lit,hst]
theorem a_e1 (hd:∀d,o.dst=some d→d < n)(hdef:a.defers=df)(h:RelX P k0 β0 σ0 W0 n k β γ a.tmps W env σ){el:TypeId}(hes:0 < P.cellsOf el){rs:List (List D)}{vals rest:List Value}{arr:Array Value}{cap:Nat}
   (harr:arr.toList=vals ++ rest) (hl:vals.length=rs.length * P.cellsOf el) (hVL:VL k β W vals rs.flatten) (hlen:∀(i:Nat) r,rs[i]? =some r→r.length=P.cellsOf el)
   (h1:∀v ∈ rest,cell1 v=true) (hcap:rs.length≤cap) (hcm:cap≤9223372036854775807) (hsz:arr.size=cap * P.cellsOf el)
   (hrun:(execOp a.eval o).run P W= .ok (.value (.slice (some ⟨W.heap.size,0,none⟩) rs.length cap)) (W.drew.alloc (.cells arr el)))
   (hs:newObj σ (.live el rs) fun id σ'=>K (a_n env o.dst (.val (.one (.osl id 0 rs.length)))) σ') :o.wp P a W (Out df P k0 β0 σ0 W0 n (Dst o) env K) Q:=by
 have hX:=h.grow (Grow.drew W)
 obtain ⟨id,hid⟩:=h.srel.someFree
 have hkeepD:Keep k W { W with drawn:=W.drawn+1 } :=fun b _=>rfl
 have hroom:rs.length * P.cellsOf el≤arr.size:=by rw[hsz];exact Nat.mul_le_mul_right _ hcap
 obtain ⟨hS,hG⟩:=hX.srel.newRows hid (arr:=arr) (t:=el) (rows:=rs) hlen hroom
   (fun v hv=>by
     have:v ∈ vals ++ rest:=by rw[←harr];simpa using hv
     rcases List.mem_append.1 this with hv | hv
     · exact c_2 hVL v hv
     · exact h1 v hv)
   (by
     intro r row j d hr hj
     have hrow:=hlen r row hr
     have hjl:j < P.cellsOf el:=by rw[←hrow];exact (List.getElem?_eq_some_iff.1 hj).1
     have hrl:r < rs.length:=(List.getElem?_eq_some_iff.1 hr).1
     have hidx:r * P.cellsOf el+j < vals.length:=by
       rw[hl]
       have:=Nat.mul_le_mul_right (P.cellsOf el) (show r+1≤rs.length from hrl)
       rw[Nat.add_mul] at this;omega
     have hfd:rs.flatten[r * P.cellsOf el+j]? =some d:=by
       have hidx':r * P.cellsOf el+j < rs.flatten.length:=by rw[←hVL.1];exact hidx
       obtain ⟨row',q1,q2⟩:=d_1 hes rs hlen _ _ (List.getElem?_eq_getElem hidx')
       have e1:(r * P.cellsOf el+j) / P.cellsOf el=r:=by
         rw[Nat.mul_comm,Nat.mul_add_div hes,Nat.div_eq_of_lt hjl];rfl
       have e2:(r * P.cellsOf el+j) % P.cellsOf el=j:=by rw[Nat.mul_comm,Nat.mul_add_mod,Nat.mod_eq_of_lt hjl]
       rw[e1,hr] at q1;injection q1 with q1;subst q1
       rw[e2,hj] at q2
       rw[List.getElem?_eq_getElem hidx',←q2]
     refine ⟨vals[r * P.cellsOf el+j],?_,(hVL.2 _ _ d (List.getElem?_eq_getElem hidx) hfd).mono (fun _ h=>h) (fun _ _ h=>h) hkeepD⟩
     rw[←Array.getElem?_toList,harr,List.getElem?_append_left hidx,List.getElem?_eq_getElem hidx])
 have hX2:=hX.step hS hG (k_p β σ _ _)
 refine c_u hrun (c_f (e:= .val (.one (.osl id 0 rs.length))) hd hdef hX2 (by rintro cs (h | h) <;> cases h) ?_ (hs id hid))
 exact V.osl id 0 rs.length cap _ ⟨W.heap.size,P.cellsOf el,arr.size⟩ (by simp) (fun _=>by simp) hcap (by simp[hsz]) hcm
theorem n_7 {z:Array Value}(hz:∀v ∈ z.toList,cell1 v=true)(m:Nat) :∀v ∈ (Builtin.zeroCells z m).toList,cell1 v=true:=by
 intro v hv
 unfold Builtin.zeroCells at hv
 simp only[Array.toList_map,List.mem_map] at hv
 obtain ⟨i,hi,rfl⟩:=hv
 have hi':i < m * z.size:=by simpa using hi
 have hpos:0 < z.size:=by
   rcases Nat.eq_zero_or_pos z.size with h0 | h0
   · rw[h0] at hi';omega
   · exact h0
 have hlt:=Nat.mod_lt i hpos
 rw[getElem!_pos z _ hlt]
 exact hz _ (by simp)
theorem q_j (hd:∀d,o.dst=some d→d < n)(hdef:a.defers=df)(h:RelX P k0 β0 σ0 W0 n k β γ a.tmps W env σ){el:TypeId}{s:Operand}{tys:Array TypeId}{xv:Value}{sd:D}{info:TypeInfo}{z:List D}{rs ns:List (List D)}{vx:List Value}
   (hrun:∀v w',(Builtin.append_ tys o.type #[a.eval s,xv]).run P W= .ok v w'→(execOp a.eval o).run P W= .ok (.value v) w')
   (hvs:V k β W (a.eval s) sd) (hinf:P.info? el=some info) (hz:(zeroCells P el).bind d_y=some z) (hzl:z.length=info.size) (hsz:0 < info.size) (hbt:0 < info.bytes)
   (hrs:Rows P σ el sd rs) (hby:info.bytes * (rs.length+ns.length)≤2 ^ 47) (hsl:isSl sd→ns=[]) (hK:∀d σ',x_o P σ el sd rs ns d σ'→K (a_n env o.dst (.val (.one d))) σ')
   (hlx0:ns≠[]→vx.length=ns.length * info.size) (hVx0:ns≠[]→VL k β W vx ns.flatten) (hlenx0:ns≠[]→∀(i:Nat) r,ns[i]? =some r→r.length=P.cellsOf el)
   (hnone:ns=[]→∀(ad:Option Addr) (n c:Nat),n≤c→(Builtin.append_ tys o.type #[.slice ad n c,xv]).run P W= .ok (.slice ad n c) W)
   (hnil:ns≠[]→∀zv,info.zero=some zv→(ns.length:Int)≤9223372036854775807→ns.length * info.bytes≤281474976710656→(Builtin.append_ tys o.type #[.slice none 0 0,xv]).run P W =
     .ok (.slice (some ⟨W.heap.size,0,none⟩) ns.length (grownCap W ns.length 0 el)) (W.drew.alloc (.cells (vx.toArray ++ Builtin.zeroCells zv.cells (grownCap W ns.length 0 el - ns.length)) el)))
   (hgrw:ns≠[]→∀zv,info.zero=some zv→∀(b:Addr) (sLen sCap:Nat) (olds:List Value),olds.length=sLen * info.size→(∀(j:Nat) v,olds[j]? =some v→W.cell? (b.add j) =some v)→sCap < sLen+ns.length→
     ((sLen+ns.length:Nat) :Int)≤9223372036854775807→Builtin.nextslicecap (sLen+ns.length) sCap * info.bytes≤281474976710656→(Builtin.append_ tys o.type #[.slice (some b) sLen sCap,xv]).run P W =
     .ok (.slice (some ⟨W.heap.size,0,none⟩) (sLen+ns.length) (grownCap W (sLen+ns.length) sCap el))
       (W.drew.alloc (.cells (olds.toArray ++ vx.toArray ++ Builtin.zeroCells zv.cells (grownCap W (sLen+ns.length) sCap el - (sLen+ns.length))) el)))
   (hroomR:ns≠[]→∀(g off sLen sCap:Nat) (cur:Array Value) (tt:TypeId),W.heap[g]? =some (.cells cur tt (0,0))→sLen+ns.length≤sCap→off+sLen * info.size+vx.length≤cur.size→
     (Builtin.append_ tys o.type #[.slice (some ⟨g,off,none⟩) sLen sCap,xv]).run P W =
     .ok (.slice (some ⟨g,off,none⟩) (sLen+ns.length) sCap) (W.setRow g (cur.toList.take (off+sLen * info.size) ++ vx ++ cur.toList.drop (off+sLen * info.size+vx.length)).toArray)) :
   o.wp P a W (Out df P k0 β0 σ0 W0 n (Dst o) env K) Q:=by
 have h0:ns=[]→K (a_n env o.dst (.val (.one sd))) σ:=fun hn=>hK _ _ (.inl ⟨hn,rfl,rfl⟩)
 have hce:P.cellsOf el=info.size:=by simp[Program.cellsOf,hinf]
 have hpos:0 < P.cellsOf el:=by omega
 obtain ⟨zv,hzz,hzsz,hzc⟩ :∃zv,info.zero=some zv∧zv.cells.size=info.size∧∀v ∈ zv.cells.toList,cell1 v=true:=by
   cases hzs:zeroCells P el with
   | none=>rw[hzs] at hz;cases hz
   | some zs=>
     rw[hzs] at hz
     obtain ⟨i,zv,hi,hzz,rfl⟩:=c_z hzs
     rw[hinf] at hi;injection hi with hi;subst hi
     have hVL:=g_h (k:=k) (β:=β) (W:=W) hz
     exact ⟨zv,hzz,by have:=hVL.1;simp at this;omega,c_2 hVL⟩
 by_cases hne:ns=[]
 · subst hne
   obtain ⟨ad,c,es,hc⟩:=l_2 hvs hrs
   refine a_v (e:= .val (.one sd)) (v:=a.eval s) hd hdef h ?_ (by rintro cs (h | h) <;> cases h) hvs (h0 rfl)
   refine hrun _ _ ?_
   rw[es]
   exact hnone rfl ad _ c hc
 · have hgrow:¬Room P σ sd ns.length→newObj σ (.live el (rs ++ ns)) (fun id σ'=>K (a_n env o.dst (.val (.one (.osl id 0 (rs.length+ns.length))))) σ'):=fun hnr id hid=>hK _ _ (.inr (.inl ⟨⟨hne,hnr⟩,id,hid,rfl,rfl⟩))
   have hlx:=hlx0 hne
   have hVx:=hVx0 hne
   have hlenx:=hlenx0 hne
   have hm:0 < ns.length:=by
     cases ns with
     | nil=>exact absurd rfl hne
     | cons y r=>simp
   have hbig:rs.length+ns.length≤2 ^ 47:=by
     have:1 * (rs.length+ns.length)≤info.bytes * (rs.length+ns.length):=Nat.mul_le_mul_right _ hbt
     omega
   have h63:((rs.length+ns.length:Nat) :Int)≤9223372036854775807:=by omega
   have hbytes:(rs.length+ns.length) * info.bytes≤140737488355328:=by rw[Nat.mul_comm];omega
   have fin : ¬ Room P σ sd ns.length → ∀ (olds : List Value) (cap0 : Nat), olds.length = rs.length * info.size → VL k β W olds rs.flatten → (∀ (i : Nat) r, rs[i]? = some r → r.length = P.cellsOf el) →
       (Builtin.append_ tys o.type #[a.eval s,xv]).run P W= .ok (.slice (some ⟨W.heap.size,0,none⟩) (rs.length+ns.length) (grownCap W (rs.length+ns.length) cap0 el))
         (W.drew.alloc (.cells (olds.toArray ++ vx.toArray ++ Builtin.zeroCells zv.cells (grownCap W (rs.length+ns.length) cap0 el - (rs.length+ns.length))) el))→
       o.wp P a W (Out df P k0 β0 σ0 W0 n (Dst o) env K) Q:=by
     intro hnr olds cap0 hol hoV hol2 hr
     have hge:=grownCap_ge W (rs.length+ns.length) cap0 el
     refine a_e1 (rs:=rs ++ ns) (vals:=olds ++ vx) (arr:=olds.toArray ++ vx.toArray ++ Builtin.zeroCells zv.cells (grownCap W (rs.length+ns.length) cap0 el - (rs.length+ns.length))) (rest:=(Builtin.zeroCells zv.cells (grownCap W (rs.length+ns.length) cap0 el - (rs.length+ns.length))).toList) (cap:=grownCap W (rs.length+ns.length) cap0 el) hd hdef h hpos (by simp) ?_ ?_ ?_ (n_7 hzc _) ?_ (grownCap_le_maxLen _ _ _ _ (by unfold maxLen;omega)) ?_ (by rw[List.length_append];exact hrun _ _ hr) ?_
     · rw[List.length_append,hol,hlx,List.length_append,hce,Nat.add_mul]
     · rw[List.flatten_append];exact hoV.append hVx
     · intro i r hi
       by_cases hlt:i < rs.length
       · rw[List.getElem?_append_left hlt] at hi;exact hol2 i r hi
       · rw[List.getElem?_append_right (by omega)] at hi;exact hlenx _ r hi
     · rw[List.length_append];exact hge
     · simp only[Array.size_append,List.size_toArray,size_zeroCells,hzsz,hol,hlx,hce]
       rw[←Nat.add_mul,←Nat.add_mul]
       congr 1;omega
     · rw[List.length_append];exact hgrow hnr
   have none_case:¬Room P σ sd ns.length→rs=[]→∀ad,a.eval s= .slice ad 0 0→o.wp P a W (Out df P k0 β0 σ0 W0 n (Dst o) env K) Q:=by
     intro hnr hrn ad he
     subst hrn
     simp only[List.length_nil,Nat.zero_add] at fin h63 hbytes
     cases ad with
     | none=>
       refine fin hnr [] 0 (by simp) ⟨rfl,fun i v d hv=>by simp at hv⟩ (fun i r hr=>by simp at hr) ?_
       rw[he]
       have:=hnil hne zv hzz h63 (by omega)
       simpa using this
     | some b=>
       refine fin hnr [] 0 (by simp) ⟨rfl,fun i v d hv=>by simp at hv⟩ (fun i r hr=>by simp at hr) ?_
       rw[he]
       have:=hgrw hne zv hzz b 0 0 [] (by simp) (fun j v hv=>by simp at hv) (by omega) (by simpa using h63) (growslice_fits (by omega) (by simpa using hbytes))
       simpa using this
   generalize hse:a.eval s=vs at hvs
   have hvs':=hvs
   cases hvs with
   | nils=>exact none_case (by rintro ⟨_,_,_,_,_,e,_⟩;cases e) hrs none hse
   | zsl ad=>exact none_case (by rintro ⟨_,_,_,_,_,e,_⟩;cases e) hrs ad hse
   | sl=>exact absurd (hsl trivial) hne
   | osl id i0 len cap ad bi hb ha hc hcap hcm=>
     have hrs':=hrs
     obtain ⟨tt,rows,hlive,het,hfit,hrse⟩:=hrs
     obtain ⟨arr,g1,g2,g3,g4,g5,g6,g7⟩:=h.srel.obj id bi tt rows hb hlive
     have hlen:rs.length=len:=by rw[hrse];simp;omega
     have hbe:bi.es=info.size:=by rw[←g3,het,hce]
     by_cases hroom:len+ns.length≤cap
     · -- in place
       have ha:=ha (by omega)
       subst ha
       have hcap':(i0+cap) * info.size≤arr.size:=by rw[g2,←hbe];exact Nat.le_of_eq hcap
       have hfit2:i0 * info.size+len * info.size+vx.length≤arr.size:=by
         rw[hlx]
         have:(i0+ (len+ns.length)) * info.size≤(i0+cap) * info.size:=Nat.mul_le_mul_right _ (by omega)
         rw[Nat.add_mul,Nat.add_mul] at this;omega
       have hr:=hroomR hne bi.blk (i0 * bi.es) len cap arr _ g1 hroom (by rw[hbe];exact hfit2)
       rw[hbe] at hr
       have hoff:i0 * info.size+len * info.size=(i0+len) * info.size:=by rw[Nat.add_mul]
       have hq:=hK _ _ (.inr (.inr ⟨hne,id,i0,len,tt,rows,rfl,hlive,rfl,rfl⟩))
       have hend:(i0+len) * info.size+vx.length≤arr.size:=by rw[←hoff];exact hfit2
       have hclen:(arr.toList.take (i0 * info.size+len * info.size) ++ vx ++ arr.toList.drop (i0 * info.size+len * info.size+vx.length)).length=arr.size:=by simp;omega
       have hrowlen : ∀ (r : Nat) row, (rows.take (i0 + len) ++ ns ++ rows.drop (i0 + len + ns.length))[r]? = some row →
           (r < i0+len∧rows[r]? =some row)∨(i0+len≤r∧r < i0+len+ns.length∧ns[r - (i0+len)]? =some row)∨(i0+len+ns.length≤r∧rows[r]? =some row):=by
         intro r row hr
         have htl:(rows.take (i0+len)).length=i0+len:=by simp;omega
         by_cases c1:r < i0+len
         · rw[List.getElem?_append_left (by simp;omega),List.getElem?_append_left (by rw[htl];exact c1),List.getElem?_take,if_pos c1] at hr
           exact .inl ⟨c1,hr⟩
         · by_cases c2:r < i0+len+ns.length
           · rw[List.getElem?_append_left (by simp;omega),List.getElem?_append_right (by rw[htl];omega),htl] at hr
             exact .inr (.inl ⟨by omega,c2,hr⟩)
           · rw[List.getElem?_append_right (by simp;omega),List.getElem?_drop] at hr
             have e1:i0+len+ns.length+ (r - (List.take (i0+len) rows ++ ns).length) =r:=by simp;omega
             rw[e1] at hr
             exact .inr (.inr ⟨by omega,hr⟩)
       have hrows_le:(rows.take (i0+len) ++ ns ++ rows.drop (i0+len+ns.length)).length * info.size≤arr.size:=by
         have hl2:(rows.take (i0+len) ++ ns ++ rows.drop (i0+len+ns.length)).length=max rows.length (i0+len+ns.length):=by simp;omega
         rw[hl2]
         rcases Nat.le_total rows.length (i0+len+ns.length) with c | c
         · rw[Nat.max_eq_right c,Nat.add_mul];rw[hlx] at hend;exact hend
         · rw[Nat.max_eq_left c,←hbe];exact g4
       have hget : ∀ m, (arr.toList.take (i0 * info.size + len * info.size) ++ vx ++ arr.toList.drop (i0 * info.size + len * info.size + vx.length)).toArray[m]? =
           if m < (i0+len) * info.size then arr[m]? else if m < (i0+len) * info.size+vx.length then vx[m - (i0+len) * info.size]? else arr[m]? :=by
         intro m
         rw[hoff]
         simp only[List.getElem?_toArray]
         by_cases c1:m < (i0+len) * info.size
         · rw[if_pos c1,List.getElem?_append_left (by simp;omega),List.getElem?_append_left (by simp;omega),List.getElem?_take,if_pos c1];simp
         · rw[if_neg c1]
           by_cases c2:m < (i0+len) * info.size+vx.length
           · rw[if_pos c2,List.getElem?_append_left (by simp;omega),List.getElem?_append_right (by simp;omega)]
             congr 1;simp;omega
           · rw[if_neg c2,List.getElem?_append_right (by simp;omega),List.getElem?_drop]
             have:(i0+len) * info.size+vx.length+ (m - (List.take ((i0+len) * info.size) arr.toList ++ vx).length) =m:=by simp;omega
             rw[this];simp
       have hS:=h.srel.setObj hb hlive (rows':=rows.take (i0+len) ++ ns ++ rows.drop (i0+len+ns.length)) (c:=(arr.toList.take (i0 * info.size+len * info.size) ++ vx ++ arr.toList.drop (i0 * info.size+len * info.size+vx.length)).toArray) g1
         (by simp only[List.size_toArray];exact hclen) (by rw[hbe];exact hrows_le)
         (fun v hv=>by
           simp only[List.mem_toArray,List.mem_append] at hv
           rcases hv with (hv | hv) | hv
           · exact g5 v (by have:=List.mem_of_mem_take hv;simpa using this)
           · exact c_2 hVx v hv
           · exact g5 v (by have:=List.mem_of_mem_drop hv;simpa using this))
         (fun r row hr=>by
           rcases hrowlen r row hr with ⟨_,q⟩ | ⟨_,_,q⟩ | ⟨_,q⟩
           · exact g6 _ row q
           · rw[hbe,←hce];exact hlenx _ row q
           · exact g6 _ row q)
         (fun r row j d hr hj=>by
           have hjl:∀l,row.length=l→j < l:=fun l hl=>by rw[←hl];exact (List.getElem?_eq_some_iff.1 hj).1
           rw[hget]
           rcases hrowlen r row hr with ⟨c,q⟩ | ⟨c,c2,q⟩ | ⟨c,q⟩
           · have hjs:=hjl _ (g6 _ row q)
             rw[hbe] at hjs ⊢
             have:=f_p hjs c
             rw[if_pos this]
             have:=g7 _ row j d q hj
             rw[hbe] at this;exact this
           · have hjs:=hjl _ (hlenx _ row q)
             rw[hce] at hjs
             rw[hbe]
             have e1:r * info.size=(i0+len) * info.size+ (r - (i0+len)) * info.size:=by rw[←Nat.add_mul];congr 1;omega
             have hlt:(r - (i0+len)) * info.size+j < vx.length:=by rw[hlx];exact f_p hjs (by omega)
             rw[if_neg (by omega),if_pos (by omega)]
             have e2:r * info.size+j - (i0+len) * info.size=(r - (i0+len)) * info.size+j:=by omega
             rw[e2]
             have hfd:ns.flatten[(r - (i0+len)) * info.size+j]? =some d:=by
               have hidx':(r - (i0+len)) * info.size+j < ns.flatten.length:=by rw[←hVx.1];exact hlt
               obtain ⟨row',q1,q2⟩:=d_1 hsz ns (fun i r hr=>by rw[←hce];exact hlenx i r hr) _ _ (List.getElem?_eq_getElem hidx')
               have e1:((r - (i0+len)) * info.size+j) / info.size=r - (i0+len):=by
                 rw[Nat.mul_comm,Nat.mul_add_div hsz,Nat.div_eq_of_lt hjs];rfl
               have e2:((r - (i0+len)) * info.size+j) % info.size=j:=by rw[Nat.mul_comm,Nat.mul_add_mod,Nat.mod_eq_of_lt hjs]
               rw[e1,q] at q1;injection q1 with q1;subst q1
               rw[e2,hj] at q2
               rw[List.getElem?_eq_getElem hidx',←q2]
             exact ⟨_,List.getElem?_eq_getElem hlt,hVx.2 _ _ d (List.getElem?_eq_getElem hlt) hfd⟩
           · have hjs:=hjl _ (g6 _ row q)
             rw[hbe]
             have:(i0+len+ns.length) * info.size≤r * info.size:=Nat.mul_le_mul_right _ c
             rw[Nat.add_mul,←hlx] at this
             rw[if_neg (by omega),if_neg (by omega)]
             have:=g7 _ row j d q hj
             rw[hbe] at this;exact this)
       have hX := h.step hS ⟨fun _ h => h, fun _ h => .inl h, fun _ _ h => h, fun _ _ h => .inl h, fun j hj => by
           rw[Store.set_ne _ _ (by intro e;subst e;rw[hlive] at hj;cases hj)];exact hj⟩
         ⟨rfl,rfl,rfl,by rw[setRow_size];exact Nat.le_refl _,fun b hbl hn=>a_z _ _ _ _ (fun e=>hn id bi hb (by rw[hlive];intro e;cases e) e.symm)⟩
       refine c_u (hrun _ _ (by rw[hse,hbe];exact hr)) (c_f (e:= .val (.one (.osl id i0 (len+ns.length)))) hd hdef hX (by rintro cs (h | h) <;> cases h) ?_ hq)
       have:=V.osl (k:=k) (β:=β) (W:=W.setRow bi.blk (arr.toList.take (i0 * info.size+len * info.size) ++ vx ++ arr.toList.drop (i0 * info.size+len * info.size+vx.length)).toArray) id i0 (len+ns.length) cap ⟨bi.blk,i0 * bi.es,none⟩ bi hb (fun _=>rfl) hroom hcap hcm
       rw[hbe] at this;exact this
     · -- grown
       have hnr:¬Room P σ (.osl id i0 len) ns.length:=by
         rintro ⟨id',i0',len',t',rows',e,hl',hp',hr'⟩
         injection e with e1 e2 e3
         subst e1 e2 e3
         rw[hlive] at hl'
         injection hl' with q1 q2
         subst q1 q2
         rw[g2,←hcap] at g4
         have:=Nat.le_of_mul_le_mul_right g4 (by rw[←g3];exact hp')
         omega
       by_cases hrn:rs=[]
       · have hl0:len=0:=by rw[←hlen,hrn];rfl
         subst hl0
         subst hrn
         simp only[List.length_nil,Nat.zero_add] at fin h63 hbytes hroom
         refine fin hnr [] cap (by simp) ⟨rfl,fun i v d hv=>by simp at hv⟩ (fun i r hr=>by simp at hr) ?_
         rw[hse]
         have:=hgrw hne zv hzz ad 0 cap [] (by simp) (fun j v hv=>by simp at hv) (by omega) (by simpa using h63) (growslice_fits (by omega) (by simpa using hbytes))
         simpa using this
       · obtain ⟨ads,cs',vs',exs,hcs,hsps,hls,hVs,hcells,hlens⟩:=o_r h.srel hvs' hrs' hpos hrn
         injection exs with exs1 exs2 exs3
         injection exs1 with exs1
         subst exs1
         rw[hce] at hls
         refine fin hnr vs' cap hls hVs hlens ?_
         rw[hse,←hlen]
         exact hgrw hne zv hzz ad rs.length cap vs' hls hcells (by omega) h63 (growslice_fits (by omega) hbytes)
   | _=>exact hrs.elim
theorem a_i9 (hd:∀d,o.dst=some d→d < n)(hdef:a.defers=df)(h:RelX P k0 β0 σ0 W0 n k β γ a.tmps W env σ)(t:TypeId)(s x:Operand)
   (hrun:∀v w',(Builtin.append_ #[t,t] o.type #[a.eval s,a.eval x]).run P W= .ok v w'→(execOp a.eval o).run P W= .ok (.value v) w')
   (hs:h_4 P t (opE env s) (opE env x) σ fun e σ'=>K (a_n env o.dst e) σ') :o.wp P a W (Out df P k0 β0 σ0 W0 n (Dst o) env K) Q:=by
 obtain ⟨hvs,_⟩:=a_o h a rfl s 0
 obtain ⟨hvx,_⟩:=a_o h a rfl x 0
 unfold h_4 at hs
 split at hs
 rotate_left
 · exact hs.elim
 rename_i el sd xd ht hes hex
 rw[hes] at hvs
 rw[hex] at hvx
 have hvs:V k β W (a.eval s) sd:=hvs
 have hvx:V k β W (a.eval x) xd:=hvx
 split at hs
 rotate_left
 · exact hs.elim
 rename_i info z hinf hz
 split at hs
 rotate_left
 · exact hs.elim
 rename_i hdec
 obtain ⟨hzl,hsz,hbt⟩:=of_decide_eq_true hdec
 obtain ⟨rs,ns,hrs,hns,hby,hsl,hK⟩:=hs
 have hce:P.cellsOf el=info.size:=by simp[Program.cellsOf,hinf]
 have hpos:0 < P.cellsOf el:=by omega
 by_cases hne:ns=[]
 · subst hne
   obtain ⟨ad',c',ex⟩:=a_ds hvx hns
   exact q_j (vx:= []) hd hdef h hrun hvs hinf hz hzl hsz hbt hrs hby hsl hK (fun e=>absurd rfl e) (fun e=>absurd rfl e) (fun e=>absurd rfl e)
     (fun _ ad n c hc=>by rw[ex];exact w_x ht hinf ad ad' n c c' hc) (fun e=>absurd rfl e) (fun e=>absurd rfl e) (fun e=>absurd rfl e)
 · obtain ⟨adx,cx,vx,exx,hcx,hspx,hlx,hVx,hcellx,hlenx⟩:=o_r h.srel hvx hns hpos hne
   rw[hce] at hlx
   have hm:0 < ns.length:=by
     cases ns with
     | nil=>exact absurd rfl hne
     | cons y r=>simp
   refine q_j (vx:=vx) hd hdef h hrun hvs hinf hz hzl hsz hbt hrs hby hsl hK (fun _=>hlx) (fun _=>hVx) (fun _=>hlenx) (fun e=>absurd e hne) (fun _ zv hzz h63 h48=>?_) (fun _ zv hzz b sLen sCap olds ho hoc hg h63 hfit=>?_) (fun _ g off sLen sCap cur tt hg hroom hfit=>?_)
   · rw[exx]
     exact run_append_nil (P:=P) W t o.type el info zv ht hinf hzz adx ns.length cx vx hlx hcellx hm h63 h48
   · rw[exx]
     exact run_append_grow (P:=P) W t o.type el info zv ht hinf hzz b sLen sCap olds ho hoc adx ns.length cx vx hlx hcellx hg h63 hfit
   · rw[exx]
     exact a_dk ht hinf g off sLen sCap cur hg adx ns.length cx vx hlx hcellx (c_2 hVx) hroom hfit
theorem w_q {zs:List Value}{ds:List D}(h:VL k β W zs ds) :∀m:Nat,VL k β W (Builtin.zeroCells zs.toArray m).toList (List.replicate m ds).flatten:=by
 intro m
 have hl:(Builtin.zeroCells zs.toArray m).toList.length=m * zs.length:=by simp[Builtin.zeroCells]
 have hrep:∀(i:Nat) r,(List.replicate m ds)[i]? =some r→r.length=ds.length:=fun i r hr=>by
   rw[List.getElem?_replicate] at hr
   split at hr
   · injection hr with hr;rw[hr]
   · cases hr
 refine ⟨by rw[hl,h_a (es:=ds.length) _ hrep,List.length_replicate,h.1],fun i v d hv hd=>?_⟩
 rcases Nat.eq_zero_or_pos ds.length with h0 | h0
 · have hz:zs.length=0:=by rw[h.1];exact h0
   have:=(List.getElem?_eq_some_iff.1 hv).1
   rw[hl,hz] at this;omega
 · obtain ⟨row,q1,q2⟩:=d_1 h0 (List.replicate m ds) hrep i d hd
   rw[List.getElem?_replicate] at q1
   split at q1
   · injection q1 with q1;subst q1
     have hlt:=(List.getElem?_eq_some_iff.1 hv).1
     rw[hl] at hlt
     have hv2:v=zs.toArray[i % zs.toArray.size]! :=by
       unfold Builtin.zeroCells at hv
       simp only[Array.toList_map,List.getElem?_map,Option.map_eq_some_iff] at hv
       obtain ⟨j,hj,rfl⟩:=hv
       rw[Array.toList_range,List.getElem?_range (by simpa using hlt)] at hj
       injection hj with hj;subst hj;rfl
     have hpos:0 < zs.length:=by rw[h.1];exact h0
     have hmod:i % zs.length < zs.length:=Nat.mod_lt _ hpos
     rw[←h.1] at q2
     refine h.2 (i % zs.length) v d ?_ q2
     rw[hv2]
     simp[hmod]
   · cases q1
theorem a_g3 (hd:∀d,o.dst=some d→d < n)(hdef:a.defers=df)(h:RelX P k0 β0 σ0 W0 n k β γ a.tmps W env σ)(t t':TypeId)(s x:Operand)
   (hrun:∀v w',(Builtin.append_ #[t,t'] o.type #[a.eval s,a.eval x]).run P W= .ok v w'→(execOp a.eval o).run P W= .ok (.value v) w')
   (hs:f_6 P t t' (opE env s) (opE env x) σ fun e σ'=>K (a_n env o.dst e) σ') :o.wp P a W (Out df P k0 β0 σ0 W0 n (Dst o) env K) Q:=by
 obtain ⟨hvs,_⟩:=a_o h a rfl s 0
 obtain ⟨hvx,_⟩:=a_o h a rfl x 0
 unfold f_6 at hs
 split at hs
 rotate_left
 · exact hs.elim
 rename_i el kn qn m ht ht' hes hex
 rw[hes] at hvs
 rw[hex] at hvx
 have hvs:V k β W (a.eval s) .nils:=hvs
 have hvx:V k β W (a.eval x) (.int qn m):=hvx
 split at hs
 rotate_left
 · exact hs.elim
 rename_i z info hz hinf
 split at hs
 rotate_left
 · exact hs.elim
 rename_i hdec
 obtain ⟨hzl,hsz,hbt⟩:=of_decide_eq_true hdec
 obtain ⟨hm0,hby,hK⟩:=hs
 have hce:P.cellsOf el=info.size:=by simp[Program.cellsOf,hinf]
 have hpos:0 < P.cellsOf el:=by omega
 obtain ⟨zv,hzz,hzsz,hzc,hzV⟩ :∃zv,info.zero=some zv∧zv.cells.size=info.size∧(∀v ∈ zv.cells.toList,cell1 v=true)∧VL k β W zv.cells.toList z:=by
   cases hzs:zeroCells P el with
   | none=>rw[hzs] at hz;cases hz
   | some zs=>
     rw[hzs] at hz
     obtain ⟨i,zv,hi,hzz,rfl⟩:=c_z hzs
     rw[hinf] at hi;injection hi with hi;subst hi
     have hVL:=g_h (k:=k) (β:=β) (W:=W) hz
     exact ⟨zv,hzz,by have:=hVL.1;simp at this;omega,c_2 hVL,hVL⟩
 have es:a.eval s= .slice none 0 0:=by
   generalize a.eval s=v at hvs
   cases hvs;rfl
 have ex:a.eval x= .int qn m:=by
   generalize a.eval x=v at hvx
   cases hvx;rfl
 obtain ⟨j,rfl⟩ :∃j:Nat,m=j:=⟨m.toNat,by omega⟩
 have hb1:1 * j≤info.bytes * j:=Nat.mul_le_mul_right _ hbt
 have hb2:info.bytes * j≤140737488355328:=by
   have:((info.bytes * j:Nat) :Int)≤140737488355328:=by rw[Int.natCast_mul];exact hby
   omega
 by_cases hj:j=0
 · subst hj
   have hK:K (a_n env o.dst (.val (.one .nils))) σ:=hK
   refine a_v (e:= .val (.one .nils)) (v:=a.eval s) hd hdef h ?_ (by rintro cs (h | h) <;> cases h) hvs hK
   refine hrun _ _ ?_
   rw[es,ex]
   have hw:IntKind.i64.wrap (0:Int) =0:=by rw[IntKind.wrap_i64];omega
   simp[Builtin.append_,run_underlying ht,run_underlying ht',sizeOf,typeInfo,hinf,asInt,asIntOf,hw]
 · have hK : newObj σ (.live el (List.replicate j z)) fun id σ' => K (a_n env o.dst (.val (.one (.osl id 0 j)))) σ' := by
     have hne:decide ((j:Int) =0) =false:=by simp;omega
     rw[hne] at hK
     exact hK
   have hr:=Lib.run_append_nil_zeros (P:=P) W t t' o.type el info zv qn kn ht ht' hinf hzz j (by omega) hsz (by omega) (by rw[Nat.mul_comm];omega)
   have hge:=grownCap_ge W j 0 el
   have hlrep:(List.replicate j z).length=j:=List.length_replicate
   refine a_e1 (rs:=List.replicate j z) (vals:=(Builtin.zeroCells zv.cells j).toList) (arr:=Builtin.zeroCells zv.cells j ++ Builtin.zeroCells zv.cells (grownCap W j 0 el - j)) (rest:=(Builtin.zeroCells zv.cells (grownCap W j 0 el - j)).toList) (cap:=grownCap W j 0 el)
     hd hdef h hpos (by simp) ?_ ?_ ?_ (n_7 hzc _) (by rw[hlrep];exact hge) (grownCap_le_maxLen _ _ _ _ (by unfold maxLen;omega)) ?_ ?_ (by rw[hlrep];exact hK)
   · rw[hlrep,hce,Array.length_toList,size_zeroCells,hzsz]
   · have:=w_q hzV j
     simpa using this
   · intro i r hi
     rw[List.getElem?_replicate] at hi
     split at hi
     · injection hi with hi;rw[←hi,hzl,hce]
     · cases hi
   · simp only[Array.size_append,size_zeroCells,hzsz,hce]
     rw[←Nat.add_mul]
     congr 1;omega
   · rw[hlrep]
     refine hrun _ _ ?_
     rw[es,ex];exact hr
end
end
section
section
variable {df:List Deferred} {P:Program} {k0:Nat→Prop} {β0:Bk} {σ0:Store} {W0:World} {n:Nat} {k:Nat→Prop} {β:Bk} {γ:Nat→Nat}
 {tmps:Array Value} {W W':World} {env:Env} {σ σ':Store} {a:Act} {o:Oper} {Q:Exit→Act→World→Prop} {K:a_4}
theorem a_mv (hS:SRel P k β W σ){v:Value}{s:D}{es len:Nat}(hv:V k β W v s)(hI:IdxN P σ s es len) :
   ∃(ad:Option Addr) (cap:Nat),v= .slice ad len cap∧len≤cap∧∀l h,l≤h→h≤len→
     V k β W (.slice (if cap=l then ad else ad.map (·.add (l * es))) (h - l) (cap - l)) (e_g s l h):=by
 rcases hI with hI | ⟨rfl,rfl | rfl⟩
 · cases hv with
   | sl ad len' cap es' rows f h1 h2 h3 h4 h5 h6=>
     obtain ⟨rfl,rfl⟩:=hI
     subst h2
     refine ⟨some ad,cap,rfl,h3,fun l h hl hh=>?_⟩
     have hne:(List.take (h - l) (List.drop l rows))≠[]→rows≠[]:=fun hn e=>hn (by simp[e])
     by_cases hc:cap=l
     · rw[if_pos hc]
       have h0:h - l=0:=by omega
       have:e_g (.sl es' rows) l h= .sl es' []:=by simp[e_g,h0]
       rw[this,h0]
       exact V.sl ad 0 (cap - l) es' [] f (fun hn=>absurd rfl hn) rfl (by omega) (by intro i row hr;simp at hr) (by intro i row j d hr;simp at hr) (by intro i row j d hr;simp at hr)
     · rw[if_neg hc]
       show V k β W (.slice (some (ad.add (l * es'))) (h - l) (cap - l)) (.sl es' ((rows.drop l).take (h - l)))
       have hget:∀(i:Nat) row,((rows.drop l).take (h - l))[i]? =some row→rows[i+l]? =some row:=by
         intro i row hr
         rw[List.getElem?_take] at hr
         split at hr
         · rw[List.getElem?_drop] at hr;rw[Nat.add_comm];exact hr
         · cases hr
       refine V.sl _ (h - l) (cap - l) es' _ (fun i j=>f (i+l) j) (fun hn=>?_) (by simp;omega) (by omega) (fun i row hr=>h4 _ row (hget i row hr)) (fun i row j d hr hj=>?_)
         (fun i row j d hr hj=>h6 (i+l) row j d (hget i row hr) hj)
       · obtain ⟨g1,g2⟩:=h1 (hne hn)
         unfold Addr.add
         split
         · exact ⟨g1,g2⟩
         · exact ⟨g1,rfl⟩
       · have hrow:=hget i row hr
         have hne':rows≠[]:=fun e=>by simp[e] at hrow
         have:=h5 (i+l) row j d hrow hj
         rw[←this]
         congr 1
         have hsp:=(h1 hne').2
         obtain ⟨b,o',sp⟩:=ad
         simp at hsp;subst hsp
         rw[add_mk]
         simp only[Addr.mk.injEq,and_true,true_and]
         rw[Nat.add_mul];omega
   | osl id i0 len' cap ad bi hb ha hc hs hcm=>
     obtain ⟨rfl,t,rows,hlive,hes⟩:=hI
     obtain ⟨_,_,_,hes',_⟩:=hS.obj id bi t rows hb hlive
     refine ⟨some ad,cap,rfl,hc,fun l h hl hh=>?_⟩
     have hee:es=bi.es:=by rw[←hes,hes']
     show V k β W _ (.osl id (i0+l) (h - l))
     have key:∀ad':Addr,(0 < cap - l→ad'=⟨bi.blk,(i0+l) * bi.es,none⟩)→V k β W (.slice (some ad') (h - l) (cap - l)) (.osl id (i0+l) (h - l)):=by
       intro ad' h'
       refine V.osl id (i0+l) (h - l) (cap - l) ad' bi hb h' (by omega) ?_ (by omega)
       have:i0+l+ (cap - l) =i0+cap:=by omega
       rw[this];exact hs
     by_cases hcl:cap=l
     · rw[if_pos hcl];exact key ad (fun hh=>by omega)
     · rw[if_neg hcl]
       refine key _ (fun hh=>?_)
       rw[ha (by omega),hee,Nat.add_mul]
       exact add_mk _ _ _
   | _=>exact hI.elim
 · cases hv
   refine ⟨none,0,rfl,Nat.le_refl _,fun l h hl hh=>?_⟩
   obtain rfl:h=0:=by omega
   obtain rfl:l=0:=by omega
   exact V.nils
 · cases hv with
   | zsl ad=>
     refine ⟨ad,0,rfl,Nat.le_refl _,fun l h hl hh=>?_⟩
     obtain rfl:h=0:=by omega
     obtain rfl:l=0:=by omega
     exact V.zsl ad
theorem a_c9 (hd:∀d,o.dst=some d→d < n)(hdef:a.defers=df)(h:RelX P k0 β0 σ0 W0 n k β γ a.tmps W env σ){t:TypeId}{x ix:Operand}(hop:o.op= .index t x ix)
   (ht:P.underlying t=some .string) {s:ByteArray} {q:IntKind} {i m:Int} (hx:opE env x= .val (.one (.str s))) (hi:opE env ix= .val (.one (.int q i))) (hb:n_h s i m)
   (hK:K (a_n env o.dst (.val (.one (.int .u8 m)))) σ) :o.wp P a W (Out df P k0 β0 σ0 W0 n (Dst o) env K) Q:=by
 obtain ⟨hv,_⟩:=a_o h a rfl x 0
 obtain ⟨hw,_⟩:=a_o h a rfl ix 0
 rw[hx] at hv
 rw[hi] at hw
 have hv:V k β W (a.eval x) (.str s):=hv
 have hw:V k β W (a.eval ix) (.int q i):=hw
 have hev:a.eval x= .string s:=by
   generalize a.eval x=v at hv
   cases hv;rfl
 have hew:=V.inv_int hw
 obtain ⟨h0,b,hb,rfl⟩:=hb
 refine a_v (e:= .val (.one (.int .u8 b.toNat))) (v:= .int .u8 b.toNat) hd hdef h ?_ (by rintro cs (h | h) <;> cases h) (V.int _ _) hK
 have hlt:i.toNat < s.size:=(List.getElem?_eq_some_iff.1 hb).1
 have hg:s[i.toNat]? =some b:=by
   rw[getElem?_pos s i.toNat hlt]
   have:=(List.getElem?_eq_some_iff.1 hb).2
   rw[←this];rfl
 simp[execOp,hop,hev,hew,Instr.index,asIntOf,run_underlying ht,h0,hg]
theorem z_m (hd:∀d,o.dst=some d→d < n)(hdef:a.defers=df)(h:RelX P k0 β0 σ0 W0 n k β γ a.tmps W env σ){t:TypeId}{x:Operand}{lo hi:Option Operand}(hop:o.op= .slice t x lo hi none)
   (ht:P.underlying t=some .string) {s:ByteArray} {q:IntKind} {l:Int} (hx:opE env x= .val (.one (.str s))) (hl:(lo.map (opE env)).getD (.val (.one (.int .i64 0))) = .val (.one (.int q l)))
   (hs:z_3 s l (hi.map (opE env)) fun e=>K (a_n env o.dst e) σ) :o.wp P a W (Out df P k0 β0 σ0 W0 n (Dst o) env K) Q:=by
 obtain ⟨hv,_⟩:=a_o h a rfl x 0
 rw[hx] at hv
 have hv:V k β W (a.eval x) (.str s):=hv
 have hev:a.eval x= .string s:=by
   generalize a.eval x=v at hv
   cases hv;rfl
 have hlo:(lo=none∧l=0)∨∃y,lo=some y∧a.eval y= .int q l:=by
   cases lo with
   | none=>simp at hl;exact .inl ⟨rfl,hl.2.symm⟩
   | some y=>
     simp at hl
     have:=(a_o h a rfl y 0).1
     rw[hl] at this
     exact .inr ⟨y,rfl,V.inv_int this⟩
 have sb:∀(q:IntKind) (i y:Nat) (c:BoundsCode),i≤y→(Instr.sliceBound (.int q i) y c).run P W= .ok i W:=by
   intro q i y c hle
   have:(0:Int)≤i∧(i:Int)≤y:=by omega
   simp only[Instr.sliceBound,asIntOf,Sem.run_bind,Sem.run_pure,Result.andThen_ok,if_pos this,Int.toNat_natCast]
 have main:∀l' hh:Nat,l=l'→l'≤hh→hh≤s.size→((hi=none∧hh=s.size)∨∃y q',hi=some y∧a.eval y= .int q' hh)→K (a_n env o.dst (.val (.one (.str (s.extract l' hh))))) σ→o.wp P a W (Out df P k0 β0 σ0 W0 n (Dst o) env K) Q:=by
   rintro l' hh rfl h1 h2 h3 hK
   refine a_v (e:= .val (.one (.str (s.extract l' hh)))) (v:= .string (s.extract l' hh)) hd hdef h ?_ (by rintro cs (h | h) <;> cases h) (V.str _) hK
   have hb:(Instr.sliceBounds false s.size s.size (lo.map a.eval) (hi.map a.eval) none).run P W= .ok (l',hh,s.size) W:=by
     rcases hlo with ⟨rfl,hl0⟩ | ⟨y,rfl,hy⟩ <;> rcases h3 with ⟨rfl,rfl⟩ | ⟨y',q',rfl,hy'⟩
     · have:l'=0:=by omega
       subst this
       simp[Instr.sliceBounds]
     · have:l'=0:=by omega
       subst this
       simp[Instr.sliceBounds,hy',sb q' hh s.size _ (by omega)]
     · simp[Instr.sliceBounds,hy,sb q l' s.size _ h1]
     · simp[Instr.sliceBounds,hy,hy',sb q l' hh _ h1,sb q' hh s.size _ (by omega)]
   simp only[execOp,hop,Instr.sliceAt,Instr.slice,hev,Sem.run_bind,run_underlying ht,Result.andThen_ok,Option.map_none,hb]
   simp[hb]
 unfold z_3 at hs
 split at hs
 · rename_i hhi
   obtain ⟨h0,h1,hK⟩:=hs
   obtain ⟨m,rfl⟩:=Int.eq_ofNat_of_zero_le h0
   rw[Int.toNat_natCast] at hK
   have hn:hi=none:=by cases hi with
     | none=>rfl
     | some y=>cases hhi
   exact main m s.size rfl (by omega) (Nat.le_refl _) (.inl ⟨hn,rfl⟩) hK
 · rename_i q' h' hhi
   obtain ⟨h0,h1,h2,hK⟩:=hs
   obtain ⟨m,rfl⟩:=Int.eq_ofNat_of_zero_le h0
   obtain ⟨m',rfl⟩:=Int.eq_ofNat_of_zero_le (Int.le_trans h0 h1)
   rw[Int.toNat_natCast,Int.toNat_natCast] at hK
   obtain ⟨y,rfl,hy⟩ :∃y,hi=some y∧opE env y= .val (.one (.int q' m')):=by
     cases hi with
     | none=>cases hhi
     | some y=>exact ⟨y,rfl,by simpa using hhi⟩
   have:=(a_o h a rfl y 0).1
   rw[hy] at this
   exact main m m' rfl (by omega) (by omega) (.inr ⟨y,q',rfl,V.inv_int this⟩) hK
 · exact hs.elim
theorem a_j7 (hd:∀d,o.dst=some d→d < n)(hdef:a.defers=df)(h:RelX P k0 β0 σ0 W0 n k β γ a.tmps W env σ)(t:TypeId)(x:Operand)(lo hi:Option Operand)
   (hop:o.op= .slice t x lo hi none) (hs:j_4 P t (opE env x) ((lo.map (opE env)).getD (.val (.one (.int .i64 0)))) (hi.map (opE env)) σ fun e=>K (a_n env o.dst e) σ) :
   o.wp P a W (Out df P k0 β0 σ0 W0 n (Dst o) env K) Q:=by
 obtain ⟨hx,_⟩:=a_o h a rfl x 0
 have hlo : ∀ q l, (lo.map (opE env)).getD (.val (.one (.int .i64 0))) = .val (.one (.int q l)) →
     (lo=none∧l=0)∨∃y,lo=some y∧a.eval y= .int q l:=by
   intro q l he
   cases lo with
   | none=>simp at he;exact .inl ⟨rfl,he.2.symm⟩
   | some y=>
     simp at he
     have:=(a_o h a rfl y 0).1
     rw[he] at this
     exact .inr ⟨y,rfl,V.inv_int this⟩
 have run : ∀ (s : D) (el : TypeId) (len : Nat) (l hh : Nat) (q : IntKind), P.underlying t = some (.slice el) → (P.info? el).isSome = true → V k β W (a.eval x) s → IdxN P σ s (P.cellsOf el) len → l ≤ hh → hh ≤ len →
     ((lo=none∧(l:Int) =0)∨∃y,lo=some y∧a.eval y= .int q l)→((hi=none∧hh=len)∨∃y q',hi=some y∧a.eval y= .int q' hh)→
     K (a_n env o.dst (.val (.one (e_g s l hh)))) σ→o.wp P a W (Out df P k0 β0 σ0 W0 n (Dst o) env K) Q:=by
   intro s el len l hh q hu hinf hv hI hl hhl h1 h2 hK
   obtain ⟨info,hinf⟩:=Option.isSome_iff_exists.1 hinf
   obtain ⟨ad,cap,he,hc,hV⟩:=a_mv h.srel hv hI
   refine a_v (e:= .val (.one (e_g s l hh))) hd hdef h (v:= .slice (if cap=l then ad else ad.map (·.add (l * P.cellsOf el))) (hh - l) (cap - l)) ?_ (by rintro cs (h | h) <;> cases h) (hV l hh hl hhl) hK
   have hb:(Instr.sliceBounds true len cap (lo.map a.eval) (hi.map a.eval) none).run P W= .ok (l,hh,cap) W:=by
     have sb:∀(q:IntKind) (i y:Nat) (c:BoundsCode),i≤y→(Instr.sliceBound (.int q i) y c).run P W= .ok i W:=by
       intro q i y c hle
       have:(0:Int)≤i∧(i:Int)≤y:=by omega
       simp only[Instr.sliceBound,asIntOf,Sem.run_bind,Sem.run_pure,Result.andThen_ok,if_pos this,Int.toNat_natCast]
     rcases h1 with ⟨rfl,hl0⟩ | ⟨y,rfl,hy⟩ <;> rcases h2 with ⟨rfl,rfl⟩ | ⟨y',q',rfl,hy'⟩
     · have:l=0:=by omega
       subst this
       simp[Instr.sliceBounds]
     · have:l=0:=by omega
       subst this
       simp[Instr.sliceBounds,hy',sb q' hh cap _ (by omega)]
     · simp[Instr.sliceBounds,hy,sb q l hh _ hl]
     · simp[Instr.sliceBounds,hy,hy',sb q l hh _ hl,sb q' hh cap _ (by omega)]
   simp only[execOp,hop,Instr.sliceAt,Instr.slice,he,Sem.run_bind,run_underlying hu,Result.andThen_ok,Option.map_none,hb,run_sizeOf W hinf]
   rfl
 unfold j_4 at hs
 split at hs
 · rename_i el s q l hu hxe hle
   rw[hxe] at hx
   have hlo:=hlo q l hle
   split at hs
   · rename_i info hinf hhi
     obtain ⟨len,hI,h0,hll,hK⟩:=hs
     obtain ⟨m,rfl⟩:=Int.eq_ofNat_of_zero_le h0
     rw[Int.toNat_natCast] at hK
     have hn:hi=none:=by cases hi with
       | none=>rfl
       | some y=>cases hhi
     exact run s el len m len q hu (by rw[hinf];rfl) hx hI (by omega) (Nat.le_refl _) hlo (.inl ⟨hn,rfl⟩) hK
   · rename_i info q' h' hinf hhi
     obtain ⟨len,hI,h0,hll,hhl,hK⟩:=hs
     obtain ⟨m,rfl⟩:=Int.eq_ofNat_of_zero_le h0
     obtain ⟨m',rfl⟩:=Int.eq_ofNat_of_zero_le (Int.le_trans h0 hll)
     rw[Int.toNat_natCast,Int.toNat_natCast] at hK
     cases hi with
     | none=>cases hhi
     | some y=>
       simp at hhi
       have:=(a_o h a rfl y 0).1
       rw[hhi] at this
       exact run s el len m m' q hu (by rw[hinf];rfl) hx hI (by omega) (by omega) hlo (.inr ⟨y,q',rfl,V.inv_int this⟩) hK
   · exact hs.elim
 · rename_i s q l ht hxe hle
   exact z_m hd hdef h hop ht hxe hle hs
 · exact hs.elim
theorem a_hz {v:Value}{s:D}{len:Nat}(hv:V k β W v s)(hl:Len s len) :∃ad cap,v= .slice ad len cap:=by
 cases hv <;> simp[Len] at hl <;> subst hl <;> first | exact ⟨_,_,rfl⟩ | (rename_i h2 _ _ _ _;subst h2;exact ⟨_,_,rfl⟩)
theorem s_j (q:IntKind)(i y:Nat)(c:BoundsCode)(hle:i≤y) :(Instr.sliceBound (.int q i) y c).run P W= .ok i W:=by
 have:(0:Int)≤i∧(i:Int)≤y:=by omega
 simp only[Instr.sliceBound,asIntOf,Sem.run_bind,Sem.run_pure,Result.andThen_ok,if_pos this,Int.toNat_natCast]
theorem a_i2 (hd:∀d,o.dst=some d→d < n)(hdef:a.defers=df)(h:RelX P k0 β0 σ0 W0 n k β γ a.tmps W env σ)(t:TypeId)(x lo hi mx:Operand)
   (hop:o.op= .slice t x (some lo) (some hi) (some mx)) (hs:dSl3 P t (opE env x) (opE env lo) (opE env hi) (opE env mx) fun e=>K (a_n env o.dst e) σ) :
   o.wp P a W (Out df P k0 β0 σ0 W0 n (Dst o) env K) Q:=by
 obtain ⟨hx,_⟩:=a_o h a rfl x 0
 obtain ⟨h1,_⟩:=a_o h a rfl lo 0
 obtain ⟨h2,_⟩:=a_o h a rfl hi 0
 obtain ⟨h3,_⟩:=a_o h a rfl mx 0
 unfold dSl3 at hs
 split at hs
 · rename_i el s q l q2 hh q3 m hu ex el1 el2 el3
   rw[ex] at hx
   rw[el1] at h1
   rw[el2] at h2
   rw[el3] at h3
   split at hs
   · rename_i info hinf
     obtain ⟨len,hl,g0,g1,g2,g3,hK⟩:=hs
     obtain ⟨ad,cap,he⟩:=a_hz (k:=k) (β:=β) (W:=W) hx hl
     have hcap:len≤cap:=by
       have hx:V k β W (a.eval x) s:=hx
       rw[he] at hx
       cases hx <;> first | omega | assumption
     obtain ⟨l,rfl⟩:=Int.eq_ofNat_of_zero_le g0
     obtain ⟨hh,rfl⟩:=Int.eq_ofNat_of_zero_le (Int.le_trans g0 g1)
     obtain ⟨m,rfl⟩:=Int.eq_ofNat_of_zero_le (Int.le_trans (Int.le_trans g0 g1) g2)
     have e1:=V.inv_int h1
     have e2:=V.inv_int h2
     have e3:=V.inv_int h3
     refine a_v (e:= .undef) hd hdef h (v:= .slice (if m=l then ad else ad.map (·.add (l * P.cellsOf el))) (hh - l) (m - l)) ?_ (by rintro cs (h | h) <;> cases h) trivial hK
     have hb:(Instr.sliceBounds true len cap (some (a.eval lo)) (some (a.eval hi)) (some (a.eval mx))).run P W= .ok (l,hh,m) W:=by
       simp[Instr.sliceBounds,e1,e2,e3,s_j q3 m cap _ (by omega),s_j q2 hh m _ (by omega),s_j q l hh _ (by omega)]
     simp only[execOp,hop,Instr.sliceAt,Instr.slice,he,Sem.run_bind,run_underlying hu,Result.andThen_ok,Option.map_some,hb,run_sizeOf W hinf]
     rfl
   · exact hs.elim
 · exact hs.elim
theorem a_nd (hd:∀d,o.dst=some d→d < n)(hdef:a.defers=df)(h:RelX P k0 β0 σ0 W0 n k β γ a.tmps W env σ)(t:TypeId)(x lo hi:Operand)
   (hop:o.op= .slice t x (some lo) (some hi) none) (hs:a_il P t (opE env x) (opE env lo) (opE env hi) σ fun e=>K (a_n env o.dst e) σ) :
   o.wp P a W (Out df P k0 β0 σ0 W0 n (Dst o) env K) Q:=by
 obtain ⟨hx,_⟩:=a_o h a rfl x 0
 obtain ⟨h1,_⟩:=a_o h a rfl lo 0
 obtain ⟨h2,_⟩:=a_o h a rfl hi 0
 unfold a_il at hs
 split at hs
 · rename_i el s q l q2 hh hu ex el1 el2
   rw[ex] at hx
   rw[el1] at h1
   rw[el2] at h2
   split at hs
   · rename_i info hinf
     obtain ⟨m,⟨id,i0,len,tt,rows,rfl,hlv,hce,hpos,hfit⟩,g0,g1,g2,hK⟩:=hs
     obtain ⟨l,rfl⟩:=Int.eq_ofNat_of_zero_le g0
     obtain ⟨hh,rfl⟩:=Int.eq_ofNat_of_zero_le (Int.le_trans g0 g1)
     have e1:=V.inv_int h1
     have e2:=V.inv_int h2
     have hx:V k β W (a.eval x) (.osl id i0 len):=hx
     generalize hev:a.eval x=xv at hx
     cases hx with
     | osl _ _ _ cap ad bi hb ha hc hsz hm=>
       obtain ⟨arr,b1,b2,b3,b4,b5,b6,b7⟩:=h.srel.obj id bi tt rows hb hlv
       have hes:bi.es=P.cellsOf el:=by rw[←b3,hce]
       have hroom:hh≤cap:=by
         have e:(i0+cap) * bi.es≥rows.length * bi.es:=by omega
         have e':rows.length≤i0+cap:=Nat.le_of_mul_le_mul_right e (by omega)
         omega
       refine a_v (e:= .val (.one (.osl id (i0+l) (hh - l)))) hd hdef h (v:= .slice (some (if cap=l then ad else ad.add (l * P.cellsOf el))) (hh - l) (cap - l)) ?_ (by rintro cs (h | h) <;> cases h) ?_ (by simpa[e_g] using hK)
       · have hb' : (Instr.sliceBounds true len cap (some (a.eval lo)) (some (a.eval hi)) none).run P W = .ok (l, hh, cap) W := by
           simp[Instr.sliceBounds,e1,e2,s_j q2 hh cap _ (by omega),s_j q l hh _ (by omega)]
         simp only[execOp,hop,Instr.sliceAt,Instr.slice,hev,Sem.run_bind,run_underlying hu,Result.andThen_ok,Option.map_some,Option.map_none,hb',run_sizeOf W hinf]
         by_cases e:cap=l
         · simp[e]
         · simp[e]
       · refine V.osl id (i0+l) (hh - l) (cap - l) _ bi hb (fun hlt=>?_) (by omega) ?_ (by omega)
         · have e:¬cap=l:=by omega
           rw[if_neg e,ha (by omega),←hes,Nat.add_mul];simp[Addr.add]
         · have e:i0+l+ (cap - l) =i0+cap:=by omega
           rw[e];exact hsz
   · exact hs.elim
 · exact hs.elim
theorem a_lp {t:TypeId}{agg:Bool}(hagg:b_k P t=some agg){vs:Array Value}{off:Nat} :
   (agg=true→(part t vs off).run P W= .ok (.agg ((vs.toList.drop off).take (P.cellsOf t)).toArray) W)∧
   (∀u,agg=false→(vs.toList.drop off).take (P.cellsOf t) =[u]→(part t vs off).run P W= .ok u W):=by
 obtain ⟨i,hi,hs⟩:=p_s hagg
 constructor
 · intro he;subst he
   have:vs.extract off (off+P.cellsOf t) =((vs.toList.drop off).take (P.cellsOf t)).toArray:=by
     apply Array.ext'
     simp[Array.toList_extract,List.extract]
   simp[part,i_m hagg,run_sizeOf W hi,this]
 · intro u he hu;subst he
   have hget:vs[off]? =some u:=by
     have:=congrArg (·[0]?) hu
     simp only[List.getElem?_take,List.getElem?_drop] at this
     split at this
     · simpa using this
     · simp at this
   simp[part,i_m hagg,hget]
def asV (agg:Bool)(vs:List Value) :Value:=if agg then .agg vs.toArray else vs.headD undef
theorem a_mi {vs:List Value}{q:IntKind}{m:Int}(h:VL k β W vs [.int q m]) :vs=[.int q m]:=by
 obtain ⟨hl,hv⟩:=h
 cases vs with
 | nil=>simp at hl
 | cons v vs=>
   cases vs with
   | cons=>simp at hl
   | nil=>rw[V.inv_int (hv 0 v _ rfl rfl)]
theorem a_h2 {vs:List Value}{b:Bool}(h:VL k β W vs [.bool b]) :vs=[.bool b]:=by
 obtain ⟨hl,hv⟩:=h
 cases vs with
 | nil=>simp at hl
 | cons v vs=>
   cases vs with
   | cons=>simp at hl
   | nil=>rw[V.inv_bool (hv 0 v _ rfl rfl)]
theorem a_ls {vs:List Value}{s:ByteArray}(h:VL k β W vs [.str s]) :vs=[.string s]:=by
 obtain ⟨hl,hv⟩:=h
 cases vs with
 | nil=>simp at hl
 | cons v vs=>
   cases vs with
   | cons=>simp at hl
   | nil=>rw[V.inv_str (hv 0 v _ rfl rfl)]
def EqOK (P:Program)(k:Nat→Prop)(β:Bk)(W:World)(m:Nat) :Prop:=∀(t:TypeId) (xs ys:List D) (b:Bool) (vx vy:List Value),eqD P m t xs ys=some b→VL k β W vx xs→VL k β W vy ys→
   ∃agg,b_k P t=some agg∧(agg=false→vx.length=1∧vy.length=1)∧∀e,(Op.equalIn (m+e) t (asV agg vx) (asV agg vy)).run P W= .ok b W
theorem a_ic {m:Nat}(ih:EqOK P k β W m)(e:Nat)(xs ys:List D)(vx vy:Array Value)(hx:VL k β W vx.toList xs)(hy:VL k β W vy.toList ys) :
   ∀(fs:List Field) (b:Bool),eqF (eqD P m) P fs xs ys=some b→(Op.eqFields (m+e) vx vy fs).run P W= .ok b W
 | [],b,h=>by simp[eqF] at h;subst h;simp[Op.eqFields]
 | fd::fs,b,h=>by
   unfold eqF at h
   split at h
   · cases h
   · rename_i hn
     have hn' : fd.name ≠ "_" := by simpa using hn
     split at h
     · cases h
     · rename_i r hr
       obtain ⟨agg,hagg,h1,h2⟩:=ih _ _ _ r _ _ hr (hx.drop_take fd.offset (P.cellsOf fd.type)) (hy.drop_take fd.offset (P.cellsOf fd.type))
       have hpart : ∀ (vs : Array Value), (agg = false → ((vs.toList.drop fd.offset).take (P.cellsOf fd.type)).length = 1) →
           (part fd.type vs fd.offset).run P W= .ok (asV agg ((vs.toList.drop fd.offset).take (P.cellsOf fd.type))) W:=by
         intro vs hl
         obtain ⟨p1,p2⟩:=a_lp (P:=P) (W:=W) hagg (vs:=vs) (off:=fd.offset)
         cases agg with
         | true=>exact p1 rfl
         | false=>
           have hl:=hl rfl
           match hc:(vs.toList.drop fd.offset).take (P.cellsOf fd.type),hl with
           | [u],_=>exact p2 u rfl hc
       have e1:=hpart vx (fun h=>(h1 h).1)
       have e2:=hpart vy (fun h=>(h1 h).2)
       have e3:=h2 e
       have hb:b=(r && match fs with | []=>true | _::_=>(eqF (eqD P m) P fs xs ys).getD false)∧∃b',eqF (eqD P m) P fs xs ys=some b':=by
         cases fs with
         | nil=>simp at h;subst h;simp[eqF]
         | cons f2 fs2=>
           simp only at h
           split at h
           · rename_i b' hb';injection h with h;subst h;exact ⟨by simp[hb'],b',hb'⟩
           · cases h
       obtain ⟨hb1,b',hb'⟩:=hb
       have hrest:=a_ic ih e xs ys vx vy hx hy fs b' hb'
       have hb2:b=(r && b'):=by
         rw[hb1]
         cases fs with
         | nil=>simp[eqF] at hb';subst hb';rfl
         | cons=>simp[hb']
       simp only[Op.eqFields,if_pos hn',Sem.run_bind,e1,e2,e3,Result.andThen_ok]
       cases r with
       | false=>simp[hb2]
       | true=>simp[hb2,hrest]
theorem a_br:∀m,EqOK P k β W m
 | 0,t,xs,ys,b,vx,vy,h,_,_=>by simp[eqD] at h
 | m+1,t,xs,ys,b,vx,vy,h,hx,hy=>by
   unfold eqD at h
   split at h
   · rename_i q hu
     split at h
     · rename_i q1 x q2 y
       split at h
       · rename_i hq
         have hq:=of_decide_eq_true hq
         subst hq
         injection h with h;subst h
         rw[a_mi hx,a_mi hy]
         refine ⟨false,by simp[b_k,hu],fun _=>⟨rfl,rfl⟩,fun e=>?_⟩
         rw[show m+1+e=(m+e) +1 by omega]
         exact run_equalIn_int W (m+e) t q1 q x y hu
       · cases h
     · cases h
   · rename_i hu
     split at h
     · rename_i x y
       injection h with h;subst h
       rw[a_h2 hx,a_h2 hy]
       refine ⟨false,by simp[b_k,hu],fun _=>⟨rfl,rfl⟩,fun e=>?_⟩
       rw[show m+1+e=(m+e) +1 by omega]
       exact run_equalIn_bool W (m+e) t x y hu
     · cases h
   · rename_i hu
     split at h
     · rename_i x y
       injection h with h;subst h
       rw[a_ls hx,a_ls hy]
       refine ⟨false,by simp[b_k,hu],fun _=>⟨rfl,rfl⟩,fun e=>?_⟩
       rw[show m+1+e=(m+e) +1 by omega]
       simp[asV,Op.equalIn,run_underlying hu]
     · cases h
   · rename_i fs hu
     split at h
     · rename_i hst hdec
       refine ⟨true,by simp[b_k,hu],(fun h=>by cases h),fun e=>?_⟩
       rw[show m+1+e=(m+e) +1 by omega]
       have hf:P.fieldsOf t=fs:=by simp[Program.fieldsOf,hu]
       show (Op.equalIn (m+e+1) t (.agg vx.toArray) (.agg vy.toArray)).run P W=_
       rw[run_equalIn_struct W (m+e) t _ _ (by rw[hf];exact hu) hst,hf]
       exact a_ic (a_br m) e xs ys vx.toArray vy.toArray (by simpa using hx) (by simpa using hy) fs.toList b h
     · cases h
   · cases h
theorem a_du (hd:∀d,o.dst=some d→d < n)(hdef:a.defers=df)(h:RelX P k0 β0 σ0 W0 n k β γ a.tmps W env σ)(neq:Bool)(t u:TypeId)(x y:Operand)
   (hop:o.op= .binOp (if neq then .neq else .eql) t x y u) {fs:Array Field} (hu:P.underlying t=some (.struct fs)) (hs:s_3 P neq t (opE env x) (opE env y) fun e=>K (a_n env o.dst e) σ) :
   o.wp P a W (Out df P k0 β0 σ0 W0 n (Dst o) env K) Q:=by
 obtain ⟨hx,_⟩:=a_o h a rfl x 0
 obtain ⟨hy,_⟩:=a_o h a rfl y 0
 unfold s_3 at hs
 split at hs
 · rename_i xs ys hxe hye hg
   rw[hxe] at hx
   rw[hye] at hy
   obtain ⟨vx,ex,hVx⟩:=hx
   obtain ⟨vy,ey,hVy⟩:=hy
   split at hs
   · rename_i b hb
     obtain ⟨agg,hagg,h1,h2⟩:=a_br 20 t xs ys b _ _ hb hVx hVy
     have hagg':agg=true:=by
       cases agg with
       | true=>rfl
       | false=>simp[b_k,hu] at hagg
     subst hagg'
     have h3:(Op.equalIn 10000 t (.agg vx) (.agg vy)).run P W= .ok b W:=by
       have:=h2 9980
       simpa[asV] using this
     have h4:=run_eqGuard_agg (P:=P) W (if neq then .neq else .eql) t x y vx vy hg
     refine a_v (e:= .val (.one (.bool (b != neq)))) (v:= .bool (b != neq)) hd hdef h ?_ (by rintro cs (h | h) <;> cases h) (V.bool _) (by cases neq <;> simpa using hs)
     cases neq with
     | false=>
       have h5:=run_eql_struct (P:=P) W t vx vy
       rw[h3] at h5
       simp only[execOp,hop,ex,ey,Bool.false_eq_true,if_false,Sem.run_bind] at h4 ⊢
       rw[h4]
       simp[h5]
     | true=>
       have h5:=run_neq_struct (P:=P) W t vx vy
       rw[h3] at h5
       simp only[execOp,hop,ex,ey,if_true,Sem.run_bind] at h4 ⊢
       rw[h4]
       simp[h5]
   · exact hs.elim
 · exact hs.elim
theorem a_kz (hd:∀d,o.dst=some d→d < n)(hdef:a.defers=df)(h:RelX P k0 β0 σ0 W0 n k β γ a.tmps W env σ)(b:BinOp)(t u:TypeId)(x y:Operand)
   (hop:o.op= .binOp b t x y u) (hs:q_0 P b t x y env fun e=>K (a_n env o.dst e) σ) :
   o.wp P a W (Out df P k0 β0 σ0 W0 n (Dst o) env K) Q:=by
 unfold q_0 at hs
 simp only at hs
 split at hs
 · rename_i e hu;exact k_n hd hdef h .sl b t u x y hop ⟨e,hu⟩ hs
 · rename_i e hu;exact k_n hd hdef h .pt b t u x y hop ⟨e,hu⟩ hs
 · rename_i p q r hu;exact k_n hd hdef h .fn b t u x y hop ⟨p,q,r,hu⟩ hs
 · rename_i p q hu;exact k_n hd hdef h .mp b t u x y hop ⟨p,q,hu⟩ hs
 · rename_i p hu;exact k_n hd hdef h .ic b t u x y hop ⟨p,hu⟩ hs
 · rename_i fs hu
   split at hs
   · exact a_du hd hdef h false t u x y hop hu hs
   · exact a_du hd hdef h true t u x y hop hu hs
   · exact hs.elim
 · exact a_jl hd hdef h b t u x y hop hs
theorem p_z {t:TypeId}{p:A→Prop}(h:x_c P t p) :∃x,p x:=by
 unfold x_c at h
 split at h
 · obtain ⟨cs,_,h⟩:=j_f h;exact ⟨_,h⟩
 · obtain ⟨cs,_,h⟩:=j_f h
   split at h
   · exact ⟨_,h⟩
   · exact h.elim
 · exact h.elim
theorem u_s:∀{ts:List TypeId} {f:List A→List A} {p:List A→Prop},z_4 P ts f p→∃xs,p xs
 | [],f,p,h=>⟨_,h⟩
 | t::ts,f,p,h=>by
   obtain ⟨x,h⟩:=p_z h
   exact u_s h
theorem a_fy {t:TypeId}{r:RV}{p:E→Prop}(h:v_l P t r p){v:Value}(hv:VR k β W v r)(γ:Nat→Nat) :∃e,p e∧EV k β γ W v 0 e∧∀cs,¬f_f e cs:=by
 unfold v_l at h
 split at h
 · obtain ⟨xs,he,h1⟩:=u_s h
   subst he
   exact ⟨.tup xs,h1,hv,by rintro cs (h | h) <;> cases h⟩
 · obtain ⟨x,he,h1⟩:=p_z h
   subst he
   exact ⟨.val x,h1,hv,by rintro cs (h | h) <;> cases h⟩
theorem l_s {f:FuncId}(h:g_p P f=true)(args:Array Value) :(callFunc f args).run P W= .ok (.enter f args) W:=by
 unfold g_p at h
 split at h
 · rename_i fn hf
   simp at h
   obtain ⟨h1,h2⟩:=h
   have h3:fn.body≠none:=by intro e;rw[e] at h2;cases h2
   simp[callFunc,hf,h1,h3]
 · cases h
theorem a_ek (hd:∀d,o.dst=some d→d < n)(hdef:a.defers=df)(h:RelX P k0 β0 σ0 W0 n k β γ a.tmps W env σ)(f:FuncId)(args:List A)(vs:Array Value)
   (hvs:vs.size=args.length) (hva:∀(i:Nat) v x,vs[i]? =some v→args[i]? =some x→VA k β W v x)
   (hs:u_a P o f args σ fun e σ'=>K (a_n env o.dst e) σ')
   (hrun:g_p P f=true→(execOp a.eval o).run P W= .ok (.enter f vs) W) :
   o.wp P a W (Out df P k0 β0 σ0 W0 n (Dst o) env K) Q:=by
 obtain ⟨hok,hc⟩:=hs
 unfold Oper.wp
 rw[hrun hok,Oper.upon_enter]
 refine (hc k β W vs h.srel hvs hva).mono fun e W' he=>?_
 obtain ⟨v,r,σ',k',β',rfl,hr,hv,hS,hG,hF⟩:=he
 have hX:=h.step hS hG hF
 obtain ⟨e,hK,hev,hnb⟩:=a_fy hr hv γ
 exact c_f hd hdef hX hnb hev hK
theorem a_ow (hd:∀d,o.dst=some d→d < n)(hdef:a.defers=df)(h:RelX P k0 β0 σ0 W0 n k β γ a.tmps W env σ)(t:TypeId)(x:Operand)
   (hrun:∀v,(Builtin.len_ #[t] o.type #[a.eval x]).run P W= .ok v W→(execOp a.eval o).run P W= .ok (.value v) W)
   (hs:k_2 P t (opE env x) fun e=>K (a_n env o.dst e) σ) :o.wp P a W (Out df P k0 β0 σ0 W0 n (Dst o) env K) Q:=by
 obtain ⟨hx,_⟩:=a_o h a rfl x 0
 unfold k_2 at hs
 split at hs
 · rename_i el hu
   split at hs
   · rename_i s he
     rw[he] at hx
     obtain ⟨len,hl,hK⟩:=hs
     obtain ⟨ad,cap,hv⟩:=a_hz hx hl
     refine a_v (e:= .val (.one (.int .i64 len))) (v:= .int .i64 len) hd hdef h (hrun _ ?_) (by rintro cs (h | h) <;> cases h) (V.int _ _) hK
     simp[Builtin.len_,run_underlying hu,hv,goInt]
   · exact hs.elim
 · rename_i hu
   split at hs
   · rename_i s he
     rw[he] at hx
     have hv:=V.inv_str hx
     refine a_v (e:= .val (.one (.int .i64 s.size))) (v:= .int .i64 s.size) hd hdef h (hrun _ ?_) (by rintro cs (h | h) <;> cases h) (V.int _ _) hs
     simp[Builtin.len_,run_underlying hu,hv,goInt]
   · exact hs.elim
 · rename_i m el hu
   refine a_v (e:= .val (.one (.int .i64 m))) (v:= .int .i64 m) hd hdef h (hrun _ ?_) (by rintro cs (h | h) <;> cases h) (V.int _ _) hs
   simp[Builtin.len_,run_underlying hu,goInt]
 · exact hs.elim
theorem q_2 (h:RelX P k0 β0 σ0 W0 n k β γ tmps W env σ)(ha:a.tmps=tmps) :∀(xs:List Operand) (vs:List Value),e_z env xs=some vs→xs.map a.eval=vs
 | [],vs,hv=>by simp[e_z] at hv;subst hv;rfl
 | x::xs,vs,hv=>by
   unfold e_z at hv
   split at hv
   · rename_i v vs' h1 h2
     injection hv with hv;subst hv
     rw[List.map_cons,s_s (a_o h a ha x 0).1 h1,q_2 h ha xs vs' h2]
   · cases hv
theorem a_ko {us vs:Array Value}{as0 bs:List A}(h1:∀(i:Nat) v x,us[i]? =some v→as0[i]? =some x→VA k β W v x)
   (h2:∀(i:Nat) v x,vs[i]? =some v→bs[i]? =some x→VA k β W v x) (hl:us.size=as0.length) :∀(i:Nat) v x,(us ++ vs)[i]? =some v→(as0 ++ bs)[i]? =some x→VA k β W v x:=by
 intro i v x hv hx
 rw[Array.getElem?_append] at hv
 rw[List.getElem?_append] at hx
 by_cases hi:i < us.size
 · rw[if_pos hi] at hv
   rw[if_pos (by omega)] at hx
   exact h1 i v x hv hx
 · rw[if_neg hi] at hv
   rw[if_neg (by omega),←hl] at hx
   exact h2 _ v x hv hx
theorem a_fo {g:Nat→Nat→Value} :∀(ds:List (Bool × List D)) (as0:List A),e_7 ds=some as0→a_cj ds→
   (∀(i:Nat) b cs (j:Nat) d,ds[i]? =some (b,cs)→cs[j]? =some d→V k β W (g i j) d)→
   (o_e g ds).size=as0.length∧∀(i:Nat) v x,(o_e g ds)[i]? =some v→as0[i]? =some x→VA k β W v x:=by
 intro ds as0 hc hf hv
 have hl:as0.length=ds.length∧∀(i:Nat) y x,ds[i]? =some y→as0[i]? =some x→capA y=some x:=by
   clear hf hv
   induction ds generalizing as0 with
   | nil=>simp[e_7] at hc;subst hc;exact ⟨rfl,fun i y x h=>by simp at h⟩
   | cons y ds ih=>
     unfold e_7 at hc
     split at hc
     · rename_i x xs h1 h2
       injection hc with hc;subst hc
       obtain ⟨i1,i2⟩:=ih xs h2
       refine ⟨by simp[i1],fun i y' x' hy hx=>?_⟩
       cases i with
       | zero=>simp at hy hx;subst hy hx;exact h1
       | succ i=>exact i2 i y' x' (by simpa using hy) (by simpa using hx)
     · cases hc
 refine ⟨by simp[o_e,hl.1],fun i v x hvi hxi=>?_⟩
 have hi:i < ds.length:=by rw[←hl.1];exact (List.getElem?_eq_some_iff.1 hxi).1
 have hy:=List.getElem?_eq_getElem hi
 have hcap:=hl.2 i _ x hy hxi
 have hfi:=hf i ds[i].1 ds[i].2 hy
 have hvi':v=if ds[i].1 then Value.agg ((List.range ds[i].2.length).map fun j=>g i j).toArray else g i 0:=by
   simp[o_e,List.getElem?_zipIdx,hy] at hvi
   exact hvi.symm
 generalize hyy:ds[i]=y at *
 obtain ⟨b,cs⟩:=y
 cases b with
 | true=>
   simp[capA] at hcap;subst hcap
   refine ⟨_,by rw[hvi'];rfl,⟨by simp,fun j u d hu hd=>?_⟩⟩
   have hj:j < cs.length:=(List.getElem?_eq_some_iff.1 hd).1
   simp[List.getElem?_range hj] at hu
   subst hu
   exact hv i true cs j d hy hd
 | false=>
   rcases hfi with hfi | ⟨d,hd⟩
   · cases hfi
   · have hd:cs=[d]:=hd
     subst hd
     simp[capA] at hcap;subst hcap
     rw[hvi']
     exact hv i false [d] 0 d hy rfl
end
end
section
section
variable {df:List Deferred} {P:Program} {k0:Nat→Prop} {β0:Bk} {σ0:Store} {W0:World} {n:Nat} {k:Nat→Prop} {β:Bk} {γ:Nat→Nat}
 {tmps:Array Value} {W W':World} {env:Env} {σ σ':Store} {a:Act} {o:Oper} {Q:Exit→Act→World→Prop} {K:a_4}
theorem a_ht {t:TypeId}{x y:D}(m:Nat)(hx:k_s P t x=true)(hy:k_s P t y=true) :eqD P (m+1) t [x] [y]=some (d_x x y):=by
 unfold k_s at hx hy
 unfold eqD
 split at hx
 · rename_i q q1 z hu
   rw[hu] at hy ⊢
   simp only[decide_eq_true_eq] at hx
   subst hx
   split at hy <;> simp_all [d_x]
 · rename_i z hu
   rw[hu] at hy ⊢
   split at hy <;> simp_all [d_x]
 · rename_i z hu
   rw[hu] at hy ⊢
   split at hy <;> simp_all [d_x]
 · cases hx
theorem i_p {f:Field}{fs:List Field}{i:Nat}{ds:List D}(h:l_e P (f::fs) i ds=true) :
   ∃ d r, ds = d :: r ∧ f.offset = i ∧ P.cellsOf f.type = 1 ∧ f.name ≠ "_" ∧ k_s P f.type d = true ∧ l_e P fs (i + 1) r = true := by
 cases ds with
 | nil=>simp[l_e] at h
 | cons d r=>
   unfold l_e at h
   split at h
   · rename_i h1 h2 h3 h4
     exact ⟨d,r,rfl,Nat.eq_of_beq_eq_true h1,Nat.eq_of_beq_eq_true h2,by simpa using h3,h4,h⟩
   · cases h
theorem a_h0 (m:Nat)(xs ys:List D) :∀(fs:List Field) (i:Nat),l_e P fs i (xs.drop i) =true→l_e P fs i (ys.drop i) =true→
   eqF (eqD P (m+1)) P fs xs ys=some (b_p (xs.drop i) (ys.drop i))
 | [],i,hx,hy=>by
   cases h1:xs.drop i with
   | nil=>cases h2:ys.drop i with
     | nil=>simp[eqF,b_p]
     | cons=>rw[h2] at hy;simp[l_e] at hy
   | cons=>rw[h1] at hx;simp[l_e] at hx
 | f::fs,i,hx,hy=>by
   obtain ⟨x,xr,ex,o1,c1,n1,k1,r1⟩:=i_p hx
   obtain ⟨y,yr,ey,_,_,_,k2,r2⟩:=i_p hy
   have dx:xs.drop (i+1) =xr:=by rw[←List.drop_drop,ex];rfl
   have dy:ys.drop (i+1) =yr:=by rw[←List.drop_drop,ey];rfl
   have ih:=a_h0 m xs ys fs (i+1) (by rw[dx];exact r1) (by rw[dy];exact r2)
   unfold eqF
   have hn : (f.name == "_") = false := by simpa using n1
   rw[hn]
   simp only[o1,c1,ex,ey,List.take_succ_cons,List.take_zero]
   rw[a_ht m k1 k2]
   cases fs with
   | nil=>
     have e1:xr=[]:=by cases xr with | nil=>rfl | cons=>simp[l_e] at r1
     have e2:yr=[]:=by cases yr with | nil=>rfl | cons=>simp[l_e] at r2
     subst e1 e2
     simp[b_p]
   | cons g gs=>
     simp only[ih,dx,dy,b_p]
theorem d_f {t:TypeId}{x:A}(h:f_c P t x=true) :
   (∃fs cs,P.underlying t=some (.struct fs)∧x= .agg cs∧P.stoodInHeld t=false∧cs.length=P.cellsOf t∧l_e P fs.toList 0 cs=true)∨
   (∃td d,P.underlying t=some td∧(∀fs,td≠ .struct fs)∧b_k P t=some false∧x= .one d∧k_s P t d=true):=by
 unfold f_c at h
 split at h
 · rename_i fs cs hu
   split at h
   · rename_i h1 h2
     exact .inl ⟨fs,cs,hu,rfl,h1,Nat.eq_of_beq_eq_true h2,h⟩
   · cases h
 · rename_i td d hu
   have h':=h
   unfold k_s at h'
   rw[hu] at h'
   refine .inr ⟨td,d,hu,fun fs e=>?_,?_,rfl,h⟩
   · subst e;simp at h'
   · unfold b_k;rw[hu];cases td <;> first | (exfalso;simp at h';done) | rfl
 · cases h
theorem a_lu {t:TypeId}{x y:A}(hx:f_c P t x=true)(hy:f_c P t y=true) :eqD P 20 t (b_j x) (b_j y) =some (eqA x y):=by
 unfold eqA
 rcases d_f hx with ⟨fs,cs,hu,rfl,hst,l1,kx⟩ | ⟨td,d,hu,hn,_,rfl,kx⟩ <;> rcases d_f hy with ⟨fs',ds,hu',rfl,hst',l2,ky⟩ | ⟨td',d',hu',hn',_,rfl,ky⟩
 · rw[hu] at hu';injection hu' with hu';injection hu' with hu';subst hu'
   show eqD P 20 t cs ds=some (b_p cs ds)
   unfold eqD
   have hdec:decide (cs.length=P.cellsOf t∧ds.length=P.cellsOf t) =true:=by simp[l1,l2]
   simp only[hu,hst,hdec]
   have:=a_h0 (P:=P) 18 cs ds fs.toList 0 (by simpa using kx) (by simpa using ky)
   simpa using this
 · rw[hu] at hu';injection hu' with hu';exact absurd hu'.symm (hn' _)
 · rw[hu] at hu';injection hu' with hu';exact absurd hu' (hn _)
 · show eqD P 20 t [d] [d']=some (b_p [d] [d'])
   rw[a_ht 19 kx ky]
   simp[b_p]
theorem a_jn {t:TypeId}{x y:A}{v u:Value}(hx:f_c P t x=true)(hy:f_c P t y=true)(hv:VA k β W v x)(hu:VA k β W u y) :
   (Op.equal t v u).run P W= .ok (eqA x y) W:=by
 have hd:=a_lu hx hy
 have form:∀{z:A} {w:Value},f_c P t z=true→VA k β W w z→∃vs:List Value,VL k β W vs (b_j z)∧∀agg,b_k P t=some agg→w=asV agg vs:=by
   intro z w hz hw
   rcases d_f hz with ⟨fs,cs,hu,rfl,_⟩ | ⟨td,d,hu,hn,hag,rfl,_⟩
   · obtain ⟨vs,rfl,hvl⟩:=hw
     refine ⟨vs.toList,hvl,fun agg ha=>?_⟩
     have:agg=true:=by unfold b_k at ha;rw[hu] at ha;simpa using ha.symm
     subst this
     simp[asV]
   · refine ⟨[w],⟨rfl,fun i v' d' h1 h2=>?_⟩,fun agg ha=>?_⟩
     · cases i with
       | zero=>
         have e1:w=v':=by simpa using h1
         have e2:d=d':=by simpa[b_j] using h2
         subst e1 e2;exact hw
       | succ i=>simp at h1
     · rw[hag] at ha;injection ha with ha;subst ha;rfl
 obtain ⟨vs,hvs,e1⟩:=form hx hv
 obtain ⟨us,hus,e2⟩:=form hy hu
 obtain ⟨agg,hagg,_,hr⟩:=a_br 20 t _ _ _ _ _ hd hvs hus
 rw[e1 agg hagg,e2 agg hagg]
 have:=hr 9980
 simpa[Op.equal,Op.maxDepth] using this
theorem w_p {t:TypeId}{d:D}{v:Value}(hd:k_s P t d=true)(hv:V k β W v d)(em:Bool)(m:Nat) :(Instr.checkKey em (m+1) t v).run P W= .ok () W:=by
 unfold k_s at hd
 split at hd
 · rename_i hu;rw[hv.inv_int];simp[Instr.checkKey,run_underlying hu]
 · rename_i hu;rw[hv.inv_bool];simp[Instr.checkKey,run_underlying hu]
 · rename_i hu;rw[hv.inv_str];simp[Instr.checkKey,run_underlying hu]
 · cases hd
theorem a_g9 {t:TypeId}{d:D}(hd:k_s P t d=true) :P.plainKey t=true∧b_k P t=some false:=by
 unfold k_s at hd
 unfold Program.plainKey b_k
 split at hd
 · rename_i hu;simp[hu]
 · rename_i hu;simp[hu]
 · rename_i hu;simp[hu]
 · cases hd
theorem o_v {t:TypeId}{x:A}{v:Value}(hx:f_c P t x=true)(hv:VA k β W v x)(em:Bool) :(Instr.checkKey em 10000 t v).run P W= .ok () W:=by
 rcases d_f hx with ⟨fs,cs,hu,rfl,_,_,kx⟩ | ⟨td,d,hu,hn,_,rfl,kx⟩
 · obtain ⟨vs,rfl,hvl⟩:=hv
   · rw[show (10000:Nat) =9999+1 from rfl,Instr.checkKey]
     simp only[Sem.run_bind,run_underlying hu,Result.andThen_ok]
     rw[←Array.forIn_toList]
     have main : ∀ (L : List Field) (i : Nat), l_e P L i (cs.drop i) = true →
         (forIn L PUnit.unit fun f _=>do
           if f.name ≠ "_" then do
             let x ←part f.type vs f.offset
             Instr.checkKey em 9999 f.type x
             pure (ForInStep.yield PUnit.unit)
           else pure (ForInStep.yield PUnit.unit) :Sem PUnit).run P W= .ok PUnit.unit W:=by
       intro L
       induction L with
       | nil=>intro i _;simp
       | cons f L ih=>
         intro i hi
         obtain ⟨d,r,e,o1,c1,n1,k1,r1⟩:=i_p hi
         have dx:cs.drop (i+1) =r:=by rw[←List.drop_drop,e];rfl
         have hd:cs[i]? =some d:=by have:=congrArg List.head? e;simpa using this
         have hlt:i < vs.size:=by
           have h1:=(List.getElem?_eq_some_iff.1 hd).1
           have h2:=hvl.1
           simp at h2;omega
         have hvi:vs[i]? =some vs[i]:=Array.getElem?_eq_getElem hlt
         have hp:=run_part_plain (P:=P) W (a_g9 k1).1 (xs:=vs) (off:=f.offset) (v:=vs[i]) (by rw[o1];exact hvi)
         have hV:V k β W vs[i] d:=hvl.2 i _ _ (by simp[hlt]) hd
         have hc:=w_p k1 hV em 9998
         simp only[List.forIn_cons,Sem.run_bind,n1,ne_eq,not_false_eq_true,if_true,Result.andThen_ok,hp,hc,Sem.run_pure]
         have:=ih (i+1) (by rw[dx];exact r1)
         simpa using this
     have:=main fs.toList 0 (by simpa using kx)
     refine (congrArg (fun r=>Result.andThen r fun _ w'=>Result.ok () w') this).trans rfl
 · exact w_p kx hv em 9999
def EntsOk (k:Nat→Prop)(β:Bk)(W:World)(ents:List MapEntry)(es:List Ent) :Prop:=
 ents.length=es.length∧∀(r:Nat) e b ks vs,ents[r]? =some e→es[r]? =some (b,ks,vs)→e.born=b∧VA k β W e.key ks∧VA k β W e.val vs
def FirstAt (x:A)(es:List Ent)(j:Nat)(e:Ent) :Prop:=es[j]? =some e∧eqA x e.2.1=true∧∀j' e',j' < j→es[j']? =some e'→eqA x e'.2.1=false
theorem j_u (x:A) :∀(es:List Ent),(∀e ∈ es,eqA x e.2.1=false)∨∃j e,FirstAt x es j e
 | []=> .inl (by simp)
 | e::es=>by
   cases h:eqA x e.2.1 with
   | true=>exact .inr ⟨0,e,rfl,h,fun j' e' hj=>by omega⟩
   | false=>
     rcases j_u x es with h1 | ⟨j,e',h1,h2,h3⟩
     · exact .inl fun y hy => by
         rcases List.mem_cons.1 hy with rfl | hy
         · exact h
         · exact h1 y hy
     · refine .inr ⟨j+1,e',by simpa using h1,h2,fun j' e2 hj he=>?_⟩
       cases j' with
       | zero=>simp at he;subst he;exact h
       | succ j'=>exact h3 j' e2 (by omega) (by simpa using he)
theorem FirstAt.tail {x:A}{e0:Ent}{es:List Ent}{j:Nat}{e:Ent}(h:FirstAt x (e0::es) (j+1) e) :eqA x e0.2.1=false∧FirstAt x es j e:=
 ⟨h.2.2 0 e0 (by omega) rfl,by simpa using h.1,h.2.1,fun j' e' hj he=>h.2.2 (j'+1) e' (by omega) (by simpa using he)⟩
theorem k_u {x:A}{es:List Ent}(h:∀e ∈ es,eqA x e.2.1=false) :es.find? (fun e=>eqA x e.2.1) =none:=by
 rw[List.find?_eq_none];intro e he;simp[h e he]
theorem i_8 {x:A} :∀{es:List Ent} {j:Nat} {e:Ent},FirstAt x es j e→es.find? (fun e=>eqA x e.2.1) =some e
 | [],j,e,h=>by simp[FirstAt] at h
 | e0::es,0,e,h=>by
   obtain ⟨h1,h2,_⟩:=h
   simp at h1;subst h1
   simp[List.find?,h2]
 | e0::es,j+1,e,h=>by
   obtain ⟨h1,h2⟩:=h.tail
   simp[List.find?,h1,i_8 h2]
theorem a_af {x v:A} :∀{es:List Ent},(∀e ∈ es,eqA x e.2.1=false)→putL x v es=none
 | [],_=>rfl
 | e::es,h=>by
   have ih:=a_af (x:=x) (v:=v) (es:=es) fun y hy=>h y (List.mem_cons_of_mem _ hy)
   simp[putL,h e (by simp),ih]
theorem w_n {x v:A} :∀{es:List Ent} {j:Nat} {e:Ent},FirstAt x es j e→putL x v es=some (es.set j (e.1,x,v))
 | [],j,e,h=>by simp[FirstAt] at h
 | e0::es,0,e,h=>by
   obtain ⟨h1,h2,_⟩:=h
   simp at h1;subst h1
   simp[putL,h2]
 | e0::es,j+1,e,h=>by
   obtain ⟨h1,h2⟩:=h.tail
   simp[putL,h1,w_n h2]
theorem y_a {x:A} :∀{es:List Ent},(∀e ∈ es,eqA x e.2.1=false)→x_9 x es=es
 | [],_=>rfl
 | e::es,h=>by
   have ih:=y_a (x:=x) (es:=es) fun y hy=>h y (List.mem_cons_of_mem _ hy)
   simp[x_9,h e (by simp),ih]
theorem u_f {x:A} :∀{es:List Ent} {j:Nat} {e:Ent},FirstAt x es j e→x_9 x es=es.eraseIdx j
 | [],j,e,h=>by simp[FirstAt] at h
 | e0::es,0,e,h=>by
   obtain ⟨h1,h2,_⟩:=h
   simp at h1;subst h1
   simp[x_9,h2]
 | e0::es,j+1,e,h=>by
   obtain ⟨h1,h2⟩:=h.tail
   simp[x_9,h1,u_f h2]
theorem o_m {t:TypeId}{x:A}{v:Value}(hx:f_c P t x=true)(hv:VA k β W v x) :∀(ents:List MapEntry) (es:List Ent) (i:Nat),EntsOk k β W ents es→h_l P t es→
   ((∀e ∈ es,eqA x e.2.1=false)→(Instr.findAsking t v ents i).run P W= .ok none W)∧
   (∀j e,FirstAt x es j e→∃me,ents[j]? =some me∧(Instr.findAsking t v ents i).run P W= .ok (some (i+j,me.val)) W)
 | [],es,i,h,_=>by
   have:es=[]:=List.eq_nil_of_length_eq_zero h.1.symm
   subst this
   exact ⟨fun _=>by simp[Instr.findAsking],fun j e hf=>by simp[FirstAt] at hf⟩
 | me::ents,[],i,h,_=>by simp[EntsOk] at h
 | me::ents,e0::es,i,h,hk=>by
   obtain ⟨q1,q2,q3⟩:=h.2 0 me e0.1 e0.2.1 e0.2.2 rfl rfl
   have heq:=a_jn hx (hk e0 (by simp)) hv q2
   have ht:EntsOk k β W ents es:=⟨by simpa using h.1,fun r e b ks vs h1 h2=>h.2 (r+1) e b ks vs (by simpa using h1) (by simpa using h2)⟩
   obtain ⟨r1,r2⟩:=o_m hx hv ents es (i+1) ht (fun e he=>hk e (by simp[he]))
   refine ⟨fun hn=>?_,fun j e hf=>?_⟩
   · have:=r1 fun e he=>hn e (by simp[he])
     have h0:=hn e0 (by simp)
     simp[Instr.findAsking,heq,h0,this]
   · cases j with
     | zero=>
       obtain ⟨h1,h2,_⟩:=hf
       simp at h1;subst h1
       exact ⟨me,rfl,by simp[Instr.findAsking,heq,h2]⟩
     | succ j=>
       obtain ⟨h1,h2⟩:=hf.tail
       obtain ⟨m2,g1,g2⟩:=r2 j e h2
       exact ⟨m2,by simpa using g1,by simp[Instr.findAsking,heq,h1,g2];omega⟩
theorem u_4 {t:TypeId}{td:TypeDesc}(hu:P.underlying t=some td){d:D}{v:Value}(hd:k_s P t d=true)(hv:V k β W v d) :∀(ents:List MapEntry) (es:List Ent) (i:Nat),EntsOk k β W ents es→h_l P t es→
   ((∀e ∈ es,eqA (.one d) e.2.1=false)→Instr.findNow td v ents i=some none)∧
   (∀j e,FirstAt (.one d) es j e→∃me,ents[j]? =some me∧Instr.findNow td v ents i=some (some (i+j,me.val)))
 | [],es,i,h,_=>by
   have:es=[]:=List.eq_nil_of_length_eq_zero h.1.symm
   subst this
   exact ⟨fun _=>by simp[Instr.findNow],fun j e hf=>by simp[FirstAt] at hf⟩
 | me::ents,[],i,h,_=>by simp[EntsOk] at h
 | me::ents,e0::es,i,h,hk=>by
   obtain ⟨q1,q2,q3⟩:=h.2 0 me e0.1 e0.2.1 e0.2.2 rfl rfl
   have hk0:=hk e0 (by simp)
   have heq:Instr.sameNow td v me.key=some (eqA (.one d) e0.2.1):=by
     generalize e0.2.1=y at q2 hk0
     have hd:=hd
     unfold k_s at hd
     rw[hu] at hd
     rcases d_f hk0 with ⟨fs',ds,hu',rfl,_⟩ | ⟨td',d',hu',hn',_,rfl,kk⟩
     · rw[hu] at hu';injection hu' with hu';subst hu';simp at hd
     · have q2:V k β W me.key d':=q2
       unfold k_s at kk
       rw[hu] at kk
       cases td <;> (try simp at hd) <;> (try simp at kk) <;> cases d <;> (try simp at hd) <;> cases d' <;> (try simp at kk)
       · rw[hv.inv_bool,q2.inv_bool];simp[Instr.sameNow,eqA,b_p,b_j,d_x]
       · subst hd kk;rw[hv.inv_int,q2.inv_int];simp[Instr.sameNow,eqA,b_p,b_j,d_x]
       · rw[hv.inv_str,q2.inv_str];simp[Instr.sameNow,eqA,b_p,b_j,d_x]
   have ht:EntsOk k β W ents es:=⟨by simpa using h.1,fun r e b ks vs h1 h2=>h.2 (r+1) e b ks vs (by simpa using h1) (by simpa using h2)⟩
   obtain ⟨r1,r2⟩:=u_4 hu hd hv ents es (i+1) ht (fun e he=>hk e (by simp[he]))
   refine ⟨fun hn=>?_,fun j e hf=>?_⟩
   · have:=r1 fun e he=>hn e (by simp[he])
     have h0:=hn e0 (by simp)
     simp[Instr.findNow,heq,h0,this]
   · cases j with
     | zero=>
       obtain ⟨h1,h2,_⟩:=hf
       simp at h1;subst h1
       exact ⟨me,rfl,by simp[Instr.findNow,heq,h2]⟩
     | succ j=>
       obtain ⟨h1,h2⟩:=hf.tail
       obtain ⟨m2,g1,g2⟩:=r2 j e h2
       exact ⟨m2,by simpa using g1,by simp[Instr.findNow,heq,h1,g2];omega⟩
theorem h_g {t:TypeId}{x:A}{v:Value}(hx:f_c P t x=true)(hv:VA k β W v x){ents:List MapEntry}{es:List Ent}(he:EntsOk k β W ents es)(hk:h_l P t es) :
   ((∀e ∈ es,eqA x e.2.1=false)→(Instr.findKey t v ents).run P W= .ok none W)∧
   (∀j e,FirstAt x es j e→∃me,ents[j]? =some me∧(Instr.findKey t v ents).run P W= .ok (some (j,me.val)) W):=by
 have hx':=hx
 rcases d_f hx with ⟨fs,cs,hu,rfl,_,_,kx⟩ | ⟨td,d,hu,hn,_,rfl,kx⟩
 · rw[run_findKey_eq W (by rw[hu]) v ents]
   have:=o_m hx' hv ents es 0 he hk
   simpa using this
 · obtain ⟨h1,h2⟩:=u_4 hu kx hv ents es 0 he hk
   refine ⟨fun hn=>MapKept.run_findKey hu (h1 hn),fun j e hf=>?_⟩
   obtain ⟨me,g1,g2⟩:=h2 j e hf
   exact ⟨me,g1,MapKept.run_findKey hu (by simpa using g2)⟩
end
end
section
variable {P:Program} {σ σ':Store} {kt:TypeId}
theorem p_p:∀{a b:List D},b_p a b=true→∀c,b_p c a=b_p c b
 | [],[],_,c=>rfl
 | [],_::_,h,_=>by simp[b_p] at h
 | _::_,[],h,_=>by simp[b_p] at h
 | x::a,y::b,h,c=>by
   simp only[b_p,Bool.and_eq_true] at h
   cases c with
   | nil=>rfl
   | cons z c=>
     have ih:=p_p h.2 c
     have hc:d_x z x=d_x z y:=by
       have h1:=h.1
       cases x <;> cases y <;> simp[d_x] at h1
       · subst h1;cases z <;> rfl
       · subst h1;rfl
       · have:=(MapKept.bytes_beq _ _).1 h1;subst this;rfl
     simp only[b_p,ih,hc]
theorem i_o {x y:A}(h:eqA x y=true)(z:A) :eqA z x=eqA z y:=p_p h _
theorem k_6 (clock:Nat)(es:List Ent)(x v:A) :
   ((∀e ∈ es,eqA x e.2.1=false)∧w_j clock es x v= .mp (clock+1) (es ++ [(clock,x,v)])∧b_x x es=none∧h_n clock es x=clock)∨
   ∃j e,FirstAt x es j e∧w_j clock es x v= .mp clock (es.set j (e.1,x,v))∧b_x x es=some e.2.2∧h_n clock es x=e.1:=by
 rcases j_u x es with hn | ⟨j,e,hf⟩
 · exact .inl ⟨hn,by simp[w_j,a_af hn],by simp[b_x,k_u hn],by simp[h_n,k_u hn]⟩
 · exact .inr ⟨j,e,hf,by simp[w_j,w_n hf],by simp[b_x,i_8 hf],by simp[h_n,i_8 hf]⟩
theorem f_b (x y:A) :eqA x y=eqA y x:=by
 unfold eqA
 generalize b_j x=as0
 generalize b_j y=bs
 induction as0 generalizing bs with
 | nil=>cases bs <;> rfl
 | cons a as0 ih=>
   cases bs with
   | nil=>rfl
   | cons b bs=>
     simp only[b_p,ih]
     congr 1
     cases a <;> cases b <;> simp[d_x]
     · exact Bool.eq_iff_iff.2 (by simp;exact eq_comm)
     · exact Bool.eq_iff_iff.2 (by simp;exact eq_comm)
     · exact Bool.eq_iff_iff.2 (by rw[MapKept.bytes_beq,MapKept.bytes_beq];exact eq_comm)
theorem r_9 {x:A}{es:List Ent}{e:Ent} :b_x x (es ++ [e]) =(b_x x es).or (if eqA x e.2.1=true then some e.2.2 else none):=by
 unfold b_x
 rw[List.find?_append]
 cases es.find? (fun e=>eqA x e.2.1) with
 | some w=>simp
 | none=>
   simp only[Option.none_or,Option.map_none,List.find?_cons,List.find?_nil]
   cases eqA x e.2.1 <;> simp
theorem a_ag {x y:A}{es:List Ent}{j:Nat}{e:Ent}{v:A}(hf:FirstAt y es j e) :b_x x (es.set j (e.1,y,v)) =if eqA x y=true then some v else b_x x es:=by
 unfold b_x
 induction es generalizing j with
 | nil=>simp[FirstAt] at hf
 | cons e0 es ih=>
   cases j with
   | zero=>
     obtain ⟨h1,h2,_⟩:=hf
     simp at h1;subst h1
     simp only[List.set_cons_zero,List.find?_cons]
     have:=i_o h2 x
     cases hxy:eqA x y with
     | true=>simp
     | false=>rw[hxy] at this;simp[←this]
   | succ j=>
     obtain ⟨h1,h2⟩:=hf.tail
     have ih:=ih h2
     simp only[List.set_cons_succ,List.find?_cons]
     cases h0:eqA x e0.2.1 with
     | true=>
       have hxy:eqA x y=false:=by
         cases hxy:eqA x y with
         | false=>rfl
         | true=>
           rw[f_b] at hxy
           have:=i_o hxy e0.2.1
           rw[f_b e0.2.1 y,h1,f_b e0.2.1 x,h0] at this
           cases this
       simp[hxy]
     | false=>simp only[ih]
theorem x_8 {x:A}{es:List Ent}(h:∀e ∈ es,eqA x e.2.1=false) :b_x x es=none:=by simp[b_x,k_u h]
theorem z_8 {clock:Nat}{es:List Ent}{y v:A}(hy:f_c P kt y=true)(hk:h_l P kt es) :∃c es',w_j clock es y v= .mp c es'∧h_l P kt es'∧∀x,b_x x es'=if eqA x y=true then some v else b_x x es:=by
 rcases k_6 clock es y v with ⟨hn,e1,_,_⟩ | ⟨j,e,hf,e1,_,_⟩
 · refine ⟨_,_,e1,fun w hw=>?_,fun x=>?_⟩
   · rcases List.mem_append.1 hw with hw | hw
     · exact hk w hw
     · simp at hw;subst hw;exact hy
   · rw[r_9]
     by_cases hxy:eqA x y=true
     · have hnx : b_x x es = none := x_8 fun e he => by
         have h1:=hn e he
         have:=i_o (by rw[f_b];exact hxy:eqA y x=true) e.2.1
         rw[f_b e.2.1 y,h1,f_b e.2.1 x] at this
         exact this.symm
       simp[hxy,hnx]
     · simp[hxy]
 · refine ⟨_,_,e1,fun w hw=>?_,fun x=>a_ag hf⟩
   rcases List.mem_or_eq_of_mem_set hw with hw | hw
   · exact hk w hw
   · subst hw;exact hy
theorem MPut.old {m:D}{k v:A}{K:Store→Prop}(h:MPut P kt σ m k v K) :∃id clock es,MHas P kt σ m k id clock es∧K (σ.set id (w_j clock es k v)):=by
 obtain ⟨id,clock,es,h1,h2⟩:=h
 obtain ⟨c',es',e1,e2,e3⟩:=z_8 (clock:=clock) (v:=v) h1.1 h1.2.2.2
 exact ⟨id,clock,es,h1,by rw[e1];exact h2 c' es' e2 e3⟩
theorem MPut.swap {m:D}{k1 v1 k2 v2:A}{K:Store→Prop}(hne:∀x,eqA x k1=true→eqA x k2=true→False)(h:MPut P kt σ m k1 v1 fun s=>MPut P kt s m k2 v2 K) :MPut P kt σ m k2 v2 fun s=>MPut P kt s m k1 v1 K:=by
 obtain ⟨id,c,es,⟨a1,a2,a3,a4⟩,H⟩:=h
 obtain ⟨c1,es1,_,e2,e3⟩:=z_8 (clock:=c) (v:=v1) a1 a4
 have H1:=H c1 es1 e2 e3
 obtain ⟨id',c',es',⟨b1,b2,b3,b4⟩,H2⟩:=H1
 have hid:id'=id:=by
   rw[a2] at b2;injection b2 with b2;exact b2.symm
 subst hid
 rw[Store.set_same] at b3
 injection b3 with b3 b5
 subst b3 b5
 refine ⟨id',c,es,⟨b1,a2,a3,a4⟩,fun c2 es2 f1 f2=>⟨id',c2,es2,⟨a1,a2,Store.set_same _ _ _,f1⟩,fun c3 es3 g1 g2=>?_⟩⟩
 have:=H2 c3 es3 g1 fun x=>by
   rw[g2,f2,e3]
   by_cases x1:eqA x k1=true
   · rw[if_pos x1,if_neg (fun h=>hne x x1 h),if_pos x1]
   · rw[if_neg x1,if_neg x1]
 have e:∀(a b:SO),(σ.set id' a).set id' b=σ.set id' b:=fun a b=>by
   funext j
   by_cases hj:j=id'
   · subst hj;rw[Store.set_same,Store.set_same]
   · rw[Store.set_ne _ _ hj,Store.set_ne _ _ hj,Store.set_ne _ _ hj]
 rw[e] at this ⊢
 exact this
end
end Go.Fw
