import Derived.Orders
import Derived.Scope
import Derived.RowKit3
import Derived.Below
import Derived.Lib.Hide
import Derived.Deep.AppendSrc
import Derived.Laws.CopyRow
import Derived.Laws.Slices
import Derived.Laws.Rows
import Derived.Laws.Shifts
import Derived.KernelRfl
import Derived.Laws.StructEq
import Derived.Laws.Small
import Derived.Laws.Unary
import Derived.Laws.Strings
import Derived.Laws.Strings2
import Derived.Laws.Concat
import Derived.Laws.MakeOwn
import Derived.Laws.Tables
import Derived.Laws.BytesString
import Derived.Laws.BytesArg
import Derived.Laws.Cover3
import Derived.Deep.LoopGhost
set_option linter.unusedSimpArgs false
set_option linter.unusedVariables false
set_option maxHeartbeats 0
set_option maxRecDepth 100000
namespace Go.Proofs.YtflaceijiphfdaaGreat
open Go Go.RowKit
inductive SV where
 | unk
 | bool (b:Bool)
 | int (k:IntKind) (n:Int)
 | str (s:ByteArray)
 | nil
 | ptr (i o:Nat)
 | nilsl
 | sl (i o n:Nat)
 | fn (f:Fn) (cap:List (Nat × Nat))
 | fz (es n:Nat) (cells:List SV)
def SV.flat:SV->Bool
 | .ptr _ _| .sl _ _ _| .fn _ _| .fz _ _ _=>false
 | _=>true
inductive AV where
 | s (x:SV)
 | agg (l:List SV)
inductive TV where
 | unk
 | a (x:AV)
 | tup (l:List AV)
structure Loc where
 (b δ tot es:Nat)
inductive PL where
 | empty
 | at (L:Loc)
structure Nm where
 nm:Nat->Option PL
 fr:Loc->List SV->Prop
instance:CoeFun Nm fun _=>Nat->Option PL:=⟨Nm.nm⟩
structure Row where
 (own:Bool) (es:Nat) (cells:List SV)
abbrev Hp:=Nat->Option Row
def VS (ρ:Nm):SV->Value->Prop
 | .unk,_=>True
 | .bool b,v=>v= .bool b
 | .int k n,v=>v= .int k n
 | .str s,v=>v= .string s
 | .nil,v=>v= .pointer none
 | .ptr i o,v=>∃ L,ρ i=some (.at L)/\v= .pointer (some ⟨L.b,L.δ+o,none⟩)
 | .nilsl,v=>v= .slice none 0 0
 | .sl i o n,v=>∃ A c,v= .slice A n c/\n<=c /\
   ((∃ L,ρ i=some (.at L)/\((A=some ⟨L.b,L.δ+o,none⟩/\L.δ+o+c*L.es<=L.tot)\/c=0))\/(ρ i=some .empty/\c=0))
 | .fn f cap,v=>∃ vs:Array Value,v= .func f #[] vs/\vs.size=cap.length /\
   ∀ (k:Nat) (p:Nat × Nat),cap[k]?=some p->∃ L,ρ p.1=some (.at L)/\vs[k]?=some (Value.pointer (some ⟨L.b,L.δ+p.2,none⟩))
 | .fz es n cells,v=>∃ A c,v= .slice A n c/\n<=c/\((∃ L,ρ.fr L cells/\L.es=es/\((A=some ⟨L.b,L.δ,none⟩/\L.δ+c*L.es<=L.tot)\/c=0))\/(cells= []/\c=0))
def VSs (ρ:Nm) (l:List SV) (cs:List Value):Prop:=l.length=cs.length/\∀ (k:Nat) s,l[k]?=some s->∃ v,cs[k]?=some v/\VS ρ s v
def VA (ρ:Nm):AV->Value->Prop
 | .s x,v=>VS ρ x v
 | .agg l,v=>∃ cs,v= .agg cs/\VSs ρ l cs.toList
def VAs (ρ:Nm) (l:List AV) (cs:List Value):Prop:=l.length=cs.length/\∀ (k:Nat) s,l[k]?=some s->∃ v,cs[k]?=some v/\VA ρ s v
def VT (ρ:Nm):TV->Value->Prop
 | .unk,_=>True
 | .a x,v=>VA ρ x v
 | .tup l,v=>∃ vs,v= .tuple vs/\VAs ρ l vs.toList
structure Ext (ρ ρ':Nm):Prop where
 nm:∀ i p,ρ i=some p->ρ' i=some p
 fr:∀ L c,ρ.fr L c->ρ'.fr L c
instance {ρ ρ':Nm}:CoeFun (Ext ρ ρ') fun _=>∀ i p,ρ i=some p->ρ' i=some p:=⟨Ext.nm⟩
theorem Ext.refl (ρ:Nm):Ext ρ ρ:=⟨fun _ _ h=>h,fun _ _ h=>h⟩
theorem Ext.trans {a b c:Nm} (h:Ext a b) (k:Ext b c):Ext a c:=⟨fun i p hi=>k.nm i p (h.nm i p hi),fun L c h1=>k.fr L c (h.fr L c h1)⟩
theorem VS.ext {ρ ρ':Nm} (h:Ext ρ ρ') {s:SV} {v:Value} (hv:VS ρ s v):VS ρ' s v:=by
 cases s<;>simp only [VS] at hv |- <;>try exact hv
 case ptr i o=>obtain ⟨L,hL,e⟩:=hv;exact ⟨L,h _ _ hL,e⟩
 case sl i o n =>
  obtain ⟨A,c,e,hc,h1|h1⟩:=hv
  .obtain ⟨L,hL,h2⟩:=h1;exact ⟨A,c,e,hc,.inl ⟨L,h _ _ hL,h2⟩⟩
  .exact ⟨A,c,e,hc,.inr ⟨h _ _ h1.1,h1.2⟩⟩
 case fn f cap =>
  obtain ⟨vs,e,hn,hk⟩:=hv;exact ⟨vs,e,hn,fun k p hp=>by obtain ⟨L,hL,e⟩:=hk k p hp;exact ⟨L,h _ _ hL,e⟩⟩
 case fz es n cells =>
  obtain ⟨A,c,e,hc,h1⟩:=hv;refine ⟨A,c,e,hc,?_⟩;rcases h1 with ⟨L,h2,h3⟩|h1
  .exact .inl ⟨L,h.fr _ _ h2,h3⟩
  .grind
theorem VSs.ext {ρ ρ':Nm} (h:Ext ρ ρ') {l:List SV} {cs:List Value} (hv:VSs ρ l cs):VSs ρ' l cs :=
 ⟨hv.1,fun k s hs=>by obtain ⟨v,h1,h2⟩:=hv.2 k s hs;exact ⟨v,h1,h2.ext h⟩⟩
theorem VA.ext {ρ ρ':Nm} (h:Ext ρ ρ') {s:AV} {v:Value} (hv:VA ρ s v):VA ρ' s v:=by
 cases s with
 | s x=>exact VS.ext h hv
 | agg l=>obtain ⟨cs,e,hc⟩:=hv;exact ⟨cs,e,hc.ext h⟩
theorem VAs.ext {ρ ρ':Nm} (h:Ext ρ ρ') {l:List AV} {cs:List Value} (hv:VAs ρ l cs):VAs ρ' l cs :=
 ⟨hv.1,fun k s hs=>by obtain ⟨v,h1,h2⟩:=hv.2 k s hs;exact ⟨v,h1,h2.ext h⟩⟩
theorem VT.ext {ρ ρ':Nm} (h:Ext ρ ρ') {s:TV} {v:Value} (hv:VT ρ s v):VT ρ' s v:=by
 cases s with
 | unk=>exact trivial
 | a x=>exact VA.ext h hv
 | tup l=>obtain ⟨cs,e,hc⟩:=hv;exact ⟨cs,e,hc.ext h⟩
def RowOk (ρ:Nm) (w:World) (n:Nat) (r:Row):Prop :=
 match ρ n with
 | none=>False
 | some .empty=>r.cells= []
 | some (.at L)=>L.es=r.es/\L.δ+r.cells.length<=L.tot/\∃ c t fz,w.heap[L.b]?=some (.cells c t fz)/\c.size=L.tot/\(r.own=true->fz=(0,0)) /\
   ∀ k s,r.cells[k]?=some s->∃ v,c[L.δ+k]?=some v/\VS ρ s v
def VF (s:SV) (v:Value):Prop:=match s with
 | .unk=>True
 | .bool b=>v= .bool b
 | .int k n=>v= .int k n
 | .str s=>v= .string s
 | .nil=>v= .pointer none
 | .nilsl=>v= .slice none 0 0
 | _=>False
theorem VF.vs {s:SV} {v:Value} (h:VF s v) (ρ:Nm):VS ρ s v:=by
 cases s<;>first|exact h|exact h.elim
theorem VS.vf {ρ:Nm} {s:SV} {v:Value} (hf:s.flat=true) (h:VS ρ s v):VF s v:=by
 cases s<;>first|exact h|(simp [SV.flat] at hf)
def FzOk (w:World) (L:Loc) (cells:List SV):Prop :=
 L.δ+cells.length<=L.tot/\∃ c t fz,w.heap[L.b]?=some (.cells c t fz)/\c.size=L.tot/\∀ k s,cells[k]?=some s->∃ v,c[L.δ+k]?=some v/\VF s v
theorem FzOk.lt {w:World} {L:Loc} {cells:List SV} (h:FzOk w L cells):L.b<w.heap.size:=by grind [Array.getElem?_eq_some_iff,FzOk]
theorem FzOk.of_block {w w':World} {L:Loc} {cells:List SV} (h:FzOk w L cells) (hb:w'.heap[L.b]?=w.heap[L.b]?):FzOk w' L cells:=by grind [FzOk]
structure Fr where
 w0:World
 O:Nat->Prop
 f0:Loc->List SV->Prop
structure Conc (F:Fr) (ρ:Nm) (hp:Hp) (w:World):Prop where
 rows:∀ n r,hp n=some r->RowOk ρ w n r
 apart:∀ n r m s Ln Lm,hp n=some r->r.own=true->hp m=some s->n≠m->ρ n=some (.at Ln)->ρ m=some (.at Lm)->Ln.b≠Lm.b
 mine:∀ n r L,hp n=some r->r.own=true->ρ n=some (.at L)->F.O L.b\/F.w0.heap.size<=L.b
 os:w.os=F.w0.os
 tape:w.tape=F.w0.tape
 output:w.output=F.w0.output
 size:F.w0.heap.size<=w.heap.size
 block:∀ b,b<F.w0.heap.size->¬ F.O b->w.heap[b]?=F.w0.heap[b]?
 frz:∀ L c,ρ.fr L c->FzOk w L c/\(∀ n r Ln,hp n=some r->r.own=true->ρ n=some (.at Ln)->Ln.b≠L.b)/\(F.f0 L c\/F.O L.b\/F.w0.heap.size<=L.b)
theorem RowOk.ext {ρ ρ':Nm} (h:Ext ρ ρ') {w:World} {n:Nat} {r:Row} (hr:RowOk ρ w n r):RowOk ρ' w n r:=by
 unfold RowOk at hr |-
 cases e:ρ n with
 | none=>grind
 | some p =>
  rw [e] at hr;rw [h n p e]
  cases p with
  | empty=>exact hr
  | «at» L =>
   obtain ⟨h1,h0,c,t,fz,h2,h3,h4,h5⟩:=hr;exact ⟨h1,h0,c,t,fz,h2,h3,h4,fun k s hs=>by obtain ⟨v,hv,hw⟩:=h5 k s hs;exact ⟨v,hv,hw.ext h⟩⟩
theorem RowOk.lt {ρ:Nm} {w:World} {n:Nat} {r:Row} {L:Loc} (hr:RowOk ρ w n r) (e:ρ n=some (.at L)):L.b<w.heap.size:=by grind [RowOk,Array.getElem?_eq_some_iff]
theorem RowOk.of_block {ρ:Nm} {w w':World} {n:Nat} {r:Row} (hr:RowOk ρ w n r) (h:∀ L,ρ n=some (.at L)->w'.heap[L.b]?=w.heap[L.b]?):RowOk ρ w' n r:=by grind [RowOk]
theorem Conc.same {F:Fr} {ρ:Nm} {hp:Hp} {w w':World} (h:Conc F ρ hp w) (h1:w'.heap=w.heap) (h2:w'.os=w.os) (h3:w'.tape=w.tape) (h4:w'.output=w.output):Conc F ρ hp w' :=
 ⟨fun n r hr=>(h.rows n r hr).of_block (fun L _=>by rw [h1]),h.apart,h.mine,h2.trans h.os,h3.trans h.tape,h4.trans h.output,by rw [h1];exact h.size,fun b hb ho=>by rw [h1];exact h.block b hb ho,fun L c hf=>⟨(h.frz L c hf).1.of_block (by rw [h1]),(h.frz L c hf).2⟩⟩
theorem Conc.drew {F:Fr} {ρ:Nm} {hp:Hp} {w:World} (h:Conc F ρ hp w):Conc F ρ hp w.drew:=h.same rfl rfl rfl rfl
theorem Conc.ext {F:Fr} {ρ ρ':Nm} (h:Ext ρ ρ') (he:ρ'.fr=ρ.fr) {hp:Hp} {w:World} (hc:Conc F ρ hp w):Conc F ρ' hp w:=by
 have key:∀ n r L,hp n=some r->ρ' n=some (.at L)->ρ n=some (.at L):=fun n r L hn hL=>by
  have:=hc.rows n r hn;unfold RowOk at this
  cases e:ρ n with
  | none=>grind
  | some p=>rw [<- hL];exact (h n p e).symm
 exact ⟨fun n r hr=>(hc.rows n r hr).ext h,fun n r m s Ln Lm h1 h2 h3 h4 h5 h6=>hc.apart n r m s Ln Lm h1 h2 h3 h4 (key _ _ _ h1 h5) (key _ _ _ h3 h6),
  fun n r L h1 h2 h3=>hc.mine n r L h1 h2 (key _ _ _ h1 h3),hc.os,hc.tape,hc.output,hc.size,hc.block,
  fun L c hf=>by rw [he] at hf;obtain ⟨f1,f2,f3⟩:=hc.frz L c hf;exact ⟨f1,fun n r Ln h1 h2 h3=>f2 n r Ln h1 h2 (key _ _ _ h1 h3),f3⟩⟩
theorem Conc.less {F:Fr} {ρ:Nm} {hp fP:Hp} {w:World} (hc:Conc F ρ hp w) (h:∀ n r,fP n=some r->hp n=some r):Conc F ρ fP w :=
 ⟨fun n r hr=>hc.rows n r (h n r hr),fun n r m s Ln Lm h1 h2 h3=>hc.apart n r m s Ln Lm (h _ _ h1) h2 (h _ _ h3),fun n r L h1=>hc.mine n r L (h _ _ h1),hc.os,hc.tape,hc.output,hc.size,hc.block,
  fun L c hf=>by obtain ⟨f1,f2,f3⟩:=hc.frz L c hf;exact ⟨f1,fun n r Ln h1=>f2 n r Ln (h _ _ h1),f3⟩⟩
def Hp.set (hp:Hp) (n:Nat) (r:Option Row):Hp:=fun m=>if m=n then r else hp m
def Nm.set (ρ:Nm) (n:Nat) (p:PL):Nm:=⟨fun m=>if m=n then some p else ρ m,ρ.fr⟩
theorem Nm.set_ext {ρ:Nm} {n:Nat} (h:ρ n=none) (p:PL):Ext ρ (Nm.set ρ n p):=⟨fun i q hi=>by
 unfold Nm.set;simp only [];split
 .grind
 .exact hi,fun _ _ h=>h⟩
theorem Nm.set_same (ρ:Nm) (n:Nat) (p:PL):Nm.set ρ n p n=some p:=by simp [Nm.set]
theorem Conc.dom {F:Fr} {ρ:Nm} {hp:Hp} {w:World} (hc:Conc F ρ hp w) {n:Nat} (h:ρ n=none):hp n=none:=by
 cases e:hp n with
 | none=>rfl
 | some r=>have:=hc.rows n r e;unfold RowOk at this;rw [h] at this;exact this.elim
theorem Conc.new {F:Fr} {ρ:Nm} {hp:Hp} {w:World} (hc:Conc F ρ hp w) {n:Nat} (hn:ρ n=none) (es:Nat) (cells:List SV) (c:Array Value) (t:TypeId) (hl:cells.length<=c.size)
  (hv:∀ (k:Nat) s,cells[k]?=some s->∃ v,c[k]?=some v/\VS ρ s v) :
  Ext ρ (Nm.set ρ n (.at ⟨w.heap.size,0,c.size,es⟩))/\Conc F (Nm.set ρ n (.at ⟨w.heap.size,0,c.size,es⟩)) (Hp.set hp n (some ⟨true,es,cells⟩)) (w.alloc (.cells c t)):=by
 have hx:=Nm.set_ext hn (.at ⟨w.heap.size,0,c.size,es⟩);have hd:=hc.dom hn;refine ⟨hx,?_⟩
 have old:∀ m r L,hp m=some r->Nm.set ρ n (.at ⟨w.heap.size,0,c.size,es⟩) m=some (.at L)->L.b<w.heap.size:=fun m r L hm hL=>by
  have h1:=(hc.ext hx rfl).rows m r hm;exact h1.lt hL
 refine ⟨fun m r hr=>?_,fun m r k s Ln Lm h1 h2 h3 h4 h5 h6=>?_,fun m r L h1 h2 h3=>?_,hc.os,hc.tape,hc.output,?_,fun b hb ho=>?_,fun L c' hf=>?_⟩
 .unfold Hp.set at hr
  split at hr
  .rename_i e;subst e;injection hr with hr;subst hr
   unfold RowOk;rw [Nm.set_same];refine ⟨rfl,by simpa using hl,c,t,(0,0),heap_alloc_new w _,rfl,fun _=>rfl,fun k s hs=>?_⟩;obtain ⟨v,h1,h2⟩:=hv k s hs;exact ⟨v,by simpa using h1,h2.ext hx⟩
  .exact ((hc.rows m r hr).ext hx).of_block fun L hL=>Below.heap_alloc _ _ _ (old m r L hr hL)
 .unfold Hp.set at h1 h3
  split at h1
  .rename_i e;subst e
   split at h3
   .grind
   .rw [Nm.set_same] at h5;injection h5 with h5;injection h5 with h5;subst h5
    have:=old k s Lm h3 h6;simp only [];omega
  .split at h3
   .rename_i e;subst e
    rw [Nm.set_same] at h6;injection h6 with h6;injection h6 with h6;subst h6
    have:=old m r Ln h1 h5;simp only [];omega
   .exact (hc.ext hx rfl).apart m r k s Ln Lm h1 h2 h3 h4 h5 h6
 .unfold Hp.set at h1
  split at h1
  .rename_i e;subst e
   rw [Nm.set_same] at h3;injection h3 with h3;injection h3 with h3;subst h3
   exact .inr hc.size
  .exact (hc.ext hx rfl).mine m r L h1 h2 h3
 .have:=hc.size;simp;omega
 .have:=hc.size
  rw [Below.heap_alloc _ _ _ (by omega)];exact hc.block b hb ho
 .obtain ⟨f1,_,f3⟩:=(hc.ext hx rfl).frz L c' hf
  have flt:=f1.lt;refine ⟨f1.of_block (Below.heap_alloc _ _ _ flt),fun m r Ln h1 h2 h3=>?_,f3⟩;unfold Hp.set at h1;split at h1
  .rename_i e;subst e
   rw [Nm.set_same] at h3;injection h3 with h3;injection h3 with h3;subst h3
   simp only [];omega
  .grind
theorem Conc.newEmpty {F:Fr} {ρ:Nm} {hp:Hp} {w:World} (hc:Conc F ρ hp w) {n:Nat} (hn:ρ n=none) (es:Nat) :
  Ext ρ (Nm.set ρ n .empty)/\Conc F (Nm.set ρ n .empty) (Hp.set hp n (some ⟨true,es,[]⟩)) w:=by
 have hx:=Nm.set_ext hn .empty;have hd:=hc.dom hn;refine ⟨hx,?_⟩;have hc':=hc.ext hx rfl;refine ⟨fun m r hr=>?_,fun m r k s Ln Lm h1 h2 h3 h4 h5 h6=>?_,fun m r L h1 h2 h3=>?_,hc.os,hc.tape,hc.output,hc.size,hc.block,fun L c' hf=>?_⟩
 .unfold Hp.set at hr
  split at hr
  .rename_i e;subst e;injection hr with hr;subst hr
   unfold RowOk;rw [Nm.set_same]
  .exact hc'.rows m r hr
 .unfold Hp.set at h1 h3
  split at h1
  .simp_all [Nm.set_same,Hp,Nm.set,Hp.set]
  .split at h3
   .simp_all [Nm.set_same,Hp,Nm.set,Hp.set]
   .exact hc'.apart m r k s Ln Lm h1 h2 h3 h4 h5 h6
 .unfold Hp.set at h1
  split at h1
  .simp_all [Nm.set_same,Hp,Nm.set,Hp.set]
  .exact hc'.mine m r L h1 h2 h3
 .obtain ⟨f1,_,f3⟩:=hc'.frz L c' hf
  refine ⟨f1,fun m r Ln h1 h2 h3=>?_,f3⟩;unfold Hp.set at h1;split at h1
  .simp_all [Nm.set_same,Hp,Nm.set,Hp.set]
  .grind
theorem Conc.write {F:Fr} {ρ:Nm} {hp:Hp} {w w':World} (hc:Conc F ρ hp w) {n:Nat} {r:Row} {L:Loc} (hr:hp n=some r) (ho:r.own=true) (hL:ρ n=some (.at L))
  {c':Array Value} {t:TypeId} (cells:List SV) (h0:w'.heap[L.b]?=some (.cells c' t (0,0))) (fQ:c'.size=L.tot) (ZV:L.δ+cells.length<=L.tot)
  (hv:∀ (k:Nat) s,cells[k]?=some s->∃ v,c'[L.δ+k]?=some v/\VS ρ s v)
  (h1:∀ b,b≠L.b->w'.heap[b]?=w.heap[b]?) (h2:w'.heap.size=w.heap.size) (h3:w'.os=w.os) (h4:w'.tape=w.tape) (h5:w'.output=w.output) :
  Conc F ρ (Hp.set hp n (some { r with cells:=cells })) w':=by
 have hr0:=hc.rows n r hr;refine ⟨fun m s hs=>?_,fun m s k u Ln Lm e1 e2 e3 e4 e5 e6=>?_,fun m s M e1 e2 e3=>?_,h3.trans hc.os,h4.trans hc.tape,h5.trans hc.output,by rw [h2];exact hc.size,fun b hb qE=>?_,fun M c2 hf=>?_⟩
 .unfold Hp.set at hs
  split at hs
  .rename_i e;subst e;injection hs with hs;subst hs
   unfold RowOk at hr0 |-;rw [hL] at hr0 |-;exact ⟨hr0.1,ZV,c',t,(0,0),h0,fQ,fun _=>rfl,hv⟩
  .rename_i fY
   refine (hc.rows m s hs).of_block fun M hM=>h1 _ ?_
   exact fun e=>hc.apart n r m s L M hr ho hs (fun e=>fY e.symm) hL hM e.symm
 .unfold Hp.set at e1 e3
  split at e1
  .rename_i e;subst e;injection e1 with e1;subst e1
   split at e3
   .grind
   .exact hc.apart m r k u Ln Lm hr ho e3 e4 e5 e6
  .split at e3
   .rename_i e;subst e
    exact hc.apart m s k r Ln Lm e1 e2 hr e4 e5 e6
   .exact hc.apart m s k u Ln Lm e1 e2 e3 e4 e5 e6
 .unfold Hp.set at e1
  split at e1
  .rename_i e;subst e;exact hc.mine m r M hr ho e3
  .exact hc.mine m s M e1 e2 e3
 .have FL:b≠L.b:=by
   intro e;rcases hc.mine n r L hr ho hL with h|h
   .grind
   .omega
  rw [h1 b FL];exact hc.block b hb qE
 .obtain ⟨f1,f2,f3⟩:=hc.frz M c2 hf
  refine ⟨f1.of_block (h1 _ (fun e=>f2 n r L hr ho hL e.symm)),fun m s Ln e1 e2 e3=>?_,f3⟩;unfold Hp.set at e1;split at e1
  .grind
  .grind
theorem Conc.grow {F:Fr} {ρ:Nm} {hp:Hp} {w w':World} (hc:Conc F ρ hp w) {n m:Nat} {r:Row} {L:Loc} (hm:ρ m=none) (hr:hp n=some r) (ho:r.own=true) (hL:ρ n=some (.at L))
  {c':Array Value} {t:TypeId} (cells:List SV) (h0:w'.heap[L.b]?=some (.cells c' t (0,0))) (fQ:c'.size=L.tot) (ZV:L.δ+cells.length<=L.tot)
  (hv:∀ (k:Nat) s,cells[k]?=some s->∃ v,c'[L.δ+k]?=some v/\VS ρ s v)
  (h1:∀ b,b≠L.b->w'.heap[b]?=w.heap[b]?) (h2:w'.heap.size=w.heap.size) (h3:w'.os=w.os) (h4:w'.tape=w.tape) (h5:w'.output=w.output) :
  Ext ρ (Nm.set ρ m (.at L))/\Conc F (Nm.set ρ m (.at L)) (Hp.set (Hp.set hp n none) m (some { r with cells:=cells })) w':=by
 have hx:=Nm.set_ext hm (.at L);refine ⟨hx,?_⟩;have hd:=hc.dom hm;have hmn:m≠n:=by rintro rfl;rw [hm] at hL;cases hL
 have hw:=(hc.ext hx rfl).write hr ho (hx _ _ hL) cells h0 fQ ZV (fun k s hs=>by obtain ⟨v,a,b⟩:=hv k s hs;exact ⟨v,a,b.ext hx⟩) h1 h2 h3 h4 h5;have zY:Hp.set hp n (some { r with cells:=cells }) n=some { r with cells:=cells }:=by simp [Hp.set]
 have VO:=hx _ _ hL;refine ⟨fun k s hs=>?_,fun k s j u Ln Lm e1 e2 e3 e4 e5 e6=>?_,fun k s M e1 e2 e3=>?_,hw.os,hw.tape,hw.output,hw.size,hw.block,fun M c2 hf=>?_⟩
 .unfold Hp.set at hs
  split at hs
  .rename_i e;subst e;injection hs with hs;subst hs
   have:=hw.rows n _ zY;unfold RowOk at this |-;rw [VO] at this;rw [Nm.set_same];exact this
  .split at hs
   .cases hs
   .rename_i wB qZ;exact hw.rows k s (by simp [Hp.set,qZ,hs])
 .unfold Hp.set at e1 e3
  split at e1
  .rename_i e;subst e;injection e1 with e1;subst e1
   rw [Nm.set_same] at e5;injection e5 with e5;injection e5 with e5;subst e5
   split at e3
   .grind
   .split at e3
    .cases e3
    .rename_i hj1 FQ
     exact hw.apart n _ j u L Lm zY ho (by simp [Hp.set,FQ,e3]) (fun e=>FQ e.symm) VO e6
  .split at e1
   .cases e1
   .rename_i wB qZ
    split at e3
    .rename_i e;subst e;injection e3 with e3;subst e3
     rw [Nm.set_same] at e6;injection e6 with e6;injection e6 with e6;subst e6
     exact hw.apart k s n _ Ln L (by simp [Hp.set,qZ,e1]) e2 zY qZ e5 VO
    .split at e3
     .cases e3
     .rename_i hj1 FQ
      exact hw.apart k s j u Ln Lm (by simp [Hp.set,qZ,e1]) e2 (by simp [Hp.set,FQ,e3]) e4 e5 e6
 .unfold Hp.set at e1
  split at e1
  .rename_i e;subst e;injection e1 with e1;subst e1
   rw [Nm.set_same] at e3;injection e3 with e3;injection e3 with e3;subst e3
   exact hw.mine n _ L zY ho VO
  .split at e1
   .cases e1
   .rename_i wB qZ
    exact hw.mine k s M (by simp [Hp.set,qZ,e1]) e2 e3
 .obtain ⟨f1,f2,f3⟩:=hw.frz M c2 hf
  refine ⟨f1,fun k s Ln e1 e2 e3=>?_,f3⟩;unfold Hp.set at e1;split at e1
  .rename_i e;subst e;injection e1 with e1;subst e1
   rw [Nm.set_same] at e3;injection e3 with e3;injection e3 with e3;subst e3
   exact f2 n _ L zY ho VO
  .split at e1
   .cases e1
   .rename_i wB qZ
    exact f2 k s Ln (by simp [Hp.set,qZ,e1]) e2 e3
def QaW {α:Type}:List (Nat × α)->Nat->Option α
 | [],_=>none
 | p::l,n=>match Nat.beq n p.1 with
  | true=>some p.2
  | false=>QaW l n
structure Ef where
 v:TV
 up:List (Nat × Option Row)
 nw:List (Nat × Row)
def Ef.app (e:Ef) (hp:Hp):Hp:=fun n =>
 match QaW e.nw n with
 | some r=>some r
 | none=>match QaW e.up n with
  | some r=>r
  | none=>hp n
def Qap:Nat:=64
def QzS (n0:Nat) (fp:List (Nat × Row)) (e:Ef):Prop:=(∀ p∈e.nw,n0<=p.1/\p.1<n0+Qap)/\∀ p∈e.up,∃ q∈fp,q.1=p.1
def SemOp (P:Program) (o:Oper) (tv:Operand->TV) (n0:Nat) (fp:List (Nat × Row)) (E:Ef->Prop):Prop :=
 ∀ (F:Fr) (ρ:Nm) (hp:Hp) (a:Act) (w:World) (Q:Exit->Act->World->Prop) (K:Act->World->Prop),
  (∀ x∈o.op.operands,VT ρ (tv x) (a.eval x))->Conc F ρ hp w->(∀ p∈fp,hp p.1=some p.2)->(∀ n,n0<=n->n<n0+Qap->ρ n=none) ->
  (∀ e ρ' v w',E e->Ext ρ ρ'->(∀ n,¬ (n0<=n/\n<n0+Qap)->ρ' n=ρ n)->VT ρ' e.v v->Conc F ρ' (e.app hp) w'->K (a.put o.dst v) w') ->
  o.wp P a w K Q
theorem Ef.app_none (v:TV) (hp:Hp):Ef.app ⟨v,[],[]⟩ hp=hp:=rfl
theorem SemOp.read {P:Program} {o:Oper} {tv:Operand->TV} {n0:Nat} {fp:List (Nat × Row)} {v:TV}
  (h:∀ F ρ hp (a:Act) w,(∀ x∈o.op.operands,VT ρ (tv x) (a.eval x))->Conc F ρ hp w->(∀ p∈fp,hp p.1=some p.2)->∃ u,VT ρ v u/\(execOp a.eval o).run P w= .ok (.value u) w) :
  SemOp P o tv n0 fp (. =⟨v,[],[]⟩):=by
 intro F ρ hp a w Q K h1 h2 h3 _ hK;obtain ⟨u,hu,hr⟩:=h F ρ hp a w h1 h2 h3;unfold Oper.wp;rw [hr,Oper.upon_value];exact hK _ ρ u w rfl (Ext.refl _) (fun _ _=>rfl) hu (by rw [Ef.app_none];exact h2)
theorem SemOp.mk {P:Program} {o:Oper} {tv:Operand->TV} {n0:Nat} {fp:List (Nat × Row)} {v:TV} {es:Nat} {cells:List SV}
  (h:∀ F ρ hp (a:Act) w,(∀ x∈o.op.operands,VT ρ (tv x) (a.eval x))->Conc F ρ hp w->(∀ p∈fp,hp p.1=some p.2) ->
   ∃ (u:Value) (c:Array Value) (t:TypeId) (w1:World),cells.length<=c.size/\(∀ (k:Nat) s,cells[k]?=some s->∃ v,c[k]?=some v/\VS ρ s v)/\(∀ ρ',Ext ρ ρ'->ρ' n0=some (.at ⟨w.heap.size,0,c.size,es⟩)->VT ρ' v u) /\
    w1.heap=w.heap/\w1.os=w.os/\w1.tape=w.tape/\w1.output=w.output/\(execOp a.eval o).run P w= .ok (.value u) (w1.alloc (.cells c t))) :
  SemOp P o tv n0 fp (. =⟨v,[],[(n0,⟨true,es,cells⟩)]⟩):=by
 intro F ρ hp a w Q K h1 h2 h3 h4 hK;obtain ⟨u,c,t,w1,hl,hc,hu,e1,e2,e3,e4,hr⟩:=h F ρ hp a w h1 h2 h3;have hn:ρ n0=none:=h4 n0 (Nat.le_refl _) (by unfold Qap;omega);have h2':=h2.same e1 e2 e3 e4;obtain ⟨hx,wC⟩:=h2'.new hn es cells c t hl hc;rw [e1] at hx wC;unfold Oper.wp;rw [hr,Oper.upon_value];refine hK _ _ u _ rfl hx (fun n fY=>?_) (hu _ hx (Nm.set_same _ _ _)) ?_
 .unfold Nm.set;simp only [];rw [if_neg];rintro rfl;exact fY ⟨Nat.le_refl _,by unfold Qap;omega⟩
 .have e:Ef.app ⟨v,[],[(n0,⟨true,es,cells⟩)]⟩ hp=Hp.set hp n0 (some ⟨true,es,cells⟩):=by
   funext m
   unfold Ef.app Hp.set QaW
   cases hb:Nat.beq m n0 with
   | true=>simp_all
   | false=>rw [if_neg (Nat.ne_of_beq_eq_false hb)];rfl
  rw [e];exact wC
variable {P:Program} {o:Oper} {tv:Operand->TV} {n0:Nat}
theorem Qui (x:Operand) (ho:o.op= .move x):SemOp P o tv n0 [] (. =⟨tv x,[],[]⟩) :=
 SemOp.read fun F ρ hp a w h1 _ _=>⟨a.eval x,h1 x (by rw [ho];simp [Op.operands]),by unfold execOp;rw [ho];rfl⟩
theorem Qnu (x:Operand) (ho:o.op= .assign x):SemOp P o tv n0 [] (. =⟨tv x,[],[]⟩) :=
 SemOp.read fun F ρ hp a w h1 _ _=>⟨a.eval x,h1 x (by rw [ho];simp [Op.operands]),by unfold execOp;rw [ho];rfl⟩
theorem Qmn (c x y:Operand) (b:Bool) (ho:o.op= .pick c x y) (hc:tv c= .a (.s (.bool b))):SemOp P o tv n0 [] (. =⟨if b then tv x else tv y,[],[]⟩) :=
 SemOp.read fun F ρ hp a w h1 _ _=>by
  have h2:=h1 c (by rw [ho];simp [Op.operands]);rw [hc] at h2;have h3:a.eval c= .bool b:=h2;refine ⟨if b then a.eval x else a.eval y,?_,?_⟩
  .cases b
   .exact h1 y (by rw [ho];simp [Op.operands])
   .exact h1 x (by rw [ho];simp [Op.operands])
  .unfold execOp;rw [ho];simp [h3,asBool]
def QG2 (op:BinOp) (k:IntKind) (x y:Int):Option SV :=
 match op with
 | .add=>some (.int k (k.wrap (x+y)))
 | .sub=>some (.int k (k.wrap (x-y)))
 | .mul=>some (.int k (k.wrap (x*y)))
 | .and=>some (.int k (bits .and k x y))
 | .or=>some (.int k (bits .or k x y))
 | .xor=>some (.int k (bits .xor k x y))
 | .andNot=>some (.int k (bits .andNot k x y))
 | .eql=>some (.bool (x==y))
 | .neq=>some (.bool (x !=y))
 | .lss=>some (.bool (x<y))
 | .leq=>some (.bool (x<=y))
 | .gtr=>some (.bool (x>y))
 | .geq=>some (.bool (x>=y))
 | _=>none
theorem Qcm (op:BinOp) (t:TypeId) (x y:Operand) (k:IntKind) (n:Int) (v:Value):eqGuard op t x y (.int k n) v=pure ():=by cases op<;>rfl
theorem QaV {ρ:Nm} {a:Act} {x:Operand} {s:SV} (h1:∀ z∈o.op.operands,VT ρ (tv z) (a.eval z)) (hm:x∈o.op.operands) (hx:tv x= .a (.s s)):VS ρ s (a.eval x):=by
 have:=h1 x hm;rw [hx] at this;exact this
theorem Que (op:BinOp) (t:TypeId) (x y:Operand) (t2:TypeId) (k:IntKind) (m n:Int) (s:SV) (ho:o.op= .binOp op t x y t2) (hx:tv x= .a (.s (.int k m))) (hy:tv y= .a (.s (.int k n)))
  (hs:QG2 op k m n=some s):SemOp P o tv n0 [] (. =⟨.a (.s s),[],[]⟩) :=
 SemOp.read fun F ρ hp a w h1 _ _=>by
  have h2:a.eval x= .int k m:=QaV h1 (by rw [ho];simp [Op.operands]) hx;have h3:a.eval y= .int k n:=QaV h1 (by rw [ho];simp [Op.operands]) hy;unfold execOp;rw [ho];simp only [h2,h3,Qcm];cases op<;>simp only [QG2,Option.some.injEq,reduceCtorEq] at hs<;>subst hs
  case add=>exact ⟨_,rfl,by simp [binOp,Op.intArith]⟩
  case sub=>exact ⟨_,rfl,by simp [binOp,Op.intArith]⟩
  case mul=>exact ⟨_,rfl,by simp [binOp,Op.intArith]⟩
  case and=>exact ⟨_,rfl,by simp [binOp,intBits_and]⟩
  case or=>exact ⟨_,rfl,by simp [binOp,intBits_or]⟩
  case xor=>exact ⟨_,rfl,by simp [binOp,intBits_xor]⟩
  case andNot=>exact ⟨_,rfl,by simp [binOp,intBits_andNot]⟩
  all_goals exact ⟨_,rfl,by simp [binOp,Op.intCmp]⟩
theorem QyK (t:TypeId) (x y:Operand) (t2:TypeId) (k:IntKind) (m n:Int) (ho:o.op= .binOp .quo t x y t2) (hx:tv x= .a (.s (.int k m))) (hy:tv y= .a (.s (.int k n)))
  (hn:n≠0):SemOp P o tv n0 [] (. =⟨.a (.s (.int k (k.wrap (m.tdiv n)))),[],[]⟩) :=
 SemOp.read fun F ρ hp a w h1 _ _=>by
  have h2:a.eval x= .int k m:=QaV h1 (by rw [ho];simp [Op.operands]) hx;have h3:a.eval y= .int k n:=QaV h1 (by rw [ho];simp [Op.operands]) hy;unfold execOp;rw [ho];simp only [h2,h3,Qcm];exact ⟨_,rfl,by simp [binOp,Op.intDiv,hn]⟩
theorem QyP (t:TypeId) (x y:Operand) (t2:TypeId) (k:IntKind) (m n:Int) (ho:o.op= .binOp .rem t x y t2) (hx:tv x= .a (.s (.int k m))) (hy:tv y= .a (.s (.int k n)))
  (hn:n≠0):SemOp P o tv n0 [] (. =⟨.a (.s (.int k (m.tmod n))),[],[]⟩) :=
 SemOp.read fun F ρ hp a w h1 _ _=>by
  have h2:a.eval x= .int k m:=QaV h1 (by rw [ho];simp [Op.operands]) hx;have h3:a.eval y= .int k n:=QaV h1 (by rw [ho];simp [Op.operands]) hy;unfold execOp;rw [ho];simp only [h2,h3,Qcm];exact ⟨_,rfl,by simp [binOp,Op.intDiv,hn]⟩
theorem QyQ (t:TypeId) (x y:Operand) (t2:TypeId) (k k':IntKind) (m n:Int) (ho:o.op= .binOp .shl t x y t2) (hx:tv x= .a (.s (.int k m))) (hy:tv y= .a (.s (.int k' n)))
  (hn:0<=n):SemOp P o tv n0 [] (. =⟨.a (.s (.int k (k.wrap (m*2^min n.toNat k.bits)))),[],[]⟩) :=
 SemOp.read fun F ρ hp a w h1 _ _=>by
  have h2:a.eval x= .int k m:=QaV h1 (by rw [ho];simp [Op.operands]) hx;have h3:a.eval y= .int k' n:=QaV h1 (by rw [ho];simp [Op.operands]) hy;unfold execOp;rw [ho];simp only [h2,h3,Qcm];exact ⟨_,rfl,by simp [binOp,Op.shift,show ¬ n<0 by omega]⟩
theorem QyR (t:TypeId) (x y:Operand) (t2:TypeId) (k k':IntKind) (m n:Int) (ho:o.op= .binOp .shr t x y t2) (hx:tv x= .a (.s (.int k m))) (hy:tv y= .a (.s (.int k' n)))
  (hn:0<=n):SemOp P o tv n0 [] (. =⟨.a (.s (.int k (m / 2^min n.toNat k.bits))),[],[]⟩) :=
 SemOp.read fun F ρ hp a w h1 _ _=>by
  have h2:a.eval x= .int k m:=QaV h1 (by rw [ho];simp [Op.operands]) hx;have h3:a.eval y= .int k' n:=QaV h1 (by rw [ho];simp [Op.operands]) hy;unfold execOp;rw [ho];simp only [h2,h3,Qcm];refine ⟨_,rfl,?_⟩;have:m.fdiv (2^min n.toNat k.bits)=m / 2^min n.toNat k.bits:=Int.fdiv_eq_ediv_of_nonneg _ (by exact_mod_cast Nat.zero_le _);simp [binOp,Op.shift,show ¬ n<0 by omega,this]
def QG7 (op:BinOp) (x y:ByteArray):Option SV :=
 match op with
 | .eql=>some (.bool (x.toList==y.toList))
 | .neq=>some (.bool !(x.toList==y.toList))
 | _=>none
theorem Quk (op:BinOp) (t:TypeId) (x y:Operand) (t2:TypeId) (m n:ByteArray) (s:SV) (ho:o.op= .binOp op t x y t2) (hx:tv x= .a (.s (.str m))) (hy:tv y= .a (.s (.str n)))
  (hs:QG7 op m n=some s):SemOp P o tv n0 [] (. =⟨.a (.s s),[],[]⟩) :=
 SemOp.read fun F ρ hp a w h1 _ _=>by
  have h2:a.eval x= .string m:=QaV h1 (by rw [ho];simp [Op.operands]) hx;have h3:a.eval y= .string n:=QaV h1 (by rw [ho];simp [Op.operands]) hy;unfold execOp;rw [ho];simp only [h2,h3,eqGuard_at_string];cases op<;>simp only [QG7,Option.some.injEq,reduceCtorEq] at hs<;>subst hs
  all_goals exact ⟨_,rfl,by simp [binOp,Op.stringOp]⟩
theorem Quj (t:TypeId) (x y:Operand) (t2:TypeId) (m n:ByteArray) (ho:o.op= .binOp .add t x y t2) (hx:tv x= .a (.s (.str m))) (hy:tv y= .a (.s (.str n)))
  (hs:m.size+n.size<=9223372036854775807):SemOp P o tv n0 [] (. =⟨.a (.s (.str (m++n))),[],[]⟩) :=
 SemOp.read fun F ρ hp a w h1 _ _=>by
  have h2:a.eval x= .string m:=QaV h1 (by rw [ho];simp [Op.operands]) hx;have h3:a.eval y= .string n:=QaV h1 (by rw [ho];simp [Op.operands]) hy;unfold execOp;rw [ho];simp only [h2,h3,eqGuard_at_string];have:¬ ((9223372036854775807:Int)<(m.size:Int)+n.size):=by omega
  exact ⟨_,rfl,by simp [binOp,Op.stringOp,this]⟩
def QGW (op:BinOp) (x y:Bool):Option SV :=
 match op with
 | .eql=>some (.bool (x==y))
 | .neq=>some (.bool !(x==y))
 | _=>none
theorem Qmm (op:BinOp) (t:TypeId) (x y:Operand) (t2:TypeId) (m n:Bool) (s:SV) (ho:o.op= .binOp op t x y t2) (hx:tv x= .a (.s (.bool m))) (hy:tv y= .a (.s (.bool n)))
  (ht:P.underlying t=some .bool) (hs:QGW op m n=some s):SemOp P o tv n0 [] (. =⟨.a (.s s),[],[]⟩) :=
 SemOp.read fun F ρ hp a w h1 _ _=>by
  have h2:a.eval x= .bool m:=QaV h1 (by rw [ho];simp [Op.operands]) hx;have h3:a.eval y= .bool n:=QaV h1 (by rw [ho];simp [Op.operands]) hy;unfold execOp;rw [ho];simp only [h2,h3,eqGuard_at_bool];cases op<;>simp only [QGW,Option.some.injEq,reduceCtorEq] at hs<;>subst hs
  .exact ⟨_,rfl,by simp [run_eql_bool w t m n ht]⟩
  .exact ⟨_,rfl,by simp [run_neq_bool w t m n ht]⟩
def iun (op:UnOp) (k:IntKind) (x:Int):Option SV :=
 match op with
 | .neg=>some (.int k (k.wrap (0-x)))
 | .xor=>some (.int k (bits .xor k (if k.signed then -1 else k.max) x))
 | _=>none
theorem Qrq (op:UnOp) (t:TypeId) (x:Operand) (k:IntKind) (m:Int) (s:SV) (ho:o.op= .unOp op t x) (hx:tv x= .a (.s (.int k m)))
  (hs:iun op k m=some s):SemOp P o tv n0 [] (. =⟨.a (.s s),[],[]⟩) :=
 SemOp.read fun F ρ hp a w h1 _ _=>by
  have h2:a.eval x= .int k m:=QaV h1 (by rw [ho];simp [Op.operands]) hx;unfold execOp;rw [ho];simp only [h2];cases op<;>simp only [iun,Option.some.injEq,reduceCtorEq] at hs<;>subst hs
  .exact ⟨_,rfl,by simp [Op.unary,Op.intArith]⟩
  .exact ⟨_,rfl,by simp [Op.unary,intBits_xor]⟩
theorem QyO (t:TypeId) (x:Operand) (b:Bool) (ho:o.op= .unOp .not t x) (hx:tv x= .a (.s (.bool b))):SemOp P o tv n0 [] (. =⟨.a (.s (.bool !b)),[],[]⟩) :=
 SemOp.read fun F ρ hp a w h1 _ _=>by
  have h2:a.eval x= .bool b:=QaV h1 (by rw [ho];simp [Op.operands]) hx;unfold execOp;rw [ho];simp only [h2];exact ⟨_,rfl,by simp [Op.unary]⟩
inductive TKind where
 | int (k:IntKind)|bool|str|ptr (e:TypeId)|slice (e:TypeId)|struct (fs:List (Nat × TypeId))|array (n:Nat) (e:TypeId)|other
structure Ty where
 (size bytes:Nat) (zero:List SV) (kind:TKind)
def TKind.agg:TKind->Bool
 | .struct _| .array _ _=>true
 | _=>false
def Qlx:Value->SV
 | .bool b=> .bool b
 | .int k n=> .int k n
 | .string s=> .str s
 | .pointer none=> .nil
 | .slice none 0 0=> .nilsl
 | _=> .unk
theorem Qn9 (ρ:Nm) (v:Value):VS ρ (Qlx v) v:=by
 unfold Qlx;split<;>simp [VS]
def QEY:Value->TV
 | .agg cs=> .a (.agg (cs.toList.map Qlx))
 | .tuple _=> .unk
 | v=> .a (.s (Qlx v))
theorem QfF (ρ:Nm) (cs:List Value):VSs ρ (cs.map Qlx) cs:=⟨by simp,fun k s hs=>by
 rw [List.getElem?_map] at hs
 cases e:cs[k]? with
 | none=>grind
 | some v=>grind [Qn9,VSs,Qlx]⟩
theorem Qv0 (ρ:Nm) (v:Value):VT ρ (QEY v) v:=by
 unfold QEY;split
 .exact ⟨_,rfl,QfF ρ _⟩
 .exact trivial
 .exact Qn9 ρ v
def Qel:TypeDesc->TKind->Prop
 | .int k,.int k'=>k=k'
 | .bool,.bool=>True
 | .string,.str=>True
 | .pointer e,.ptr e'=>e=e'
 | .slice e,.slice e'=>e=e'
 | .struct fields,.struct fs=>fields.toList.map (fun f=>(f.offset,f.type))=fs
 | .array n e,.array n' e'=>n=n'/\e=e'
 | .int _,_| .bool,_| .string,_| .pointer _,_| .slice _,_| .struct _,_| .array _ _,_=>False
 | _,.other=>True
 | _,_=>False
def TyOk (P:Program) (t:TypeId) (y:Ty):Prop :=
 ∃ d i z,P.underlying t=some d/\P.info? t=some i/\i.size=y.size/\i.bytes=y.bytes/\Qel d y.kind/\i.zero=some z/\z.cells.toList.map Qlx=y.zero/\y.zero.length=y.size
abbrev Tys:=TypeId->Option Ty
def QaU (P:Program) (T:Tys):Prop:=∀ t y,T t=some y->TyOk P t y
theorem TyOk.agg {P:Program} {t:TypeId} {y:Ty} (h:TyOk P t y) (w:World):(isAgg t).run P w= .ok y.kind.agg w:=by
 obtain ⟨d,_,_,h1,_,_,_,h5,_⟩:=h;unfold isAgg;rw [Sem.run_bind,run_underlying h1];revert h5;cases d<;>cases y.kind<;>simp [Qel,TKind.agg,Sem.run,pure]
theorem TyOk.sizeOf {P:Program} {t:TypeId} {y:Ty} (h:TyOk P t y) (w:World):(sizeOf t).run P w= .ok y.size w:=by
 obtain ⟨_,_,_,_,h2,h3,_⟩:=h;simp [Go.sizeOf,typeInfo,h2,h3]
theorem TyOk.zeroValue {P:Program} {t:TypeId} {y:Ty} (h:TyOk P t y) (w:World):∃ z:Value,(zeroValue t).run P w= .ok z w/\∀ ρ,VSs ρ y.zero z.cells.toList:=by
 obtain ⟨_,_,z,_,h2,_,_,_,h6,h7,_⟩:=h;refine ⟨z,by simp [Go.zeroValue,typeInfo,h2,h6],fun ρ=>?_⟩;rw [<- h7];exact QfF ρ _
theorem TyOk.sl {P:Program} {t e:TypeId} {y:Ty} (h:TyOk P t y) (hk:y.kind= .slice e):P.underlying t=some (.slice e):=by
 obtain ⟨d,_,_,h1,_,_,_,h5,_⟩:=h;rw [hk] at h5;cases d<;>simp [Qel] at h5
 subst h5;exact h1
theorem TyOk.arr {P:Program} {t e:TypeId} {n:Nat} {y:Ty} (h:TyOk P t y) (hk:y.kind= .array n e):P.underlying t=some (.array n e):=by
 obtain ⟨d,_,_,h1,_,_,_,h5,_⟩:=h;rw [hk] at h5;cases d<;>simp [Qel] at h5
 obtain ⟨rfl,rfl⟩:=h5;exact h1
theorem TyOk.str {P:Program} {t:TypeId} {y:Ty} (h:TyOk P t y) (hk:y.kind= .str):P.underlying t=some .string:=by
 obtain ⟨d,_,_,h1,_,_,_,h5,_⟩:=h;rw [hk] at h5;cases d<;>simp [Qel] at h5
 exact h1
theorem TyOk.bool {P:Program} {t:TypeId} {y:Ty} (h:TyOk P t y) (hk:y.kind= .bool):P.underlying t=some .bool:=by
 obtain ⟨d,_,_,h1,_,_,_,h5,_⟩:=h;rw [hk] at h5;cases d<;>simp [Qel] at h5
 exact h1
theorem TyOk.int {P:Program} {t:TypeId} {y:Ty} {k:IntKind} (h:TyOk P t y) (hk:y.kind= .int k):P.underlying t=some (.int k):=by
 obtain ⟨d,_,_,h1,_,_,_,h5,_⟩:=h;rw [hk] at h5;cases d<;>simp [Qel] at h5
 subst h5;exact h1
theorem TyOk.struct {P:Program} {t:TypeId} {y:Ty} {fs:List (Nat × TypeId)} (h:TyOk P t y) (hk:y.kind= .struct fs):∃ fields:Array Field,P.underlying t=some (.struct fields)/\fields.toList.map (fun f=>(f.offset,f.type))=fs:=by
 obtain ⟨d,_,_,h1,_,_,_,h5,_⟩:=h;rw [hk] at h5;cases d<;>simp [Qel] at h5
 exact ⟨_,h1,by simpa using h5⟩
def seg (cells:List SV) (o n:Nat):List SV:=(cells.drop o).take n
variable {P:Program} {o:Oper} {tv:Operand->TV} {n0:Nat}
theorem Qhq {F:Fr} {ρ:Nm} {hp:Hp} {w:World} {i:Nat} {r:Row} {L:Loc} (hc:Conc F ρ hp w) (hr:hp i=some r) (hL:ρ i=some (.at L)) :
  L.es=r.es/\L.δ+r.cells.length<=L.tot/\∃ c t fz,w.heap[L.b]?=some (.cells c t fz)/\c.size=L.tot/\(r.own=true->fz=(0,0))/\∀ (k:Nat) s,r.cells[k]?=some s->∃ v,c[L.δ+k]?=some v/\VS ρ s v:=by
 have:=hc.rows i r hr;unfold RowOk at this;rw [hL] at this;exact this
theorem QfZ {F:Fr} {ρ:Nm} {hp:Hp} {w:World} {i:Nat} {r:Row} {L:Loc} (hc:Conc F ρ hp w) (hr:hp i=some r) (hL:ρ i=some (.at L)) {k:Nat} {s:SV} (hs:r.cells[k]?=some s) :
  ∃ v,w.cell? ⟨L.b,L.δ+k,none⟩=some v/\VS ρ s v:=by
 obtain ⟨_,_,_,_,_,h1,_,_,h2⟩:=Qhq hc hr hL;obtain ⟨v,h3,h4⟩:=h2 k s hs;exact ⟨v,by simp [World.cell?,h1,h3],h4⟩
theorem QgI {F:Fr} {ρ:Nm} {hp:Hp} {w:World} {i:Nat} {r:Row} {L:Loc} (hc:Conc F ρ hp w) (hr:hp i=some r) (hL:ρ i=some (.at L)) (k:Nat) (l:List SV)
  (hs:∀ (j:Nat) s,l[j]?=some s->r.cells[k+j]?=some s) :
  ∃ vs:List Value,VSs ρ l vs/\(loadCells ⟨L.b,L.δ+k,none⟩ l.length).run P w= .ok vs.toArray w:=by
 have:∀ j,∃ v,j<l.length->(w.cell? ⟨L.b,L.δ+k+j,none⟩=some v/\∀ s,l[j]?=some s->VS ρ s v):=fun j=>by
  by_cases hj:j<l.length
  .obtain ⟨v,h1,h2⟩:=QfZ hc hr hL (hs j _ (List.getElem?_eq_getElem hj))
   refine ⟨v,fun _=>⟨by rw [Nat.add_assoc];exact h1,fun s e=>?_⟩⟩;rw [List.getElem?_eq_getElem hj] at e;injection e with e;subst e;exact h2
  .exact ⟨default,fun h=>absurd h hj⟩
 obtain ⟨f,hf⟩:=Classical.axiomOfChoice this;refine ⟨(List.range l.length).map f,⟨by simp,fun j s e=>?_⟩,?_⟩
 .grind
 .exact run_loadCells w _ _ f fun j hj=>by rw [Addr.add_lit];exact (hf j hj).1
theorem Qug {T:Tys} (hT:QaU P T) (t:TypeId) (x:Operand) (y:Ty) (i k:Nat) (r:Row) (s:SV) (ho:o.op= .load t x) (hx:tv x= .a (.s (.ptr i k))) (hy:T t=some y) (hk:y.kind.agg=false) (hs:r.cells[k]?=some s) :
  SemOp P o tv n0 [(i,r)] (. =⟨.a (.s s),[],[]⟩) :=
 SemOp.read fun F ρ hp a w h1 hc hf=>by
  obtain ⟨_,hL,h2⟩:=QaV h1 (by rw [ho];simp [Op.operands]) hx;have hr:=hf (i,r) (by simp);obtain ⟨v,h3,h4⟩:=QfZ hc hr hL hs;refine ⟨v,h4,?_⟩;unfold execOp;rw [ho];simp [h2,Instr.loadAt,Instr.sureAddr,loadVar,(hT t y hy).agg w,hk,load,Sem.run,h3,pure]
theorem Qlb {T:Tys} (hT:QaU P T) (t:TypeId) (x:Operand) (y:Ty) (i k:Nat) (r:Row) (l:List SV) (ho:o.op= .load t x) (hx:tv x= .a (.s (.ptr i k))) (hy:T t=some y) (hk:y.kind.agg=true) (hn:l.length=y.size)
  (hs:∀ (j:Nat) s,l[j]?=some s->r.cells[k+j]?=some s) :
  SemOp P o tv n0 [(i,r)] (. =⟨.a (.agg l),[],[]⟩) :=
 SemOp.read fun F ρ hp a w h1 hc hf=>by
  obtain ⟨_,hL,h2⟩:=QaV h1 (by rw [ho];simp [Op.operands]) hx;have hr:=hf (i,r) (by simp);obtain ⟨vs,h3,h4⟩:=QgI (P:=P) hc hr hL k l hs;rw [hn] at h4;refine ⟨.agg vs.toArray,⟨_,rfl,h3⟩,?_⟩;unfold execOp;rw [ho];simp [h2,Instr.loadAt,Instr.sureAddr,loadVar,(hT t y hy).agg w,hk,(hT t y hy).sizeOf w,h4]
def SV.known:SV->Bool
 | .unk=>false
 | _=>true
def Qas:List SV->Bool
 | []=>true
 | s::l=>match s.known with
  | true=>Qas l
  | false=>false
theorem Qfi {l:List SV} (h:Qas l=true):∀ s∈l,s.known=true:=by
 induction l with
 | nil=>grind
 | cons a l ih=>grind [Qas]
theorem VS.one {ρ:Nm} {s:SV} {v:Value} (h:VS ρ s v) (hk:s.known=true):v.oneCell'=true:=by
 cases s<;>simp only [VS,SV.known,Bool.false_eq_true] at h hk
 case bool=>subst h;rfl
 case int=>subst h;rfl
 case str=>subst h;rfl
 case nil=>subst h;rfl
 case ptr=>obtain ⟨_,_,rfl⟩:=h;rfl
 case nilsl=>subst h;rfl
 case sl=>obtain ⟨_,_,rfl,_⟩:=h;rfl
 case fn=>obtain ⟨_,rfl,_⟩:=h;rfl
 case fz=>obtain ⟨_,_,rfl,_⟩:=h;rfl
def AV.cells:AV->List SV
 | .s x=> [x]
 | .agg l=>l
theorem VA.cells {ρ:Nm} {x:AV} {v:Value} (h:VA ρ x v) (hk:Qas x.cells=true):VSs ρ x.cells v.cells.toList:=by
 cases x with
 | s x =>
  have h1:=VS.one h (Qfi hk x (by simp [AV.cells]));have h2:v.cells= #[v]:=by cases v<;>simp_all [Value.cells,Value.oneCell']
  rw [h2];exact ⟨rfl,fun k s e=>by grind [AV.cells,VA,Qas,VSs]⟩
 | agg l=>obtain ⟨_,rfl,hc⟩:=h;exact hc
theorem VSs.one {ρ:Nm} {l:List SV} {vs:List Value} (h:VSs ρ l vs) (hk:Qas l=true):∀ v∈vs,v.oneCell'=true:=by
 intro v hv;obtain ⟨k,YN,rfl⟩:=List.getElem_of_mem hv;have hl:k<l.length:=by rw [h.1];exact YN
 obtain ⟨_,h1,h2⟩:=h.2 k _ (List.getElem?_eq_getElem hl);rw [List.getElem?_eq_getElem YN] at h1;injection h1 with h1;subst h1
 exact h2.one (Qfi hk _ (List.getElem_mem hl))
def QaB:List SV->Nat->List SV->List SV
 | c,_,[]=>c
 | c,k,s::l=>QaB (c.set k s) (k+1) l
theorem Qbu (c:List SV) (k:Nat) (l:List SV):(QaB c k l).length=c.length:=by
 induction l generalizing c k with
 | nil=>rfl
 | cons s l ih=>grind [QaB]
theorem Qbg (c:List SV) (k:Nat) (l:List SV) (j:Nat) (hl:k+l.length<=c.length) :
  (QaB c k l)[j]?=if k<=j/\j<k+l.length then l[j-k]? else c[j]?:=by
 induction l generalizing c k with
 | nil=>grind [QaB]
 | cons s l ih =>
  simp only [List.length_cons] at hl;rw [QaB,ih _ _ (by simp;omega)]
  by_cases h1:k+1<=j/\j<k+1+l.length
  .grind
  .rw [if_neg h1]
   by_cases h2:j=k
   .grind
   .grind
variable {P:Program} {o:Oper} {tv:Operand->TV} {n0:Nat}
theorem Qtv {α:Type} (n m:Nat) (x:α):QaW [(m,x)] n=if n=m then some x else none:=by grind [QaW,Nat.beq,Nat.eq_of_beq_eq_true,Nat.ne_of_beq_eq_false]
theorem Qoj (v:TV) (i:Nat) (r:Option Row) (hp:Hp):Ef.app ⟨v,[(i,r)],[]⟩ hp=Hp.set hp i r:=by
 funext m
 show (match QaW [(i,r)] m with|some r=>r|none=>hp m)=_;rw [Qtv];unfold Hp.set
 by_cases h:m=i<;>simp [h]
theorem Qk8 {cur:List Value} {k m j:Nat} {vs:List Value} (hm:vs.length=m) (hk:k+m<=cur.length) :
  (cur.take k++vs++cur.drop (k+m))[j]?=if k<=j/\j<k+m then vs[j-k]? else cur[j]?:=by
 subst hm;have JY:(cur.take k).length=k:=by simp;omega
 by_cases h1:j<k
 .grind
 .grind
theorem Qrt {T:Tys} (hT:QaU P T) (t:TypeId) (x z:Operand) (y:Ty) (i k:Nat) (r:Row) (u:AV) (ho:o.op= .store t x z) (hx:tv x= .a (.s (.ptr i k))) (hz:tv z= .a u) (hy:T t=some y)
  (hn:u.cells.length=y.size) (wL:Qas u.cells=true) (jS:r.own=true) (HJ:k+u.cells.length<=r.cells.length) :
  SemOp P o tv n0 [(i,r)] (. =⟨.unk,[(i,some { r with cells:=QaB r.cells k u.cells })],[]⟩):=by
 intro F ρ hp a w Q K h1 hc hf jA hK;obtain ⟨L,hL,h2⟩:=QaV h1 (by rw [ho];simp [Op.operands]) hx;have h3:=h1 z (by rw [ho];simp [Op.operands]);rw [hz] at h3;have h4:=VA.cells h3 wL;have hr:=hf (i,r) (by simp);obtain ⟨_,gM,c,ct,_,e1,_,e3,_⟩:=Qhq hc hr hL;simp only [] at gM hr;have e3:=e3 jS;subst e3;have gF:(a.eval z).cells.toList.length=u.cells.length:=h4.1.symm;have gX:=run_storeCells_at P L.b (L.δ+k) ct (a.eval z).cells.toList 0 c w e1 (by rw [gF];omega) (h4.one wL)
 have hw:(execOp a.eval o).run P w= .ok .skip (w.setRow L.b (c.toList.take (L.δ+k)++(a.eval z).cells.toList++c.toList.drop (L.δ+k+u.cells.length)).toArray):=by
  unfold execOp;rw [ho];have fQ:(a.eval z).cells.size=y.size:=by rw [<- hn,<- gF];simp
  simp only [Nat.add_zero,gF] at gX;simp [h2,Instr.storeAt,Instr.sureAddr,storeVar,(hT t y hy).sizeOf w,fQ,gX]
 unfold Oper.wp;rw [hw,Oper.upon_skip];refine hK _ ρ undef _ rfl (Ext.refl _) (fun _ _=>rfl) trivial ?_;rw [Qoj];refine hc.write hr jS hL (c':=_) (t:=ct) (QaB r.cells k u.cells) (setRow_heap w L.b c _ ct _ e1) (by simp only [List.size_toArray,List.length_append,List.length_take,List.length_drop,gF,Array.length_toList];omega) (by simp only [Qbu];exact gM) (fun j s hs=>?_) (fun b hb=>setRow_other _ _ _ _ hb) (by simp) rfl rfl rfl;rw [Qbg _ _ _ _ HJ] at hs;simp only [List.getElem?_toArray];rw [Qk8 gF (by simp;omega)];split at hs
 .rename_i hj
  rw [if_pos (by omega),show L.δ+j-(L.δ+k)=j-k by omega];exact h4.2 _ _ hs
 .grind
variable {P:Program} {o:Oper} {tv:Operand->TV} {n0:Nat}
theorem Qrm {T:Tys} (hT:QaU P T) (t:TypeId) (y:Ty) (ho:o.op= .alloc t) (hy:T t=some y) :
  SemOp P o tv n0 [] (. =⟨.a (.s (.ptr n0 0)),[],[(n0,⟨true,1,y.zero⟩)]⟩) :=
 SemOp.mk fun F ρ hp a w _ _ _=>by
  obtain ⟨z,h1,h2⟩:=(hT t y hy).zeroValue w;refine ⟨.pointer (some ⟨w.heap.size,0,none⟩),z.cells,t,w,?_,?_,?_,rfl,rfl,rfl,rfl,?_⟩
  .have:=(h2 ρ).1;simp at this;omega
  .intro k s hs;obtain ⟨v,h3,h4⟩:=(h2 ρ).2 k s hs;exact ⟨v,by simpa using h3,h4⟩
  .intro ρ' _ hn;exact ⟨_,hn,rfl⟩
  .unfold execOp;rw [ho]
   simp [Instr.alloc,h1,newVar,newRow]
theorem QyJ (t:TypeId) (x:Operand) (u:AV) (ho:o.op= .box t x) (hx:tv x= .a u) (hk:Qas u.cells=true) :
  SemOp P o tv n0 [] (. =⟨.a (.s (.ptr n0 0)),[],[(n0,⟨true,1,u.cells⟩)]⟩) :=
 SemOp.mk fun F ρ hp a w h1 _ _=>by
  have h2:=h1 x (by rw [ho];simp [Op.operands]);rw [hx] at h2;have h3:=VA.cells h2 hk;refine ⟨.pointer (some ⟨w.heap.size,0,none⟩),(a.eval x).cells,t,w,?_,?_,?_,rfl,rfl,rfl,rfl,?_⟩
  .have:=h3.1;simp at this;omega
  .intro k s hs;obtain ⟨v,h4,h5⟩:=h3.2 k s hs;exact ⟨v,by simpa using h4,h5⟩
  .intro ρ' _ hn;exact ⟨_,hn,rfl⟩
  .unfold execOp;rw [ho]
   simp [Instr.box,newVar,newRow]
def QbX (place:Nat->Option (Nat × Nat)):List SV->List (Nat × List SV)->Option (List SV)
 | c,[]=>some c
 | c,p::rest=>match place p.1 with
  | none=>none
  | some q=>match Nat.beq p.2.length q.2 with
   | false=>none
   | true=>match Nat.ble (q.1+p.2.length) c.length with
    | false=>none
    | true=>QbX place (QaB c q.1 p.2) rest
def VPs (ρ:Nm) (l:List (Nat × List SV)) (vs:List (Nat × Value)):Prop:=l.length=vs.length/\∀ (k:Nat) p,l[k]?=some p->∃ v,vs[k]?=some (p.1,v)/\VSs ρ p.2 v.cells.toList
theorem Qtj (off:Nat) (cs:Array Value) (l:List Value) (n:Nat) :
  ((l.zipIdx n).foldl (fun cs (p:Value × Nat)=>cs.setIfInBounds (off+p.2) p.1) cs).size=cs.size /\
  ∀ j,off+n+l.length<=cs.size->((l.zipIdx n).foldl (fun cs (p:Value × Nat)=>cs.setIfInBounds (off+p.2) p.1) cs)[j]?=if off+n<=j/\j<off+n+l.length then l[j-(off+n)]? else cs[j]?:=by
 induction l generalizing n cs with
 | nil=>refine ⟨rfl,fun j _=>?_⟩;rw [if_neg (by simp)];rfl
 | cons v l ih =>
  simp only [List.zipIdx_cons,List.foldl_cons];obtain ⟨h1,h2⟩:=ih (cs.setIfInBounds (off+n) v) (n+1);refine ⟨by simpa using h1,fun j hj=>?_⟩;simp only [List.length_cons] at hj;rw [h2 j (by simp;omega)]
  by_cases e1:off+(n+1)<=j/\j<off+(n+1)+l.length
  .grind
  .rw [if_neg e1]
   by_cases e2:j=off+n
   .grind
   .grind
theorem QFu (off:Nat) (cs:Array Value) (l:Array Value) :
  (l.zipIdx.foldl (fun cs (p:Value × Nat)=>cs.setIfInBounds (off+p.2) p.1) cs)=(l.toList.zipIdx.foldl (fun cs (p:Value × Nat)=>cs.setIfInBounds (off+p.2) p.1) cs):=by
 rw [<- Array.foldl_toList,Array.toList_zipIdx]
theorem QkF (place:Nat->Option (Nat × Nat)) (ρ:Nm):∀ (l:List (Nat × List SV)) (vs:List (Nat × Value)) (c:List SV) (cs:Array Value) (r:List SV),
  VPs ρ l vs->VSs ρ c cs.toList->QbX place c l=some r->∃ rs,Instr.fill place cs vs=some rs/\VSs ρ r rs.toList:=by
 intro l
 induction l with
 | nil =>
  intro vs c cs r h1 h2 h3;injection h3 with h3;subst h3
  have:vs= []:=by have:=h1.1;simpa using this.symm
  subst this;exact ⟨cs,rfl,h2⟩
 | cons p l ih =>
  intro vs c cs r h1 h2 h3
  cases vs with
  | nil=>have:=h1.1;simp at this
  | cons v vs =>
   obtain ⟨u,h4,h5⟩:=h1.2 0 p rfl;injection h4 with h4;subst h4
   unfold QbX at h3
   cases e1:place p.1 with
   | none=>grind
   | some q =>
    rw [e1] at h3;simp only [] at h3
    cases e2:Nat.beq p.2.length q.2 with
    | false=>grind
    | true =>
     rw [e2] at h3;simp only [] at h3
     cases e3:Nat.ble (q.1+p.2.length) c.length with
     | false=>grind
     | true =>
      rw [e3] at h3;simp only [] at h3;have e2:=Nat.eq_of_beq_eq_true e2;have e3:=Nat.le_of_ble_eq_true e3;have hul:u.cells.size=p.2.length:=by have:=h5.1;simp at this;omega
      have gM:cs.size=c.length:=by have:=h2.1;simp at this;omega
      unfold Instr.fill;rw [e1];simp only [];rw [if_neg (by simp;omega)];refine ih vs _ _ r ⟨by have:=h1.1;simpa using this,fun k x hx=>h1.2 (k+1) x hx⟩ ?_ h3;rw [QFu];obtain ⟨g1,g2⟩:=Qtj q.1 cs u.cells.toList 0;refine ⟨by simp [Qbu,g1,gM],fun k s hs=>?_⟩;rw [Qbg _ _ _ _ e3] at hs;rw [Array.getElem?_toList,g2 k (by simp;omega)];simp only [Nat.add_zero,Array.length_toList,hul];split at hs
      .grind [VPs,VSs,QbX]
      .grind [VPs,VSs,QbX]
def QdT (tv:Operand->TV):List (Nat × Operand)->Option (List (Nat × List SV))
 | []=>some []
 | p::l=>match tv p.2 with
  | .a u=>match Qas u.cells with
   | true=>match QdT tv l with
    | some r=>some ((p.1,u.cells)::r)
    | none=>none
   | false=>none
  | _=>none
theorem Qmd {ρ:Nm} {a:Act}:∀ (l:List (Nat × Operand)) (r:List (Nat × List SV)),QdT tv l=some r->(∀ x∈l.map (·.2),VT ρ (tv x) (a.eval x))->VPs ρ r (l.map fun p=>(p.1,a.eval p.2)):=by
 intro l
 induction l with
 | nil=>intro r h _;injection h with h;subst h;exact ⟨rfl,fun k p e=>by cases e⟩
 | cons p l ih =>
  intro r h hv;unfold QdT at h;have hp:=hv p.2 (by simp)
  cases e1:tv p.2 with
  | unk=>grind
  | tup _=>grind
  | a u =>
   rw [e1] at h hp;simp only [] at h
   cases e2:Qas u.cells with
   | false=>grind
   | true =>
    rw [e2] at h;simp only [] at h
    cases e3:QdT tv l with
    | none=>grind
    | some q =>
     rw [e3] at h;injection h with h;subst h
     obtain ⟨g1,_⟩:=ih q e3 (fun x hx=>hv x (by simp at hx |-;exact .inr hx));refine ⟨by simp [g1],fun k x hx=>?_⟩
     cases k with
     | zero=>simp at hx;subst hx;exact ⟨_,rfl,VA.cells hp e2⟩
     | succ k=>grind
def Qdo (T:Tys):List (Nat × TypeId)->Option (List (Nat × Nat))
 | []=>some []
 | p::l=>match T p.2 with
  | some y=>match Qdo T l with
   | some r=>some ((p.1,y.size)::r)
   | none=>none
  | none=>none
theorem QqQ {T:Tys} (hT:QaU P T):∀ (fields:List Field) (r:List (Nat × Nat)),Qdo T (fields.map fun f=>(f.offset,f.type))=some r ->
  fields.mapM (fun f=>(P.info? f.type).map fun i=>(f.offset,i.size))=some r:=by
 intro fields
 induction fields with
 | nil=>intro r h;injection h with h;subst h;rfl
 | cons f l ih =>
  intro r h;unfold Qdo at h;simp only [List.map_cons] at h
  cases e1:T f.type with
  | none=>grind
  | some y =>
   rw [e1] at h;simp only [] at h
   cases e2:Qdo T (l.map fun f=>(f.offset,f.type)) with
   | none=>grind
   | some q =>
    rw [e2] at h;injection h with h;subst h
    obtain ⟨_,i,_,_,h2,h3,_⟩:=hT _ _ e1;simp [List.mapM_cons,h2,h3,ih q e2]
theorem QsE {T:Tys} (hT:QaU P T) (t:TypeId) (y:Ty) (ρ:Nm) (ps:List (Nat × List SV)) (vs:List (Nat × Value)) (l:List SV) (hy:T t=some y) (hv:VPs ρ ps vs)
  (hb:(∃ fs pl,y.kind= .struct fs/\Qdo T fs=some pl/\QbX (fun i=>pl[i]?) y.zero ps=some l)\/(∃ n e ye,y.kind= .array n e/\T e=some ye/\QbX (fun i=>some (i*ye.size,ye.size)) y.zero ps=some l)) :
  ∃ cs,P.built t vs=some cs/\VSs ρ l cs.toList:=by
 obtain ⟨_,_,z,_,h2,_,_,_,h6,h7,_⟩:=hT t y hy;have hz:VSs ρ y.zero z.cells.toList:=by rw [<- h7];exact QfF ρ _
 rcases hb with ⟨fs,pl,hk,hp,hf⟩|⟨n,e,ye,hk,he,hf⟩
 .obtain ⟨_,g1,g2⟩:=(hT t y hy).struct hk
  subst g2;obtain ⟨cs,g3,g4⟩:=QkF _ ρ ps vs _ z.cells l hv hz hf;refine ⟨cs,?_,g4⟩;unfold Program.built;simp only [h2,g1,h6,QqQ hT _ _ hp];rw [<- g3];congr 1
  funext x;simp
 .obtain ⟨cs,g3,g4⟩:=QkF _ ρ ps vs _ z.cells l hv hz hf
  refine ⟨cs,?_,g4⟩;obtain ⟨_,_,_,_,k2,k3,_⟩:=hT e ye he;unfold Program.built;simp only [h2,(hT t y hy).arr hk,h6,k2,k3];exact g3
theorem QjG {T:Tys} (hT:QaU P T) (t:TypeId) (parts:Array (Nat × Operand)) (y:Ty) (ps:List (Nat × List SV)) (l:List SV) (ho:o.op= .build t parts) (hy:T t=some y) (yI:QdT tv parts.toList=some ps)
  (hb:(∃ fs pl,y.kind= .struct fs/\Qdo T fs=some pl/\QbX (fun i=>pl[i]?) y.zero ps=some l)\/(∃ n e ye,y.kind= .array n e/\T e=some ye/\QbX (fun i=>some (i*ye.size,ye.size)) y.zero ps=some l)) :
  SemOp P o tv n0 [] (. =⟨.a (.agg l),[],[]⟩) :=
 SemOp.read fun F ρ hp a w h1 _ _=>by
  have hv:=Qmd (ρ:=ρ) (a:=a) _ _ yI (fun x hx=>h1 x (by rw [ho];simpa [Op.operands] using hx));obtain ⟨cs,h2,h3⟩:=QsE hT t y ρ ps _ l hy hv hb;refine ⟨.agg cs,⟨cs,rfl,h3⟩,?_⟩;unfold execOp;rw [ho];have h4:(Instr.build t (parts.map fun (i,x)=>(i,a.eval x))).run P w= .ok (.agg cs) w:=run_build w t _ cs (by simpa using h2);simp only [Sem.run_bind,h4,Result.andThen_ok];rfl
variable {P:Program} {o:Oper} {tv:Operand->TV} {n0:Nat}
theorem Qim {T:Tys} (hT:QaU P T) (t:TypeId) (x:Operand) (f:Nat) (y yf:Ty) (fs:List (Nat × TypeId)) (p:Nat × TypeId) (i k:Nat) (ho:o.op= .fieldAddr t x f) (hx:tv x= .a (.s (.ptr i k))) (hy:T t=some y) (hk:y.kind= .struct fs)
  (hf:fs[f]?=some p) (JK:T p.2=some yf) (hs:Nat.beq yf.size 0=false):SemOp P o tv n0 [] (. =⟨.a (.s (.ptr i (k+p.1))),[],[]⟩) :=
 SemOp.read fun F ρ hp a w h1 hc _=>by
  obtain ⟨L,hL,h2⟩:=QaV h1 (by rw [ho];simp [Op.operands]) hx;obtain ⟨fields,h3,h4⟩:=(hT t y hy).struct hk;subst h4;rw [List.getElem?_map] at hf
  cases e:fields.toList[f]? with
  | none=>grind
  | some fd =>
   rw [e] at hf;injection hf with hf;subst hf
   have e':fields[f]?=some fd:=by simpa using e
   have hs:=Nat.ne_of_beq_eq_false hs;refine ⟨.pointer (some ⟨L.b,L.δ+(k+fd.offset),none⟩),⟨L,hL,rfl⟩,?_⟩;unfold execOp;rw [ho];simp [h2,Instr.fieldAt,Instr.sureAddr,run_underlying h3,e',fieldPlace,(hT _ _ JK).sizeOf w,hs,Addr.add_lit,Nat.add_assoc]
theorem Qin {T:Tys} (hT:QaU P T) (t e:TypeId) (x ix:Operand) (y ye:Ty) (i k n:Nat) (q:IntKind) (z:Int) (ho:o.op= .indexAddr t x ix) (hx:tv x= .a (.s (.sl i k n))) (wU:tv ix= .a (.s (.int q z))) (hy:T t=some y) (hk:y.kind= .slice e)
  (he:T e=some ye) (h0:0<=z) (hn:z<n):SemOp P o tv n0 [] (. =⟨.a (.s (.ptr i (k+z.toNat * ye.size))),[],[]⟩) :=
 SemOp.read fun F ρ hp a w h1 hc _=>by
  obtain ⟨_,_,h2,_,h4⟩:=QaV h1 (by rw [ho];simp [Op.operands]) hx;have h5:a.eval ix= .int q z:=QaV h1 (by rw [ho];simp [Op.operands]) wU;have hu:=(hT t y hy).sl hk;rcases h4 with ⟨L,hL,⟨rfl,_⟩|h6⟩|⟨_,h6⟩
  .refine ⟨.pointer (some ⟨L.b,L.δ+(k+z.toNat * ye.size),none⟩),⟨L,hL,rfl⟩,?_⟩
   unfold execOp;rw [ho];have e1:(asIntOf (.int q z)).run P w= .ok (q,z) w:=rfl;simp [h2,h5,Instr.indexAt,e1,run_underlying hu,h0,hn,(hT _ _ he).sizeOf w,Addr.add_lit,Nat.add_assoc]
  .omega
  .omega
theorem Qg4 {T:Tys} (hT:QaU P T) (t e:TypeId) (x ix:Operand) (y ye:Ty) (i k n:Nat) (q:IntKind) (z:Int) (ho:o.op= .indexAddr t x ix) (hx:tv x= .a (.s (.ptr i k))) (wU:tv ix= .a (.s (.int q z))) (hy:T t=some y) (hk:y.kind= .array n e)
  (he:T e=some ye) (h0:0<=z) (hn:z<n):SemOp P o tv n0 [] (. =⟨.a (.s (.ptr i (k+z.toNat * ye.size))),[],[]⟩) :=
 SemOp.read fun F ρ hp a w h1 hc _=>by
  obtain ⟨L,hL,h2⟩:=QaV h1 (by rw [ho];simp [Op.operands]) hx;have h5:a.eval ix= .int q z:=QaV h1 (by rw [ho];simp [Op.operands]) wU;have hu:=(hT t y hy).arr hk;refine ⟨.pointer (some ⟨L.b,L.δ+(k+z.toNat * ye.size),none⟩),⟨L,hL,rfl⟩,?_⟩;unfold execOp;rw [ho];have e1:(asIntOf (.int q z)).run P w= .ok (q,z) w:=rfl;simp [h2,h5,Instr.indexAt,Instr.sureAddr,e1,run_underlying hu,h0,hn,(hT _ _ he).sizeOf w,Addr.add_lit,Nat.add_assoc]
theorem Qnx {T:Tys} (hT:QaU P T) (t:TypeId) (x ix:Operand) (y:Ty) (s:ByteArray) (q:IntKind) (z:Int) (b:UInt8) (ho:o.op= .index t x ix) (hx:tv x= .a (.s (.str s))) (wU:tv ix= .a (.s (.int q z))) (hy:T t=some y) (hk:y.kind= .str)
  (h0:0<=z) (hb:s[z.toNat]?=some b):SemOp P o tv n0 [] (. =⟨.a (.s (.int .u8 b.toNat)),[],[]⟩) :=
 SemOp.read fun F ρ hp a w h1 hc _=>by
  have h2:a.eval x= .string s:=QaV h1 (by rw [ho];simp [Op.operands]) hx;have h5:a.eval ix= .int q z:=QaV h1 (by rw [ho];simp [Op.operands]) wU;have hu:=(hT t y hy).str hk;refine ⟨.int .u8 b.toNat,rfl,?_⟩;unfold execOp;rw [ho];have e1:(asIntOf (.int q z)).run P w= .ok (q,z) w:=rfl;simp [h2,h5,Instr.index,e1,run_underlying hu,h0,hb]
def Qie (y:Ty) (l:List SV) (off:Nat):Option AV :=
 match y.kind.agg with
 | true=>some (.agg (seg l off y.size))
 | false=>match l[off]? with
  | some s=>some (.s s)
  | none=>none
theorem QvE {ρ:Nm} {l:List SV} {cs:Array Value} (h:VSs ρ l cs.toList) (off n:Nat):VSs ρ (seg l off n) (cs.extract off (off+n)).toList:=by grind [seg,Array.getElem?_extract,Array.getElem?_eq_some_iff,VSs]
theorem QqO {T:Tys} (hT:QaU P T) {t:TypeId} {y:Ty} (hy:T t=some y) {ρ:Nm} {l:List SV} {cs:Array Value} (h:VSs ρ l cs.toList) {off:Nat} {u:AV} (hp:Qie y l off=some u) (w:World) :
  ∃ v,(part t cs off).run P w= .ok v w/\VA ρ u v:=by
 unfold Qie at hp
 cases e:y.kind.agg with
 | true =>
  rw [e] at hp;injection hp with hp;subst hp
  refine ⟨.agg (cs.extract off (off+y.size)),?_,⟨_,rfl,QvE h off y.size⟩⟩;simp [part,(hT t y hy).agg w,e,(hT t y hy).sizeOf w]
 | false =>
  rw [e] at hp;simp only [] at hp
  cases e2:l[off]? with
  | none=>grind
  | some s =>
   rw [e2] at hp;injection hp with hp;subst hp
   obtain ⟨v,h1,h2⟩:=h.2 _ s e2;have JM:cs[off]?=some v:=by simpa using h1
   exact ⟨v,by simp [part,(hT t y hy).agg w,e,JM],h2⟩
theorem QlO {ρ:Nm} {a:Act} {x:Operand} {u:AV} (h1:∀ z∈o.op.operands,VT ρ (tv z) (a.eval z)) (hm:x∈o.op.operands) (hx:tv x= .a u):VA ρ u (a.eval x):=by
 have:=h1 x hm;rw [hx] at this;exact this
theorem Qrp {T:Tys} (hT:QaU P T) (t:TypeId) (x:Operand) (f:Nat) (y yf:Ty) (fs:List (Nat × TypeId)) (p:Nat × TypeId) (l:List SV) (u:AV) (ho:o.op= .field t x f) (hx:tv x= .a (.agg l)) (hy:T t=some y) (hk:y.kind= .struct fs)
  (hf:fs[f]?=some p) (JK:T p.2=some yf) (hu:Qie yf l p.1=some u):SemOp P o tv n0 [] (. =⟨.a u,[],[]⟩) :=
 SemOp.read fun F ρ hp a w h1 hc _=>by
  obtain ⟨_,h2,h6⟩:=QlO h1 (by rw [ho];simp [Op.operands]) hx;obtain ⟨fields,h3,h4⟩:=(hT t y hy).struct hk;subst h4;rw [List.getElem?_map] at hf
  cases e:fields.toList[f]? with
  | none=>grind
  | some fd =>
   rw [e] at hf;injection hf with hf;subst hf
   have e':fields[f]?=some fd:=by simpa using e
   obtain ⟨v,h7,h8⟩:=QqO hT JK h6 hu w;refine ⟨v,h8,?_⟩;unfold execOp;rw [ho];simp [h2,Instr.field,run_underlying h3,e',asAgg,h7]
theorem Qnw {T:Tys} (hT:QaU P T) (t e:TypeId) (x ix:Operand) (y ye:Ty) (l:List SV) (n:Nat) (u:AV) (q:IntKind) (z:Int) (ho:o.op= .index t x ix) (hx:tv x= .a (.agg l)) (wU:tv ix= .a (.s (.int q z))) (hy:T t=some y) (hk:y.kind= .array n e)
  (he:T e=some ye) (h0:0<=z) (hn:z<n) (hu:Qie ye l (z.toNat * ye.size)=some u):SemOp P o tv n0 [] (. =⟨.a u,[],[]⟩) :=
 SemOp.read fun F ρ hp a w h1 hc _=>by
  obtain ⟨_,h2,h6⟩:=QlO h1 (by rw [ho];simp [Op.operands]) hx;have h5:a.eval ix= .int q z:=QaV h1 (by rw [ho];simp [Op.operands]) wU;have hut:=(hT t y hy).arr hk;obtain ⟨v,h7,h8⟩:=QqO hT he h6 hu w;refine ⟨v,h8,?_⟩;unfold execOp;rw [ho];have e1:(asIntOf (.int q z)).run P w= .ok (q,z) w:=rfl;simp [h2,h5,Instr.index,e1,run_underlying hut,h0,hn,(hT _ _ he).sizeOf w,h7]
theorem Qla (x:Operand) (k:Nat) (l:List AV) (u:AV) (ho:o.op= .extract x k) (hx:tv x= .tup l) (hu:l[k]?=some u):SemOp P o tv n0 [] (. =⟨.a u,[],[]⟩) :=
 SemOp.read fun F ρ hp a w h1 hc _=>by
  have h2:=h1 x (by rw [ho];simp [Op.operands]);rw [hx] at h2;obtain ⟨vs,h3,h4⟩:=h2;obtain ⟨v,h5,h6⟩:=h4.2 k u hu;have h5':vs[k]?=some v:=by simpa using h5
  refine ⟨v,h6,?_⟩;unfold execOp;rw [ho];simp [h3,Instr.extract,h5']
theorem QjJ (x:Operand) (i k:Nat) (ho:o.op= .nilCheck x) (hx:tv x= .a (.s (.ptr i k))):SemOp P o tv n0 [] (. =⟨.a (.s (.ptr i k)),[],[]⟩) :=
 SemOp.read fun F ρ hp a w h1 hc _=>by
  have h2:=QaV h1 (by rw [ho];simp [Op.operands]) hx;obtain ⟨L,hL,h3⟩:=h2;refine ⟨a.eval x,⟨L,hL,h3⟩,?_⟩;unfold execOp;rw [ho];simp [h3]
theorem Qio (x:Operand) (f:FuncId) (cap:List (Nat × Nat)) (ho:o.op= .nilCheck x) (hx:tv x= .a (.s (.fn (.func f) cap))):SemOp P o tv n0 [] (. =⟨.a (.s (.fn (.func f) cap)),[],[]⟩) :=
 SemOp.read fun F ρ hp a w h1 hc _=>by
  have h2:=QaV h1 (by rw [ho];simp [Op.operands]) hx;obtain ⟨vs,h3,h4⟩:=h2;refine ⟨a.eval x,⟨vs,h3,h4⟩,?_⟩;unfold execOp;rw [ho];simp [h3]
theorem Qro {T:Tys} (hT:QaU P T) (s d:TypeId) (x:Operand) (ys yd:Ty) (k q:IntKind) (z:Int) (ho:o.op= .convert s d x) (hx:tv x= .a (.s (.int q z))) (hs:T s=some ys) (hd:T d=some yd) (hk:yd.kind= .int k) :
  SemOp P o tv n0 [] (. =⟨.a (.s (.int k (k.wrap z))),[],[]⟩) :=
 SemOp.read fun F ρ hp a w h1 hc _=>by
  have h2:a.eval x= .int q z:=QaV h1 (by rw [ho];simp [Op.operands]) hx;obtain ⟨_,_,_,h3,_⟩:=hT s ys hs;have h4:=(hT d yd hd).int hk;refine ⟨.int k (k.wrap z),rfl,?_⟩;unfold execOp;rw [ho];simp [h2,run_convert_int w s d q z (by rw [h3];rfl) (by rw [h4];simp [Program.intKind,h4]),Program.intKind,h4]
theorem Qk9 {T:Tys} (hT:QaU P T) (s d:TypeId) (x:Operand) (ys yd:Ty) (z:ByteArray) (ho:o.op= .convert s d x) (hx:tv x= .a (.s (.str z))) (hs:T s=some ys) (hd:T d=some yd) (hk:yd.kind= .str) :
  SemOp P o tv n0 [] (. =⟨.a (.s (.str z)),[],[]⟩) :=
 SemOp.read fun F ρ hp a w h1 hc _=>by
  have h2:a.eval x= .string z:=QaV h1 (by rw [ho];simp [Op.operands]) hx;obtain ⟨ds,_,_,h3,_⟩:=hT s ys hs;have h4:=(hT d yd hd).str hk;refine ⟨.string z,rfl,?_⟩;unfold execOp;rw [ho];simp only [h2,convert,Sem.run_bind,run_underlying h3,run_underlying h4,Result.andThen_ok];cases ds<;>rfl
theorem QyL {T:Tys} (hT:QaU P T) (c:Call) (t e:TypeId) (x:Operand) (y:Ty) (i k n:Nat) (ho:o.op= .call c) (fF:c.callee= .builtin .len) (qJ:c.args= #[x]) (qN:c.argTypes= #[t]) (hx:tv x= .a (.s (.sl i k n))) (hy:T t=some y) (hk:y.kind= .slice e) :
  SemOp P o tv n0 [] (. =⟨.a (.s (.int .i64 n)),[],[]⟩) :=
 SemOp.read fun F ρ hp a w h1 hc _=>by
  obtain ⟨_,_,h2,_⟩:=QaV h1 (by rw [ho];simp [Op.operands,Call.operands,qJ,fF]) hx;have hu:=(hT t y hy).sl hk;refine ⟨.int .i64 n,rfl,?_⟩;unfold execOp;rw [ho];simp [resolve,fF,qJ,qN,invoke,builtin,Builtin.len_,h2,run_underlying hu,goInt]
theorem Qrr {T:Tys} (hT:QaU P T) (c:Call) (t e:TypeId) (x:Operand) (y:Ty) (k n:Nat) (fc:List SV) (ho:o.op= .call c) (fF:c.callee= .builtin .len) (qJ:c.args= #[x]) (qN:c.argTypes= #[t]) (hx:tv x= .a (.s (.fz k n fc))) (hy:T t=some y) (hk:y.kind= .slice e) :
  SemOp P o tv n0 [] (. =⟨.a (.s (.int .i64 n)),[],[]⟩) :=
 SemOp.read fun F ρ hp a w h1 hc _=>by
  obtain ⟨_,_,h2,_⟩:=QaV h1 (by rw [ho];simp [Op.operands,Call.operands,qJ,fF]) hx;have hu:=(hT t y hy).sl hk;refine ⟨.int .i64 n,rfl,?_⟩;unfold execOp;rw [ho];simp [resolve,fF,qJ,qN,invoke,builtin,Builtin.len_,h2,run_underlying hu,goInt]
theorem Qny {T:Tys} (hT:QaU P T) (c:Call) (t e:TypeId) (x:Operand) (y:Ty) (ho:o.op= .call c) (fF:c.callee= .builtin .len) (qJ:c.args= #[x]) (qN:c.argTypes= #[t]) (hx:tv x= .a (.s .nilsl)) (hy:T t=some y) (hk:y.kind= .slice e) :
  SemOp P o tv n0 [] (. =⟨.a (.s (.int .i64 0)),[],[]⟩) :=
 SemOp.read fun F ρ hp a w h1 hc _=>by
  have h2:a.eval x= .slice none 0 0:=QaV h1 (by rw [ho];simp [Op.operands,Call.operands,qJ,fF]) hx;have hu:=(hT t y hy).sl hk;refine ⟨.int .i64 0,rfl,?_⟩;unfold execOp;rw [ho];simp [resolve,fF,qJ,qN,invoke,builtin,Builtin.len_,h2,run_underlying hu,goInt]
theorem Quf {T:Tys} (hT:QaU P T) (c:Call) (t:TypeId) (x:Operand) (y:Ty) (s:ByteArray) (ho:o.op= .call c) (fF:c.callee= .builtin .len) (qJ:c.args= #[x]) (qN:c.argTypes= #[t]) (hx:tv x= .a (.s (.str s))) (hy:T t=some y) (hk:y.kind= .str) :
  SemOp P o tv n0 [] (. =⟨.a (.s (.int .i64 s.size)),[],[]⟩) :=
 SemOp.read fun F ρ hp a w h1 hc _=>by
  have h2:a.eval x= .string s:=QaV h1 (by rw [ho];simp [Op.operands,Call.operands,qJ,fF]) hx;have hu:=(hT t y hy).str hk;refine ⟨.int .i64 s.size,rfl,?_⟩;unfold execOp;rw [ho];simp [resolve,fF,qJ,qN,invoke,builtin,Builtin.len_,h2,run_underlying hu,goInt]
def Qz6 (x y:Int):Int:=if y<x then y else x
def Qsl:Int->List Int->Int
 | x,[]=>x
 | x,y::l=>Qsl (Qz6 x y) l
theorem QyE (k:IntKind) (w:World):∀ (l:List Int) (x:Int),((l.map (Value.int k)).foldlM Builtin.min2 (.int k x)).run P w= .ok (.int k (Qsl x l)) w:=by
 intro l
 induction l with
 | nil=>intro x;rfl
 | cons y l ih =>
  intro x;simp only [List.map_cons,List.foldlM_cons,Builtin.min2,Sem.run_bind];exact ih _
def QFB (x y:Int):Int:=if x<y then y else x
def Qz4:Int->List Int->Int
 | x,[]=>x
 | x,y::l=>Qz4 (QFB x y) l
theorem QyD (k:IntKind) (w:World):∀ (l:List Int) (x:Int),((l.map (Value.int k)).foldlM Builtin.max2 (.int k x)).run P w= .ok (.int k (Qz4 x l)) w:=by
 intro l
 induction l with
 | nil=>intro x;rfl
 | cons y l ih =>
  intro x;simp only [List.map_cons,List.foldlM_cons,Builtin.max2,Sem.run_bind];exact ih _
def Qjc (tv:Operand->TV) (k:IntKind):List Operand->Option (List Int)
 | []=>some []
 | x::l=>match tv x with
  | .a (.s (.int q z))=>if q=k then (match Qjc tv k l with|some r=>some (z::r)|none=>none) else none
  | _=>none
theorem Qqb {ρ:Nm} {a:Act} (k:IntKind):∀ (l:List Operand) (r:List Int),Qjc tv k l=some r->(∀ x∈l,VT ρ (tv x) (a.eval x))->l.map a.eval=r.map (Value.int k):=by
 intro l
 induction l with
 | nil=>intro r h _;injection h with h;subst h;rfl
 | cons x l ih =>
  intro r h hv;unfold Qjc at h;have hx:=hv x (by simp);split at h
  .rename_i q z e
   rw [e] at hx;split at h
   .rename_i hq;subst hq
    split at h
    .rename_i r' e2
     injection h with h;subst h
     simp only [List.map_cons];rw [ih r' e2 (fun y hy=>hv y (by simp [hy]))];congr 1
    .cases h
   .cases h
  .cases h
theorem QyN (c:Call) (k:IntKind) (x:Operand) (l:List Operand) (z:Int) (r:List Int) (ho:o.op= .call c) (fF:c.callee= .builtin .min) (qJ:c.args.toList=x::l) (hx:Qjc tv k (x::l)=some (z::r)) :
  SemOp P o tv n0 [] (. =⟨.a (.s (.int k (Qsl z r))),[],[]⟩) :=
 SemOp.read fun F ρ hp a w h1 hc _=>by
  have h2:=Qqb (ρ:=ρ) (a:=a) k _ _ hx (fun y hy=>h1 y (by rw [ho];simp only [Op.operands,Call.operands,fF];rw [<- qJ] at hy;simpa using hy));have h3:(c.args.map a.eval).toList= .int k z::r.map (Value.int k):=by rw [Array.toList_map,qJ,h2];rfl
  refine ⟨.int k (Qsl z r),rfl,?_⟩;unfold execOp;rw [ho];simp only [resolve,fF,invoke,builtin,Builtin.min_,h3,QyE,Sem.run_bind,Result.andThen_ok,Sem.run_pure]
theorem QyM (c:Call) (k:IntKind) (x:Operand) (l:List Operand) (z:Int) (r:List Int) (ho:o.op= .call c) (fF:c.callee= .builtin .max) (qJ:c.args.toList=x::l) (hx:Qjc tv k (x::l)=some (z::r)) :
  SemOp P o tv n0 [] (. =⟨.a (.s (.int k (Qz4 z r))),[],[]⟩) :=
 SemOp.read fun F ρ hp a w h1 hc _=>by
  have h2:=Qqb (ρ:=ρ) (a:=a) k _ _ hx (fun y hy=>h1 y (by rw [ho];simp only [Op.operands,Call.operands,fF];rw [<- qJ] at hy;simpa using hy));have h3:(c.args.map a.eval).toList= .int k z::r.map (Value.int k):=by rw [Array.toList_map,qJ,h2];rfl
  refine ⟨.int k (Qz4 z r),rfl,?_⟩;unfold execOp;rw [ho];simp only [resolve,fF,invoke,builtin,Builtin.max_,h3,QyD,Sem.run_bind,Result.andThen_ok,Sem.run_pure]
def QmL (tv:Operand->TV):List Operand->Option (List (Nat × Nat))
 | []=>some []
 | x::l=>match tv x with
  | .a (.s (.ptr i k))=>(match QmL tv l with|some r=>some ((i,k)::r)|none=>none)
  | _=>none
theorem Qwf {ρ:Nm} {a:Act}:∀ (l:List Operand) (r:List (Nat × Nat)),QmL tv l=some r->(∀ x∈l,VT ρ (tv x) (a.eval x)) ->
  l.length=r.length/\∀ (k:Nat) (p:Nat × Nat),r[k]?=some p->∃ L,ρ p.1=some (.at L)/\(l.map a.eval)[k]?=some (Value.pointer (some ⟨L.b,L.δ+p.2,none⟩)):=by
 intro l
 induction l with
 | nil=>intro r h _;injection h with h;subst h;exact ⟨rfl,fun k p e=>by cases e⟩
 | cons x l ih =>
  intro r h hv;unfold QmL at h;have hx:=hv x (by simp);split at h
  .rename_i i k e
   rw [e] at hx;split at h
   .rename_i r' e2
    injection h with h;subst h
    obtain ⟨g1,_⟩:=ih r' e2 (fun y hy=>hv y (by simp [hy]));refine ⟨by simp [g1],fun j p hj=>?_⟩
    cases j with
    | zero=>simp at hj;subst hj;obtain ⟨L,hL,h3⟩:=hx;exact ⟨L,hL,by simp [h3]⟩
    | succ j=>grind
   .cases h
  .cases h
theorem QjI (f:Fn) (cs:Array Operand) (cap:List (Nat × Nat)) (ho:o.op= .makeFunc f #[] cs) (hc:QmL tv cs.toList=some cap):SemOp P o tv n0 [] (. =⟨.a (.s (.fn f cap)),[],[]⟩) :=
 SemOp.read fun F ρ hp a w h1 _ _=>by
  obtain ⟨g1,_⟩:=Qwf (ρ:=ρ) (a:=a) _ _ hc (fun x hx=>h1 x (by rw [ho];simp only [Op.operands];simpa using hx));refine ⟨.func f #[] (cs.map a.eval),⟨_,rfl,by simpa using g1,fun k p hp=>?_⟩,?_⟩
  .grind
  .unfold execOp;rw [ho]
   simp [Instr.makeFunc]
variable {P:Program} {o:Oper} {tv:Operand->TV} {n0:Nat}
def Qkj (tv:Operand->TV) (d:Int):Option Operand->Option Int
 | none=>some d
 | some x=>match tv x with
  | .a (.s (.int _ z))=>some z
  | _=>none
theorem QAG {ρ:Nm} {a:Act} {d:Int} {x:Option Operand} {z:Int} (h:Qkj tv d x=some z) (hv:∀ y,x=some y->VT ρ (tv y) (a.eval y)) :
  (x=none/\z=d)\/∃ y k,x=some y/\a.eval y= .int k z:=by
 cases x with
 | none=>injection h with h;exact .inl ⟨rfl,h.symm⟩
 | some y =>
  have hy:=hv y rfl;simp only [Qkj] at h;split at h
  .rename_i k q e
   injection h with h;subst h
   rw [e] at hy;exact .inr ⟨y,_,rfl,hy⟩
  .cases h
theorem Qe6 (b:Bool) (len cap:Nat) (lo hi:Option Value) (l h:Int) (w:World) (hl:lo=none/\l=0\/∃ k,lo=some (.int k l)) (hh:hi=none/\h=len\/∃ k,hi=some (.int k h)) (h0:0<=l) (h1:l<=h) (h2:h<=cap) :
  (Instr.sliceBounds b len cap lo hi none).run P w= .ok (l.toNat,h.toNat,cap) w:=by
 have eh:(h.toNat:Int)=h:=Int.toNat_of_nonneg (by omega);rcases hl with ⟨rfl,rfl⟩|⟨k,rfl⟩<;>rcases hh with ⟨rfl,rfl⟩|⟨k',rfl⟩
 .simp [Instr.sliceBounds]
 .simp [Instr.sliceBounds,run_sliceBound,h2,(by omega:0<=h)]
 .simp [Instr.sliceBounds,run_sliceBound,h0,h1]
 .simp [Instr.sliceBounds,run_sliceBound,h0,h1,h2,eh,(by omega:0<=h)]
theorem Qe1 {ρ:Nm} {a:Act} {d:Int} {x:Option Operand} {z:Int} (h:Qkj tv d x=some z) (hv:∀ y,x=some y->VT ρ (tv y) (a.eval y)):x.map a.eval=none/\z=d\/∃ k,x.map a.eval=some (.int k z):=by
 rcases QAG h hv with ⟨rfl,rfl⟩|⟨y,k,rfl,e⟩
 .grind
 .grind
theorem Qnz {T:Tys} (hT:QaU P T) (t:TypeId) (x:Operand) (lo hi:Option Operand) (y:Ty) (s:ByteArray) (l h:Int) (ho:o.op= .slice t x lo hi none) (hx:tv x= .a (.s (.str s))) (hy:T t=some y) (hk:y.kind= .str)
  (hl:Qkj tv 0 lo=some l) (hh:Qkj tv s.size hi=some h) (h0:0<=l) (h1:l<=h) (h2:h<=s.size):SemOp P o tv n0 [] (. =⟨.a (.s (.str (s.extract l.toNat h.toNat))),[],[]⟩) :=
 SemOp.read fun F ρ hp a w g1 hc _=>by
  have e2:a.eval x= .string s:=QaV g1 (by rw [ho];simp [Op.operands]) hx;have b1:=Qe1 (ρ:=ρ) (a:=a) hl (fun z hz=>g1 z (by rw [ho];subst hz;simp [Op.operands]));have b2:=Qe1 (ρ:=ρ) (a:=a) hh (fun z hz=>g1 z (by rw [ho];subst hz;simp [Op.operands]));have hu:=(hT t y hy).str hk;refine ⟨.string (s.extract l.toNat h.toNat),rfl,?_⟩;unfold execOp;rw [ho];simp only [e2,Option.map_none,Sem.run_bind,run_sliceAt_string w t _ _ _ _ hu];simp [Instr.slice,run_underlying hu,Qe6 (P:=P) false s.size s.size _ _ l h w b1 b2 h0 h1 h2]
theorem Qrs {T:Tys} (hT:QaU P T) (t e:TypeId) (x:Operand) (lo hi:Option Operand) (y ye:Ty) (i k n:Nat) (r:Row) (l h:Int) (ho:o.op= .slice t x lo hi none) (hx:tv x= .a (.s (.sl i k n))) (hy:T t=some y) (hk:y.kind= .slice e) (he:T e=some ye)
  (vS:r.es=ye.size) (hl:Qkj tv 0 lo=some l) (hh:Qkj tv n hi=some h) (h0:0<=l) (h1:l<=h) (h2:h<=n):SemOp P o tv n0 [(i,r)] (. =⟨.a (.s (.sl i (k+l.toNat * ye.size) (h-l).toNat)),[],[]⟩) :=
 SemOp.read fun F ρ hp a w g1 hc hf=>by
  obtain ⟨A,c,e2,_,e3⟩:=QaV g1 (by rw [ho];simp [Op.operands]) hx;have b1:=Qe1 (ρ:=ρ) (a:=a) hl (fun z hz=>g1 z (by rw [ho];subst hz;simp [Op.operands]));have b2:=Qe1 (ρ:=ρ) (a:=a) hh (fun z hz=>g1 z (by rw [ho];subst hz;simp [Op.operands]));have hu:=(hT t y hy).sl hk;have hr:=hf (i,r) (by simp);refine ⟨.slice (if c=l.toNat then A else A.map (·.add (l.toNat * ye.size))) (h.toNat-l.toNat) (c-l.toNat),⟨_,_,by rw [show (h-l).toNat=h.toNat-l.toNat by omega],by omega,?_⟩,?_⟩
  .rcases e3 with ⟨L,hL,⟨rfl,hb⟩|h6⟩|⟨h5,h6⟩
   .have KP:=(Qhq hc hr hL).1
    refine .inl ⟨L,hL,?_⟩
    by_cases gM:c=l.toNat
    .omega
    .refine .inl ⟨by rw [if_neg gM];simp [Addr.add_lit,Nat.add_assoc],?_⟩
     rw [KP,vS] at hb |-;have:l.toNat * ye.size+(c-l.toNat)*ye.size=c*ye.size:=by rw [<- Nat.add_mul];congr 1;omega
     omega
   .grind
   .grind
  .unfold execOp;rw [ho]
   have WI:P.underlying t=some (.slice (P.elem t)):=by simp [Program.elem,hu]
   simp only [e2,Option.map_none,Sem.run_bind,run_sliceAt_slice w t _ _ _ _ WI];simp [Instr.slice,run_underlying hu,Qe6 (P:=P) true n c _ _ l h w b1 b2 h0 h1 (by omega),(hT _ _ he).sizeOf w]
theorem QjL {T:Tys} (hT:QaU P T) (t e:TypeId) (x:Operand) (lo hi:Option Operand) (y ye:Ty) (ho:o.op= .slice t x lo hi none) (hx:tv x= .a (.s .nilsl)) (hy:T t=some y) (hk:y.kind= .slice e) (he:T e=some ye)
  (hl:Qkj tv 0 lo=some 0) (hh:Qkj tv 0 hi=some 0):SemOp P o tv n0 [] (. =⟨.a (.s .nilsl),[],[]⟩) :=
 SemOp.read fun F ρ hp a w g1 hc hf=>by
  have e2:a.eval x= .slice none 0 0:=QaV g1 (by rw [ho];simp [Op.operands]) hx;have b1:=Qe1 (ρ:=ρ) (a:=a) hl (fun z hz=>g1 z (by rw [ho];subst hz;simp [Op.operands]));have b2:=Qe1 (ρ:=ρ) (a:=a) hh (fun z hz=>g1 z (by rw [ho];subst hz;simp [Op.operands]));have hu:=(hT t y hy).sl hk;refine ⟨.slice none 0 0,rfl,?_⟩;unfold execOp;rw [ho];have WI:P.underlying t=some (.slice (P.elem t)):=by simp [Program.elem,hu]
  simp only [e2,Option.map_none,Sem.run_bind,run_sliceAt_slice w t _ _ _ _ WI];simp [Instr.slice,run_underlying hu,Qe6 (P:=P) true 0 0 _ _ 0 0 w b1 b2 (by omega) (by omega) (by omega),(hT _ _ he).sizeOf w]
def Qcx (s:ByteArray):List SV:=s.data.toList.map fun b=>SV.int .u8 b.toNat
theorem Qfj (l:List UInt8):Qas (l.map fun b=>SV.int .u8 b.toNat)=true:=by
 induction l with
 | nil=>rfl
 | cons a l ih=>unfold Qas;exact ih
def QEc (tv:Operand->TV) (x:Operand) (es:Nat) (fp:List (Nat × Row)) (m:Nat) (l:List SV):Prop :=
 (tv x= .a (.s .nilsl)/\fp= []/\m=0/\l= []) \/
 (∃ j k r,tv x= .a (.s (.sl j k m))/\fp= [(j,r)]/\l.length=m*es/\Qas l=true/\∀ (q:Nat) s,l[q]?=some s->r.cells[k+q]?=some s) \/
 (∃ s,tv x= .a (.s (.str s))/\fp= []/\m=s.size/\l=Qcx s/\es=1)
theorem QvI {F:Fr} {ρ:Nm} {hp:Hp} {w:World} {x:Operand} {es m:Nat} {fp:List (Nat × Row)} {l:List SV} {tx:TypeId} {v:Value} (hs:QEc tv x es fp m l) (hv:VT ρ (tv x) v) (hc:Conc F ρ hp w) (hf:∀ p∈fp,hp p.1=some p.2)
  (qZ:(∃ s,tv x= .a (.s (.str s)))->P.underlying tx=some .string) (wV:(¬ ∃ s,tv x= .a (.s (.str s)))->∃ e',P.underlying tx=some (.slice e')) :
  ∃ news,VSs ρ l news/\Src P es tx v m news w/\l.length=m*es/\Qas l=true:=by
 rcases hs with ⟨h1,rfl,rfl,rfl⟩|⟨j,k,r,h1,rfl,h2,h3,h4⟩|⟨s,h1,rfl,rfl,rfl,rfl⟩
 .rw [h1] at hv
  have hv:v= .slice none 0 0:=hv;subst hv;obtain ⟨e',hk⟩:=wV (by rintro ⟨s,hs⟩;rw [h1] at hs;cases hs);exact ⟨[],⟨rfl,fun k s e=>by cases e⟩,Src.ofNil w hk 0,by simp,rfl⟩
 .rw [h1] at hv
  obtain ⟨A,c,rfl,_,e3⟩:=hv;obtain ⟨e',hk⟩:=wV (by rintro ⟨s,hs⟩;rw [h1] at hs;cases hs)
  have nil:m=0->∃ news,VSs ρ l news/\Src P es tx (.slice A m c) m news w/\l.length=m*es/\Qas l=true:=by
   rintro rfl;have:l= []:=by rw [Nat.zero_mul] at h2;exact List.eq_nil_of_length_eq_zero h2
   subst this
   cases A with
   | none=>exact ⟨[],⟨rfl,fun k s e=>by cases e⟩,Src.ofNil w hk c,by simp,rfl⟩
   | some a=>exact ⟨[],⟨rfl,fun k s e=>by cases e⟩,Src.ofSlice w hk a 0 c [] (by simp) (fun j u e=>by cases e) (fun u hu=>by cases hu),by simp,rfl⟩
  rcases e3 with ⟨L,hL,⟨rfl,hb⟩|h6⟩|⟨h5,h6⟩
  .have hr:=hf (j,r) (by simp)
   have:∀ q,∃ v,q<l.length->(w.cell? ⟨L.b,L.δ+k+q,none⟩=some v/\∀ s,l[q]?=some s->VS ρ s v):=fun q=>by
    by_cases hq:q<l.length
    .obtain ⟨v,g1,g2⟩:=QfZ hc hr hL (h4 q _ (List.getElem?_eq_getElem hq))
     refine ⟨v,fun _=>⟨by rw [Nat.add_assoc];exact g1,fun s e=>?_⟩⟩;rw [List.getElem?_eq_getElem hq] at e;injection e with e;subst e;exact g2
    .exact ⟨default,fun h=>absurd h hq⟩
   obtain ⟨f,hf'⟩:=Classical.axiomOfChoice this;have hV:VSs ρ l ((List.range l.length).map f):=⟨by simp,fun q s e=>by grind⟩;refine ⟨_,hV,Src.ofSlice w hk ⟨L.b,L.δ+k,none⟩ m c _ (by simpa using h2) (fun q u e=>?_) (hV.one h3),h2,h3⟩;have hq:q<l.length:=by have:=(List.getElem?_eq_some_iff.1 e).1;simpa using this
   simp [hq] at e;subst e;rw [Addr.add_lit];exact (hf' q hq).1
  .grind
  .grind
 .rw [h1] at hv
  have hv:v= .string s:=hv;subst hv;refine ⟨byteCells s,?_,Src.ofString w (qZ ⟨s,h1⟩) s,?_,Qfj _⟩
  .refine ⟨by simp [Qcx,byteCells],fun k x e=>?_⟩
   unfold Qcx at e;unfold byteCells;rw [List.getElem?_map] at e |-
   cases e2:s.data.toList[k]? with
   | none=>grind
   | some b=>rw [e2] at e;injection e with e;subst e;exact ⟨_,rfl,rfl⟩
  .rw [Nat.mul_one]
   show (s.data.toList.map fun b=>SV.int .u8 b.toNat).length=s.data.size;rw [List.length_map,Array.length_toList]
theorem QgN (w:World) (t tx ty e:TypeId) (i:TypeInfo) (ht:P.underlying t=some (.slice e)) (hi:P.info? e=some i) (b off sLen sCap:Nat) (x:Value) (n:Nat) (news:List Value) (hs:Src P i.size tx x n news w)
  (yJ:sLen+n<=sCap) (cur:Array Value) (ct:TypeId) (hg:w.heap[b]?=some (.cells cur ct (0,0))) (HJ:off+sLen*i.size+news.length<=cur.size) :
  (Builtin.append_ #[t,tx] ty #[.slice (some ⟨b,off,none⟩) sLen sCap,x]).run P w =
   .ok (.slice (some ⟨b,off,none⟩) (sLen+n) sCap) (w.setRow b (cur.toList.take (off+sLen*i.size)++news++cur.toList.drop (off+sLen*i.size+news.length)).toArray):=by
 have gN:=run_storeCells_at P b (off+sLen*i.size) ct news 0 cur w hg (by simpa using HJ) hs.one;simp only [Nat.add_zero] at gN;rcases hs.kind with ⟨e',hk⟩|hk<;>simp [Builtin.append_,run_underlying ht,run_underlying hk,sizeOf,typeInfo,hi,hs.len,yJ,hs.cells,Addr.add_lit,gN]
theorem Qc3 (w:World) (t tx ty e:TypeId) (i:TypeInfo) (ht:P.underlying t=some (.slice e)) (hi:P.info? e=some i) (A:Option Addr) (sCap:Nat) (x:Value) (hs:Src P i.size tx x 0 [] w) :
  (Builtin.append_ #[t,tx] ty #[.slice A 0 sCap,x]).run P w= .ok (.slice A 0 sCap) w:=by
 rcases hs.kind with ⟨e',hk⟩|hk<;>cases A<;>simp [Builtin.append_,run_underlying ht,run_underlying hk,sizeOf,typeInfo,hi,hs.len,hs.cells,storeCells]
variable {P:Program} {o:Oper} {tv:Operand->TV} {n0:Nat}
theorem Qbp (c:Call) (b:Builtin) (x y:Operand) (a:Act) (w w':World) (v:Value) (f:Array TypeId->TypeId->Array Value->Sem Value) (ho:o.op= .call c) (fF:c.callee= .builtin b) (qJ:c.args= #[x,y])
  (hb:∀ ct ty k vs,builtin b ct ty k vs=(do pure (.value (<- f ct ty vs)))) (hr:(f c.argTypes o.type #[a.eval x,a.eval y]).run P w= .ok v w'):(execOp a.eval o).run P w= .ok (.value v) w':=by
 unfold execOp;rw [ho];simp [resolve,fF,qJ,invoke,hb,hr]
theorem QhL (v:TV) (i n:Nat) (r:Row) (hp:Hp):Ef.app ⟨v,[(i,none)],[(n,r)]⟩ hp=Hp.set (Hp.set hp i none) n (some r):=by
 funext m
 show (match QaW [(n,r)] m with|some r=>some r|none=>match QaW [(i,(none:Option Row))] m with|some r=>r|none=>hp m)=_;rw [Qtv,Qtv];unfold Hp.set
 by_cases h1:m=n
 .simp [h1]
 .grind
theorem Qoi (v:TV) (n:Nat) (r:Row) (hp:Hp):Ef.app ⟨v,[],[(n,r)]⟩ hp=Hp.set hp n (some r):=by
 funext m
 show (match QaW [(n,r)] m with|some r=>some r|none=>hp m)=_;rw [Qtv];unfold Hp.set
 by_cases h1:m=n<;>simp [h1]
theorem Nm.set_frame {ρ:Nm} {p:PL} (n:Nat) (fY:¬ (n0<=n/\n<n0+Qap)):Nm.set ρ n0 p n=ρ n:=by
 unfold Nm.set;simp only [];rw [if_neg];rintro rfl;exact fY ⟨Nat.le_refl _,by unfold Qap;omega⟩
theorem Qil {T:Tys} (hT:QaU P T) (c:Call) (t tx e:TypeId) (x y:Operand) (yt yx ye:Ty) (m:Nat) (fp:List (Nat × Row)) (l:List SV) (ho:o.op= .call c) (fF:c.callee= .builtin .append) (qJ:c.args= #[x,y]) (qN:c.argTypes= #[t,tx])
  (hx:tv x= .a (.s .nilsl)) (jY:T t=some yt) (hk:yt.kind= .slice e) (wH:T e=some ye) (FU:T tx=some yx) (FR:(yx.kind= .str/\∃ s,tv y= .a (.s (.str s)))\/((∃ e',yx.kind= .slice e')/\¬ ∃ s,tv y= .a (.s (.str s))))
  (hs:QEc tv y ye.size fp m l) (hb:m*ye.bytes<=140737488355328) (hm:m<=9223372036854775807) :
  SemOp P o tv n0 fp (. =⟨.a (.s (.sl n0 0 m)),[],[(n0,⟨true,ye.size,l⟩)]⟩):=by
 intro F ρ hp a w Q K h1 hc hf jA hK;have e1:a.eval x= .slice none 0 0:=QaV h1 (by rw [ho];simp [Op.operands,Call.operands,qJ,fF]) hx;have e2:=h1 y (by rw [ho];simp [Op.operands,Call.operands,qJ,fF]);have hu:=(hT t yt jY).sl hk;obtain ⟨_,ie,z,_,k2,k3,k4,_,k6,k7,k8⟩:=hT e ye wH
 obtain ⟨news,hv,yL,gF,_⟩:=QvI (P:=P) hs e2 hc hf (fun ⟨s,hs⟩=>by
  rcases FR with ⟨h,_⟩|⟨_,h⟩
  .exact (hT tx yx FU).str h
  .exact absurd ⟨s,hs⟩ h) (fun hn=>by
  rcases FR with ⟨_,h⟩|⟨⟨e',h⟩,_⟩
  .grind
  .exact ⟨e',(hT tx yx FU).sl h⟩)
 have hn:ρ n0=none:=jA n0 (Nat.le_refl _) (by unfold Qap;omega);rw [<- k3] at yL;unfold Oper.wp;rcases Nat.eq_zero_or_pos m with rfl|uF
 .have JZ:l= []:=by rw [Nat.zero_mul] at gF;exact List.eq_nil_of_length_eq_zero gF
  subst JZ;have hn0:news= []:=by have:=hv.1;simpa using this.symm
  subst hn0;have hr:=Qc3 (P:=P) w t tx o.type e ie hu k2 none 0 (a.eval y) yL;rw [Qbp c .append x y a w w _ Builtin.append_ ho fF qJ (fun _ _ _ _=>rfl) (by rw [qN,e1];exact hr),Oper.upon_value];obtain ⟨g1,g2⟩:=hc.newEmpty hn ye.size;refine hK _ _ _ _ rfl g1 (fun n fY=>Nm.set_frame n fY) ⟨none,0,rfl,Nat.le_refl _,.inr ⟨Nm.set_same _ _ _,rfl⟩⟩ ?_;rw [Qoi];exact g2
 .have hr:=run_append_grow_src (P:=P) w t tx o.type e ie z hu k2 k6 none 0 0 [] (by simp [Builtin.firstCells]) (a.eval y) m news yL (by omega) (by omega) (by rw [k4];simpa using growslice_fits (old:=0) (need:=0+m) (by omega) (by simpa using hb))
  simp only [Nat.zero_add,List.nil_append] at hr;rw [Qbp c .append x y a w _ _ Builtin.append_ ho fF qJ (fun _ _ _ _=>rfl) (by rw [qN,e1];exact hr),Oper.upon_value];have hvl:l.length=news.length:=hv.1;have HK:=grownCap_ge w m 0 e
  obtain ⟨g1,g2⟩:=hc.drew.new hn ye.size l (news.toArray++Builtin.zeroCells z.cells (grownCap w m 0 e-m)) e (by simp;omega) (fun k s hs=>by
   obtain ⟨v,q1,q2⟩:=hv.2 k s hs;have hk:k<news.length:=(List.getElem?_eq_some_iff.1 q1).1
   exact ⟨v,by rw [Array.getElem?_append_left (by simpa using hk)];simpa using q1,q2⟩)
  have JL:z.cells.size=ye.size:=by rw [<- k8,<- k7];simp
  refine hK _ _ _ _ rfl g1 (fun n fY=>Nm.set_frame n fY) ⟨_,_,rfl,HK,.inl ⟨_,Nm.set_same _ _ _,.inl ⟨rfl,?_⟩⟩⟩ ?_
  .simp only [Array.size_append,List.size_toArray,size_zeroCells,JL,Nat.zero_add]
   rw [<- hvl,gF,<- Nat.add_mul];exact Nat.mul_le_mul_right _ (by omega)
  .rw [Qoi];exact g2
theorem Qnt {T:Tys} (hT:QaU P T) (c:Call) (t tx e:TypeId) (x y:Operand) (yt yx ye:Ty) (i n m:Nat) (r:Row) (fp:List (Nat × Row)) (l:List SV) (ho:o.op= .call c) (fF:c.callee= .builtin .append) (qJ:c.args= #[x,y]) (qN:c.argTypes= #[t,tx])
  (hx:tv x= .a (.s (.sl i 0 n))) (jY:T t=some yt) (hk:yt.kind= .slice e) (wH:T e=some ye) (FU:T tx=some yx) (FR:(yx.kind= .str/\∃ s,tv y= .a (.s (.str s)))\/((∃ e',yx.kind= .slice e')/\¬ ∃ s,tv y= .a (.s (.str s))))
  (hs:QEc tv y ye.size fp m l) (jS:r.own=true) (vS:r.es=ye.size) (uG:r.cells.length=n*ye.size) (hb:(n+m)*ye.bytes<=140737488355328) (hm:n+m<=9223372036854775807) :
  SemOp P o tv n0 ((i,r)::fp) (. =⟨.a (.s (.sl n0 0 (n+m))),[(i,none)],[(n0,⟨true,ye.size,r.cells++l⟩)]⟩):=by
 intro F ρ hp a w Q K h1 hc hf jA hK;obtain ⟨A,cc,e1,_,e3⟩:=QaV h1 (by rw [ho];simp [Op.operands,Call.operands,qJ,fF]) hx;have e2:=h1 y (by rw [ho];simp [Op.operands,Call.operands,qJ,fF]);have hu:=(hT t yt jY).sl hk;obtain ⟨_,ie,z,_,k2,k3,k4,_,k6,k7,k8⟩:=hT e ye wH
 obtain ⟨news,hv,yL,gF,_⟩:=QvI (P:=P) hs e2 hc (fun p hp=>hf p (List.mem_cons_of_mem _ hp)) (fun ⟨s,hs⟩=>by
  rcases FR with ⟨h,_⟩|⟨_,h⟩
  .exact (hT tx yx FU).str h
  .exact absurd ⟨s,hs⟩ h) (fun hn=>by
  rcases FR with ⟨_,h⟩|⟨⟨e',h⟩,_⟩
  .grind
  .exact ⟨e',(hT tx yx FU).sl h⟩)
 have hn:ρ n0=none:=jA n0 (Nat.le_refl _) (by unfold Qap;omega);have hr0:=hf (i,r) (by simp);simp only [] at hr0;rw [<- k3] at yL;have hvl:l.length=news.length:=hv.1;have JL:z.cells.size=ye.size:=by rw [<- k8,<- k7];simp
 have fV:i≠n0:=by rintro rfl;have:=hc.rows _ _ hr0;unfold RowOk at this;rw [hn] at this;exact this.elim
 unfold Oper.wp
 have fresh:∀ olds:List Value,VSs ρ r.cells olds->(Builtin.firstCells ie.size n (.slice A n cc)).run P w.drew= .ok olds.toArray w.drew->cc<n+m ->
   o.upon P a K Q ((execOp a.eval o).run P w):=by
  intro olds jR YG gO;have hr:=run_append_grow_src (P:=P) w t tx o.type e ie z hu k2 k6 A n cc olds YG (a.eval y) m news yL gO (by omega) (by rw [k4];exact growslice_fits gO hb);rw [Qbp c .append x y a w _ _ Builtin.append_ ho fF qJ (fun _ _ _ _=>rfl) (by rw [qN,e1];exact hr),Oper.upon_value];have HK:=grownCap_ge w (n+m) cc e;have vI:r.cells.length=olds.length:=jR.1;have hless:Conc F ρ (Hp.set hp i none) w.drew:=hc.drew.less fun k s hs=>by unfold Hp.set at hs;split at hs;cases hs;exact hs
  obtain ⟨g1,g2⟩:=hless.new hn ye.size (r.cells++l) ((olds++news).toArray++Builtin.zeroCells z.cells (grownCap w (n+m) cc e-(n+m))) e (by simp;omega) (fun k s hs=>by
   by_cases hk:k<r.cells.length
   .rw [List.getElem?_append_left hk] at hs
    obtain ⟨v,q1,q2⟩:=jR.2 k s hs;exact ⟨v,by rw [Array.getElem?_append_left (by simp;omega)];simp;rw [List.getElem?_append_left (by omega)];exact q1,q2⟩
   .rw [List.getElem?_append_right (by omega)] at hs
    obtain ⟨v,q1,q2⟩:=hv.2 _ s hs;have qZ:k-r.cells.length<news.length:=(List.getElem?_eq_some_iff.1 q1).1
    exact ⟨v,by rw [Array.getElem?_append_left (by simp;omega)];simp;rw [List.getElem?_append_right (by omega),<- vI];exact q1,q2⟩)
  refine hK _ _ _ _ rfl g1 (fun n fY=>Nm.set_frame n fY) ⟨_,_,rfl,HK,.inl ⟨_,Nm.set_same _ _ _,.inl ⟨rfl,?_⟩⟩⟩ ?_
  .simp only [Array.size_append,List.size_toArray,size_zeroCells,JL,Nat.zero_add,List.length_append]
   rw [<- hvl,gF,<- vI,uG,<- Nat.add_mul,<- Nat.add_mul];exact Nat.mul_le_mul_right _ (by omega)
  .rw [QhL];exact g2
 have empty:cc=0->o.upon P a K Q ((execOp a.eval o).run P w):=by
  intro h6;have KY:n=0:=by omega
  have hr00:r.cells= []:=List.eq_nil_of_length_eq_zero (by rw [uG,KY,Nat.zero_mul]);rcases Nat.eq_zero_or_pos m with ZX|uF
  .subst KY ZX h6
   have JZ:l= []:=by rw [Nat.zero_mul] at gF;exact List.eq_nil_of_length_eq_zero gF
   subst JZ;have hn0':news= []:=by have:=hv.1;simpa using this.symm
   subst hn0';have hr:=Qc3 (P:=P) w t tx o.type e ie hu k2 A 0 (a.eval y) yL;rw [Qbp c .append x y a w w _ Builtin.append_ ho fF qJ (fun _ _ _ _=>rfl) (by rw [qN,e1];exact hr),Oper.upon_value];have hless:Conc F ρ (Hp.set hp i none) w:=hc.less fun k s hs=>by unfold Hp.set at hs;split at hs;cases hs;exact hs
   obtain ⟨g1,g2⟩:=hless.newEmpty hn ye.size;refine hK _ _ _ _ rfl g1 (fun n fY=>Nm.set_frame n fY) ⟨A,0,rfl,Nat.le_refl _,.inr ⟨Nm.set_same _ _ _,rfl⟩⟩ ?_;rw [QhL,hr00];exact g2
  .refine fresh [] (by rw [hr00];exact ⟨rfl,fun k s e=>by cases e⟩) ?_ (by omega)
   subst KY
   cases A with
   | none=>simp [Builtin.firstCells]
   | some b=>simp [Builtin.firstCells,loadCells,loadCellsFrom]
 rcases e3 with ⟨L,hL,⟨rfl,VX⟩|h6⟩|⟨_,h6⟩
 .obtain ⟨KP,_,cur,ct,_,q1,q2,q3,_⟩:=Qhq hc hr0 hL
  have q3:=q3 jS;subst q3
  by_cases yJ:n+m<=cc
  .have hroomc:L.δ+n*ye.size+news.length<=cur.size:=by
    rw [q2,<- hvl,gF];rw [KP,vS] at VX;have:(n+m)*ye.size<=cc*ye.size:=Nat.mul_le_mul_right _ yJ;rw [Nat.add_mul] at this;omega
   have hr:=QgN (P:=P) w t tx o.type e ie hu k2 L.b (L.δ+0) n cc (a.eval y) m news yL yJ cur ct q1 (by rw [k3];simpa using hroomc);rw [Qbp c .append x y a w _ _ Builtin.append_ ho fF qJ (fun _ _ _ _=>rfl) (by rw [qN,e1];exact hr),Oper.upon_value];rw [k3,Nat.add_zero]
   obtain ⟨g1,g2⟩:=hc.grow hn hr0 jS hL (w':=w.setRow L.b (cur.toList.take (L.δ+n*ye.size)++news++cur.toList.drop (L.δ+n*ye.size+news.length)).toArray) (r.cells++l)
    (setRow_heap w L.b cur _ ct _ q1) (by simp only [List.size_toArray,List.length_append,List.length_take,List.length_drop,Array.length_toList];omega) (by rw [List.length_append,uG,hvl];omega) (fun k s hs=>by
     simp only [List.getElem?_toArray];rw [Qk8 rfl (by simp;omega)]
     by_cases hk:k<r.cells.length
     .grind
     .rw [List.getElem?_append_right (by omega)] at hs
      obtain ⟨v,p1,p2⟩:=hv.2 _ s hs;have qZ:k-r.cells.length<news.length:=(List.getElem?_eq_some_iff.1 p1).1;rw [if_pos (by omega)]
      exact ⟨v,by rw [<- p1];congr 1;omega,p2⟩)
    (fun b hb=>setRow_other _ _ _ _ hb) (by simp) rfl rfl rfl
   refine hK _ _ _ _ rfl g1 (fun n fY=>Nm.set_frame n fY) ⟨_,cc,rfl,yJ,.inl ⟨L,Nm.set_same _ _ _,.inl ⟨rfl,by simpa using VX⟩⟩⟩ ?_;rw [QhL];have:({ r with cells:=r.cells++l }:Row)=⟨true,ye.size,r.cells++l⟩:=by rw [<- jS,<- vS]
   rw [<- this];exact g2
  .obtain ⟨vs,g1,g2⟩:=QgI (P:=P) hc.drew hr0 hL 0 r.cells (fun j s e=>by simpa using e)
   refine fresh vs g1 ?_ (by omega);rw [uG] at g2;simp only [Builtin.firstCells,k3];exact g2
 .grind
 .grind
variable {P:Program} {o:Oper} {tv:Operand->TV} {n0:Nat}
theorem Quh {T:Tys} (hT:QaU P T) (t e:TypeId) (x y:Operand) (yt ye:Ty) (k1 k2:IntKind) (l c:Int) (ho:o.op= .makeSlice t x y) (hx:tv x= .a (.s (.int k1 l))) (hy:tv y= .a (.s (.int k2 c))) (jY:T t=some yt) (hk:yt.kind= .slice e) (wH:T e=some ye)
  (h0:0<=l) (h1:l<=c) (hb:ye.bytes*c<=140737488355328) (h63:c<=9223372036854775807) (cells:List SV) (gF:cells.length=l.toNat * ye.size) (hz:∀ (k:Nat) s,cells[k]?=some s->ye.zero[k%ye.size]?=some s) :
  SemOp P o tv n0 [] (. =⟨.a (.s (.sl n0 0 l.toNat)),[],[(n0,⟨true,ye.size,cells⟩)]⟩) :=
 SemOp.mk fun F ρ hp a w g1 _ _=>by
  have e1:a.eval x= .int k1 l:=QaV g1 (by rw [ho];simp [Op.operands]) hx;have e2:a.eval y= .int k2 c:=QaV g1 (by rw [ho];simp [Op.operands]) hy;have hu:=(hT t yt jY).sl hk;obtain ⟨_,ie,z,_,q2,q3,q4,_,q6,q7,q8⟩:=hT e ye wH;have hr:=run_make (P:=P) w t e ie z hu q2 q6 k1 k2 l c h0 h1 (by rw [q4];omega) h63;have JL:z.cells.size=ye.size:=by rw [<- q8,<- q7];simp
  refine ⟨.slice (some ⟨w.heap.size,0,none⟩) l.toNat c.toNat,madeCells z.cells (c.toNat * ie.size),e,w,?_,?_,?_,rfl,rfl,rfl,rfl,?_⟩
  rotate_left 3
  .unfold execOp;rw [ho]
   simp only [e1,e2,Sem.run_bind,hr,Result.andThen_ok];rfl
  .rw [size_madeCells,gF,q3];exact Nat.mul_le_mul_right _ (by omega)
  .intro k s hs
   have JY:k<cells.length:=(List.getElem?_eq_some_iff.1 hs).1;have uF:0<ye.size:=by grind
   have wI:=hz k s hs;obtain ⟨v,p1,p2⟩:=(QfF ρ z.cells.toList).2 _ s (by rw [q7];exact wI);refine ⟨v,?_,p2⟩
   have hkc:k<c.toNat * ie.size:=by
    rw [q3];have:l.toNat * ye.size<=c.toNat * ye.size:=Nat.mul_le_mul_right _ (by omega);omega
   have p1':z.cells[k%ye.size]?=some v:=by simpa using p1
   unfold madeCells;rw [Array.getElem?_map,Array.getElem?_range,if_pos hkc,Option.map_some,JL,getElem!_pos z.cells (k%ye.size) (by rw [JL];exact Nat.mod_lt _ uF)];rw [Array.getElem?_eq_getElem (by rw [JL];exact Nat.mod_lt _ uF)] at p1';exact p1'
  .intro ρ' _ hn
   refine ⟨_,_,rfl,by omega,.inl ⟨_,hn,.inl ⟨rfl,?_⟩⟩⟩;rw [size_madeCells,q3];simp
theorem Qg3 {T:Tys} (hT:QaU P T) (t e:TypeId) (n:Nat) (parts:Array (Nat × Operand)) (yt ye:Ty) (ps:List (Nat × List SV)) (l:List SV) (ho:o.op= .buildSlice t n parts) (jY:T t=some yt) (hk:yt.kind= .slice e) (wH:T e=some ye) (yI:QdT tv parts.toList=some ps)
  (hn:Nat.ble (n*ye.size) 16777216=true) (hf:QbX (fun i=>some (i*ye.size,ye.size)) (List.replicate (n*ye.size) .unk) ps=some l) (hl:l.length=n*ye.size) :
  SemOp P o tv n0 [] (. =⟨.a (.s (.sl n0 0 n)),[],[(n0,⟨true,ye.size,l⟩)]⟩) :=
 SemOp.mk fun F ρ hp a w g1 _ _=>by
  have hv:=Qmd (ρ:=ρ) (a:=a) _ _ yI (fun x hx=>g1 x (by rw [ho];simpa [Op.operands] using hx));have hu:=(hT t yt jY).sl hk;obtain ⟨_,_,z,_,q2,_,_,_,q6,_,_⟩:=hT e ye wH;have hn:=Nat.le_of_ble_eq_true hn
  have hgo:∀ zz:Array Value,∃ cs,Instr.fill (fun i=>some (i*ye.size,ye.size)) ((Array.range (n*ye.size)).map (zz[. %zz.size]!)) (parts.toList.map fun p=>(p.1,a.eval p.2))=some cs/\VSs ρ l cs.toList:=fun zz =>
   QkF _ ρ ps _ _ _ l hv ⟨by simp,fun k s hs=>by
    have hk:k<n*ye.size:=by have:=(List.getElem?_eq_some_iff.1 hs).1;simpa using this
    rw [List.getElem?_replicate,if_pos hk] at hs;injection hs with hs;subst hs
    exact ⟨_,List.getElem?_eq_getElem (by simpa using hk),trivial⟩⟩ hf
  obtain ⟨cs,f1,f2⟩:∃ cs,(Instr.buildSlice t n (parts.map fun (i,x)=>(i,a.eval x))).run P w= .ok (.slice (some ⟨w.heap.size,0,none⟩) n n) (w.alloc (.cells cs e))/\VSs ρ l cs.toList:=by
   by_cases h0:n*ye.size=0
   .obtain ⟨cs,f1,f2⟩:=hgo #[]
    refine ⟨cs,?_,f2⟩;have hp:(parts.map fun (i,x)=>(i,a.eval x)).toList=parts.toList.map fun p=>(p.1,a.eval p.2):=by simp
    rw [h0] at f1;simp [Instr.buildSlice,run_underlying hu,(hT e ye wH).sizeOf w,h0,newRow,-Array.toList_map];rw [hp];simp only [Array.range_zero',Array.map_empty] at f1 |-;rw [f1];simp
   .obtain ⟨cs,f1,f2⟩:=hgo z.cells
    refine ⟨cs,?_,f2⟩;have hp:(parts.map fun (i,x)=>(i,a.eval x)).toList=parts.toList.map fun p=>(p.1,a.eval p.2):=by simp
    have hz:(zeroValue e).run P w= .ok z w:=by simp [Go.zeroValue,typeInfo,q2,q6]
    have zY:¬ (16777216<n*ye.size):=by omega
    simp [Instr.buildSlice,run_underlying hu,(hT e ye wH).sizeOf w,h0,zY,hz,newRow,-Array.toList_map];rw [hp,f1];simp
  refine ⟨.slice (some ⟨w.heap.size,0,none⟩) n n,cs,e,w,?_,?_,?_,rfl,rfl,rfl,rfl,?_⟩
  rotate_left 3
  .unfold execOp;rw [ho]
   simp only [Sem.run_bind,f1,Result.andThen_ok];rfl
  .have:=f2.1;simp at this;omega
  .intro k s hs;obtain ⟨v,p1,p2⟩:=f2.2 k s hs;exact ⟨v,by simpa using p1,p2⟩
  .intro ρ' _ zY
   refine ⟨_,_,rfl,Nat.le_refl _,.inl ⟨_,zY,.inl ⟨rfl,?_⟩⟩⟩;have e9:cs.size=n*ye.size:=by rw [<- hl,f2.1,Array.length_toList]
   show 0+0+n*ye.size<=cs.size;omega
def QEX (tv:Operand->TV) (x:Operand) (es:Nat) (fp:List (Nat × Row)) (m q:Nat) (l:List SV):Prop :=
 (tv x= .a (.s .nilsl)/\fp= []/\m=0/\q=0/\l= []) \/
 (∃ j k r,tv x= .a (.s (.sl j k m))/\fp= [(j,r)]/\q<=m/\l.length=q*es/\Qas l=true/\∀ (p:Nat) s,l[p]?=some s->r.cells[k+p]?=some s) \/
 (∃ s,tv x= .a (.s (.str s))/\fp= []/\m=s.size/\q<=m/\l=(Qcx s).take q/\es=1)
theorem Qb6 {l:List SV} (h:Qas l=true) (n:Nat):Qas (l.take n)=true:=by
 induction l generalizing n with
 | nil=>grind
 | cons a l ih =>
  cases n with
  | zero=>rfl
  | succ n=>grind [Qas]
theorem QyX {F:Fr} {ρ:Nm} {hp:Hp} {w:World} {x:Operand} {es m q:Nat} {fp:List (Nat × Row)} {l:List SV} {v:Value} (hs:QEX tv x es fp m q l) (hv:VT ρ (tv x) v) (hc:Conc F ρ hp w) (hf:∀ p∈fp,hp p.1=some p.2) :
  ∃ news,VSs ρ l news/\(Builtin.lenOf v).run P w= .ok m w/\(Builtin.firstCells es q v).run P w= .ok news.toArray w/\l.length=q*es/\Qas l=true:=by
 rcases hs with ⟨h1,rfl,rfl,rfl,rfl⟩|⟨j,k,r,h1,rfl,hq,h2,h3,h4⟩|⟨s,h1,rfl,rfl,hq,rfl,rfl⟩
 .rw [h1] at hv
  have hv:v= .slice none 0 0:=hv;subst hv;exact ⟨[],⟨rfl,fun k s e=>by cases e⟩,rfl,rfl,by simp,rfl⟩
 .rw [h1] at hv
  obtain ⟨A,c,rfl,_,e3⟩:=hv
  have nil:m=0->∃ news,VSs ρ l news/\(Builtin.lenOf (.slice A m c)).run P w= .ok m w/\(Builtin.firstCells es q (.slice A m c)).run P w= .ok news.toArray w/\l.length=q*es/\Qas l=true:=by
   rintro rfl;obtain rfl:q=0:=by omega
   have:l= []:=by rw [Nat.zero_mul] at h2;exact List.eq_nil_of_length_eq_zero h2
   subst this;refine ⟨[],⟨rfl,fun k s e=>by cases e⟩,rfl,?_,by simp,rfl⟩;cases A<;>simp [Builtin.firstCells,loadCells,loadCellsFrom]
  rcases e3 with ⟨L,hL,⟨rfl,hb⟩|h6⟩|⟨h5,h6⟩
  .have hr:=hf (j,r) (by simp)
   obtain ⟨vs,g1,g2⟩:=QgI (P:=P) hc hr hL k l h4;exact ⟨vs,g1,rfl,by rw [h2] at g2;exact g2,h2,h3⟩
  .grind
  .grind
 .rw [h1] at hv
  have hv:v= .string s:=hv;subst hv;have VZ:(Qcx s).length=s.size:=by show (s.data.toList.map fun b=>SV.int .u8 b.toNat).length=s.data.size;rw [List.length_map,Array.length_toList]
  refine ⟨(byteCells s).take q,⟨by rw [List.length_take,List.length_take,VZ,byteCells_length],fun k x e=>?_⟩,rfl,?_,by rw [List.length_take,VZ];omega,Qb6 (Qfj _) q⟩
  .rw [List.getElem?_take] at e |-
   split at e
   .rename_i hkq
    rw [if_pos hkq];unfold Qcx at e;unfold byteCells;rw [List.getElem?_map] at e |-
    cases e2:s.data.toList[k]? with
    | none=>grind
    | some b=>rw [e2] at e;injection e with e;subst e;exact ⟨_,rfl,rfl⟩
   .cases e
  .simp only [Builtin.firstCells,Sem.run_pure,byteCells]
   congr 1;apply Array.ext';simp
theorem Qud {T:Tys} (hT:QaU P T) (c:Call) (t tx e:TypeId) (x y:Operand) (yt ye:Ty) (i k n m q:Nat) (r:Row) (fp:List (Nat × Row)) (l:List SV) (ho:o.op= .call c) (fF:c.callee= .builtin .copy) (qJ:c.args= #[x,y]) (qN:c.argTypes= #[t,tx])
  (hx:tv x= .a (.s (.sl i k n))) (jY:T t=some yt) (hk:yt.kind= .slice e) (wH:T e=some ye)
  (hs:QEX tv y ye.size fp m q l) (hmn:q=min m n) (jS:r.own=true) (HJ:k+l.length<=r.cells.length) :
  SemOp P o tv n0 ((i,r)::fp) (. =⟨.a (.s (.int .i64 q)),[(i,some { r with cells:=QaB r.cells k l })],[]⟩):=by
 intro F ρ hp a w Q K h1 hc hf jA hK;obtain ⟨A,cc,e1,_,e3⟩:=QaV h1 (by rw [ho];simp [Op.operands,Call.operands,qJ,fF]) hx;have e2:=h1 y (by rw [ho];simp [Op.operands,Call.operands,qJ,fF]);have hu:=(hT t yt jY).sl hk;obtain ⟨news,hv,qF,YG,gF,wL⟩:=QyX (P:=P) hs e2 hc (fun p hp=>hf p (List.mem_cons_of_mem _ hp));have hr0:=hf (i,r) (by simp);simp only [] at hr0;have hvl:l.length=news.length:=hv.1;have zG:Nat.min m n=q:=hmn.symm;unfold Oper.wp
 have nothing:l= []->cc=0->o.upon P a K Q ((execOp a.eval o).run P w):=by
  rintro rfl h6;have hn0:n=0:=by omega
  have zY:news= []:=by simpa using hvl.symm
  subst zY
  have hr:(Builtin.copy_ c.argTypes o.type #[a.eval x,a.eval y]).run P w= .ok (.int .i64 q) w:=by
   rw [qN,e1];cases A<;>simp [Builtin.copy_,run_underlying hu,qF,zG,(hT e ye wH).sizeOf w,YG,storeCells,goInt]
  rw [Qbp c .copy x y a w w _ Builtin.copy_ ho fF qJ (fun _ _ _ _=>rfl) hr,Oper.upon_value];refine hK _ ρ _ _ rfl (Ext.refl _) (fun _ _=>rfl) rfl ?_;rw [Qoj]
  have:Hp.set hp i (some { r with cells:=QaB r.cells k [] })=hp:=by
   funext z;unfold Hp.set;split
   .rename_i e;subst e;exact hr0.symm
   .rfl
  rw [this];exact hc
 rcases e3 with ⟨L,hL,⟨rfl,VX⟩|h6⟩|⟨h5,h6⟩
 .obtain ⟨_,gM,cur,ct,_,q1,_,q3,q4⟩:=Qhq hc hr0 hL
  have q3:=q3 jS;subst q3;have gN:=run_storeCells_at P L.b (L.δ+k) ct news 0 cur w q1 (by rw [<- hvl];omega) (hv.one wL);simp only [Nat.add_zero] at gN
  have hr:(Builtin.copy_ c.argTypes o.type #[a.eval x,a.eval y]).run P w= .ok (.int .i64 q) (w.setRow L.b (cur.toList.take (L.δ+k)++news++cur.toList.drop (L.δ+k+news.length)).toArray):=by
   rw [qN,e1];simp [Builtin.copy_,run_underlying hu,qF,zG,(hT e ye wH).sizeOf w,YG,gN,goInt]
  rw [Qbp c .copy x y a w _ _ Builtin.copy_ ho fF qJ (fun _ _ _ _=>rfl) hr,Oper.upon_value];refine hK _ ρ _ _ rfl (Ext.refl _) (fun _ _=>rfl) rfl ?_;rw [Qoj];refine hc.write hr0 jS hL (c':=_) (t:=ct) (QaB r.cells k l) (setRow_heap w L.b cur _ ct _ q1) (by simp only [List.size_toArray,List.length_append,List.length_take,List.length_drop,<- hvl,Array.length_toList];omega) (by simp only [Qbu];exact gM) (fun j s hs=>?_) (fun b hb=>setRow_other _ _ _ _ hb) (by simp) rfl rfl rfl;rw [Qbg _ _ _ _ HJ] at hs;simp only [List.getElem?_toArray];rw [Qk8 rfl (by simp;omega)];split at hs
  .rename_i hj
   rw [if_pos (by omega),show L.δ+j-(L.δ+k)=j-k by omega];exact hv.2 _ _ hs
  .rename_i hj
   rw [if_neg (by omega)];obtain ⟨v,h5,h6⟩:=q4 j s hs;exact ⟨v,by simpa using h5,h6⟩
 .exact nothing (List.eq_nil_of_length_eq_zero (by rw [gF,show q=0 by omega,Nat.zero_mul])) h6
 .exact nothing (List.eq_nil_of_length_eq_zero (by rw [gF,show q=0 by omega,Nat.zero_mul])) h6
def QdW:List SV->Option (List Int)
 | []=>some []
 | .int .u8 n::l=>match QdW l with
  | some r=>some (n::r)
  | none=>none
 | _::_=>none
theorem QjR {ρ:Nm}:∀ {l:List SV} {xs:List Int} {vs:List Value},QdW l=some xs->VSs ρ l vs->vs=xs.map (Value.int .u8)
 | [],xs,vs,h,hv=>by grind [List.eq_nil_of_length_eq_zero,QdW,VSs]
 | s::l,xs,vs,h,hv=>by
  unfold QdW at h;split at h
  .grind
  .rename_i n l' e
   injection e with e1 e2;subst e1 e2
   split at h
   .rename_i r hr
    injection h with h;subst h
    cases vs with
    | nil=>have:=hv.1;simp at this
    | cons v vs =>
     obtain ⟨_,h1,h2⟩:=hv.2 0 _ rfl;injection h1 with h1;subst h1
     have h2:v= .int .u8 n:=h2;rw [h2,QjR (vs:=vs) hr ⟨by have:=hv.1;simpa using this,fun k s hs=>hv.2 (k+1) s hs⟩];rfl
   .cases h
  .cases h
theorem Qrn {T:Tys} (hT:QaU P T) (s d e:TypeId) (x:Operand) (ys yd ye:Ty) (i k n:Nat) (r:Row) (l:List SV) (xs:List Int) (ho:o.op= .convert s d x) (hx:tv x= .a (.s (.sl i k n))) (hs:T s=some ys) (ZT:ys.kind= .slice e) (he:T e=some ye) (ZS:ye.kind= .int .u8)
  (hd:T d=some yd) (ZR:yd.kind= .str) (hl:l.length=n) (hr:∀ (j:Nat) s,l[j]?=some s->r.cells[k+j]?=some s) (hn:QdW l=some xs):SemOp P o tv n0 [(i,r)] (. =⟨.a (.s (.str (strOfNums xs))),[],[]⟩) :=
 SemOp.read fun F ρ hp a w h1 hc hf=>by
  obtain ⟨A,c,e1,_,h2⟩:=QaV h1 (by rw [ho];simp [Op.operands]) hx;have u1:=(hT s ys hs).sl ZT;have u2:=(hT e ye he).int ZS;have u3:=(hT d yd hd).str ZR;have hr0:=hf (i,r) (by simp);refine ⟨.string (strOfNums xs),rfl,?_⟩;unfold execOp;rw [ho];simp only [e1]
  have main:∀ A':Addr,(loadCells A' n).run P w= .ok (xs.map (Value.int .u8)).toArray w->(convert s d (.slice (some A') n c)).run P w= .ok (.string (strOfNums xs)) w:=fun A' hl=>by
   rw [run_convert_bytes_string w s d e _ n c u1 u2 u3,run_bytesToString w A' n c xs hl,foldl_push_bytes];simp [strOfNums,ByteArray.empty,ByteArray.emptyWithCapacity];rfl
  have zero:n=0->(convert s d (.slice A n c)).run P w= .ok (.string (strOfNums xs)) w:=fun h0=>by
   have JZ:l= []:=List.eq_nil_of_length_eq_zero (by omega);subst JZ;have JH:xs= []:=by simpa [QdW] using hn.symm
   subst JH
   cases A with
   | none=>rw [run_convert_bytes_nil w s e u1 u2 n c d u3];rfl
   | some A'=>exact main A' (by rw [h0];simp [loadCells,loadCellsFrom])
  have hgoal:(convert s d (.slice A n c)).run P w= .ok (.string (strOfNums xs)) w:=by
   rcases h2 with ⟨L,hL,⟨rfl,h3⟩|h3⟩|⟨_,h3⟩
   .obtain ⟨_,g1,g2⟩:=QgI (P:=P) hc hr0 hL k l hr
    have:=QjR hn g1;subst this;rw [hl] at g2;exact main _ g2
   .grind
   .grind
  simp only [Sem.run_bind,hgoal,Result.andThen_ok];rfl
theorem Qnv {T:Tys} (hT:QaU P T) (s d e:TypeId) (x:Operand) (ys yd ye:Ty) (ho:o.op= .convert s d x) (hx:tv x= .a (.s .nilsl)) (hs:T s=some ys) (ZT:ys.kind= .slice e) (he:T e=some ye) (ZS:ye.kind= .int .u8)
  (hd:T d=some yd) (ZR:yd.kind= .str):SemOp P o tv n0 [] (. =⟨.a (.s (.str ByteArray.empty)),[],[]⟩) :=
 SemOp.read fun F ρ hp a w h1 hc hf=>by
  have e1:a.eval x= .slice none 0 0:=QaV h1 (by rw [ho];simp [Op.operands]) hx;refine ⟨.string ByteArray.empty,rfl,?_⟩;unfold execOp;rw [ho];simp only [e1,Sem.run_bind,run_convert_bytes_nil w s e ((hT s ys hs).sl ZT) ((hT e ye he).int ZS) 0 0 d ((hT d yd hd).str ZR),Result.andThen_ok];rfl
abbrev SV.i (x:Int):SV:= .int .i64 x
abbrev SV.u (x:Int):SV:= .int .u32 x
abbrev SV.w (x:Int):SV:= .int .u64 x
structure Res where
 v:TV
 up:List (Nat × Option Row)
 nw:List Row
def Hs (H:List Row):Hp:=fun n=>H[n]?
def Res.app (r:Res) (H:List Row):Hp:=fun n =>
 match Nat.ble H.length n with
 | true=>r.nw[n-H.length]?
 | false=>match QaW r.up n with
  | some x=>x
  | none=>H[n]?
def QgX (H:List Row) (ρ:Nm):Nat->Prop:=fun b=>∃ n r L,H[n]?=some r/\r.own=true/\ρ n=some (.at L)/\L.b=b
def QuO (P : Program) (f : FuncId) : Prop := ∃ fn,P.funcs[f]? = some fn /\ (fn.name == "runtime.NumGoroutine") = false /\ fn.body.isSome = true
def Fn (P:Program) (f:FuncId) (args:List AV) (H:List Row) (Post:Res->Prop):Prop :=
 QuO P f/\∀ (ρ:Nm) (w:World) (vs:Array Value),(∀ n,H.length<=n->ρ n=none)->VAs ρ args vs.toList->Conc ⟨w,QgX H ρ,ρ.fr⟩ ρ (Hs H) w ->
  Calls P f vs w fun e w'=>∃ R v ρ',Post R/\e= .returned v/\Ext ρ ρ'/\(∀ n,H.length+R.nw.length<=n->ρ' n=none)/\VT ρ' R.v v/\Conc ⟨w,QgX H ρ,ρ.fr⟩ ρ' (R.app H) w' /\
   (∀ p∈R.up,∃ r,H[p.1]?=some r/\r.own=true)/\(∀ r∈R.nw,r.own=true)/\(∀ p∈R.up,∀ r,p.2=some r->r.own=true)
structure Em where
 (n sh:Nat)
def Qc1 (m:List Em) (k n0 i:Nat):Em:=match m[i]? with
 | some e=>e
 | none=>⟨n0+(i-k)%Qap,0⟩
def QcJ (m:List Em) (k n0:Nat):SV->SV
 | .ptr i o=> .ptr (Qc1 m k n0 i).n ((Qc1 m k n0 i).sh+o)
 | .sl i o n=> .sl (Qc1 m k n0 i).n ((Qc1 m k n0 i).sh+o) n
 | .fn f cap=> .fn f (cap.map fun p=>((Qc1 m k n0 p.1).n,(Qc1 m k n0 p.1).sh+p.2))
 | s=>s
def Qc0 (m:List Em) (k n0:Nat):AV->AV
 | .s x=> .s (QcJ m k n0 x)
 | .agg l=> .agg (l.map (QcJ m k n0))
def QB7 (m:List Em) (k n0:Nat):TV->TV
 | .unk=> .unk
 | .a x=> .a (Qc0 m k n0 x)
 | .tup l=> .tup (l.map (Qc0 m k n0))
def Qed (m:List Em) (ρ:Nm):Nm:=⟨fun i=>match m[i]? with
 | some e=>match ρ e.n with
  | some (.at L)=>some (.at { L with δ:=L.δ+e.sh })
  | p=>p
 | none=>none,ρ.fr⟩
theorem Qe2 (m:List Em) (ρ:Nm) (i:Nat):Qed m ρ i=match m[i]? with
 | some e=>match ρ e.n with
  | some (.at L)=>some (.at { L with δ:=L.δ+e.sh })
  | p=>p
 | none=>none:=rfl
theorem QkT {m:List Em} {ρ:Nm} {i:Nat} {L:Loc} (h:Qed m ρ i=some (.at L)):∃ e L0,m[i]?=some e/\ρ e.n=some (.at L0)/\L= { L0 with δ:=L0.δ+e.sh }:=by grind [Qe2,Qed]
theorem Qii {m:List Em} {ρ:Nm} {i:Nat} {e:Em} {L:Loc} (h:m[i]?=some e) (h2:ρ e.n=some (.at L)):Qed m ρ i=some (.at { L with δ:=L.δ+e.sh }):=by grind [Qe2,Qed]
theorem Qhp {m:List Em} {ρ:Nm} {i:Nat} {e:Em} (h:m[i]?=some e) (h2:ρ e.n=some .empty):Qed m ρ i=some .empty:=by grind [Qe2,Qed]
theorem QcF {m:List Em} {k n0 i:Nat} {e:Em} (h:m[i]?=some e):Qc1 m k n0 i=e:=by unfold Qc1;rw [h]
theorem Qln {m:List Em} {k n0:Nat} {ρ:Nm} (hk:m.length=k) {s:SV} {v:Value} (hs:∀ i,k<=i->ρ (n0+(i-k)%Qap)=none) (h:VS ρ (QcJ m k n0 s) v):VS (Qed m ρ) s v:=by
 cases s<;>simp only [QcJ,VS] at h |- <;>try exact h
 case ptr i o=>grind [List.getElem?_eq_none_iff,Qc1,QcF,Qii,Nat.add_assoc,Qap,VS,QcJ,Qed]
 case sl i o n=>grind [List.getElem?_eq_none_iff,Qc1,QcF,Qii,Nat.add_assoc,Qhp,Qap,VS,QcJ,Qed]
 case fn f cap =>
  obtain ⟨vs,rfl,h1,h2⟩:=h;refine ⟨vs,rfl,by simpa using h1,fun j p hp=>?_⟩;obtain ⟨_,hL,h3⟩:=h2 j _ (by rw [List.getElem?_map,hp];rfl);simp only [] at hL h3
  cases e:m[p.1]? with
  | none=>grind [List.getElem?_eq_none_iff,Qc1,Qap,VS,QcJ,Qed]
  | some x=>grind [QcF,Qii,Nat.add_assoc,Qap,VS,QcJ,Qed]
theorem Quy {m:List Em} {k n0:Nat} {ρ:Nm} (hk:m.length=k) (hs:∀ i,k<=i->ρ (n0+(i-k)%Qap)=none) {l:List AV} {vs:List Value} (h:VAs ρ (l.map (Qc0 m k n0)) vs):VAs (Qed m ρ) l vs:=by
 refine ⟨by simpa using h.1,fun j s e=>?_⟩;obtain ⟨v,h1,h2⟩:=h.2 j _ (by rw [List.getElem?_map,e];rfl);refine ⟨v,h1,?_⟩
 cases s with
 | s x=>exact Qln hk hs h2
 | agg l =>
  obtain ⟨cs,rfl,h3⟩:=h2
  exact ⟨cs,rfl,by simpa using h3.1,fun q s e=>by
   obtain ⟨v,h4,h5⟩:=h3.2 q _ (by rw [List.getElem?_map,e];rfl)
   exact ⟨v,h4,Qln hk hs h5⟩⟩
def Qem (m:List Em) (n0:Nat) (H:List Row) (hp:Hp):Prop :=
 ∀ (i:Nat) (r:Row),H[i]?=some r->∃ (e:Em) (rc:Row),m[i]?=some e/\hp e.n=some rc/\rc.es=r.es/\(∀ (k:Nat) s,r.cells[k]?=some s->rc.cells[e.sh+k]?=some (QcJ m H.length n0 s)) /\
  e.sh+r.cells.length<=rc.cells.length/\(r.own=true->rc.own=true/\e.sh=0/\rc.cells.length=r.cells.length/\∀ (j:Nat) (f:Em),m[j]?=some f->j≠i->f.n≠e.n)
theorem QiY {F:Fr} {ρ:Nm} {hp:Hp} {w:World} {m:List Em} {n0:Nat} {H:List Row} (hc:Conc F ρ hp w) (hm:m.length=H.length) (hs:∀ i,H.length<=i->ρ (n0+(i-H.length)%Qap)=none) (hr:Qem m n0 H hp) :
  Conc ⟨w,QgX H (Qed m ρ),ρ.fr⟩ (Qed m ρ) (Hs H) w:=by
 refine ⟨fun i r hi=>?_,fun i r j s Li Lj h1 h2 h3 h4 h5 h6=>?_,fun i r L h1 h2 h3=> .inl ⟨i,r,L,h1,h2,h3,rfl⟩,rfl,rfl,rfl,Nat.le_refl _,fun _ _ _=>rfl,fun L c hf=>⟨(hc.frz L c hf).1,fun i r Li h1 h2 h3=>?_,.inl hf⟩⟩
 .obtain ⟨e,rc,h1,h2,h3,h4,h5,h6⟩:=hr i r hi
  have h7:=hc.rows _ _ h2;unfold RowOk at h7 |-
  cases e1:ρ e.n with
  | none=>grind
  | some p =>
   rw [e1] at h7
   cases p with
   | empty=>simp_all [Qhp,List.eq_nil_of_length_eq_zero,Hp,Qap,Qem,QgX,Qed,Hs]
   | «at» L =>
    rw [Qii h1 e1];obtain ⟨g1,_,c,t,fz,g3,g4,g5,g6⟩:=h7;refine ⟨g1.trans h3,by simp only [];omega,c,t,fz,g3,g4,fun ho=>g5 (h6 ho).1,fun k s hk=>?_⟩;obtain ⟨v,g7,g8⟩:=g6 _ _ (h4 k s hk);exact ⟨v,by simp only [];rw [Nat.add_assoc];exact g7,Qln hm hs g8⟩
 .obtain ⟨e,rc,k1,k2,_,_,_,k6⟩:=hr i r h1
  obtain ⟨e',rc',k1',k2',_⟩:=hr j s h3;obtain ⟨e1,L1,q1,q2,rfl⟩:=QkT h5;obtain ⟨_,L2,p1,p2,rfl⟩:=QkT h6;rw [k1] at q1;injection q1 with q1;subst q1
  rw [k1'] at p1;injection p1 with p1;subst p1
  exact hc.apart e.n rc e'.n rc' L1 L2 k2 (k6 h2).1 k2' (fun q=>(k6 h2).2.2.2 j e' k1' (fun e=>h4 e.symm) q.symm) q2 p2
 .obtain ⟨e,rc,k1,k2,_,_,_,k6⟩:=hr i r h1
  obtain ⟨e1,L1,q1,q2,rfl⟩:=QkT h3;rw [k1] at q1;injection q1 with q1;subst q1
  exact (hc.frz L c hf).2.1 e.n rc L1 k2 (k6 h2).1 q2
def Qdq (m:List Em) (k n0:Nat) (r:Row):Row:= { r with cells:=r.cells.map (QcJ m k n0) }
def nwN (m:List Em) (k n0:Nat):Nat->List Row->List (Nat × Row)
 | _,[]=> []
 | j,r::l=>(n0+j,Qdq m k n0 r)::nwN m k n0 (j+1) l
def upN (m:List Em) (k n0:Nat):List (Nat × Option Row)->List (Nat × Option Row)
 | []=> []
 | p::l=>((Qc1 m k n0 p.1).n,match p.2 with|some r=>some (Qdq m k n0 r)|none=>none)::upN m k n0 l
def Res.ef (R:Res) (m:List Em) (k n0:Nat):Ef:=⟨QB7 m k n0 R.v,upN m k n0 R.up,nwN m k n0 0 R.nw⟩
theorem Qtw (m:List Em) (k n0:Nat) (l:List Row) (j n:Nat):QaW (nwN m k n0 j l) n=if n0+j<=n then (l[n-(n0+j)]?).map (Qdq m k n0) else none:=by
 induction l generalizing j with
 | nil=>unfold nwN QaW;split<;>simp
 | cons r l ih=>grind [nwN,QaW,Nat.beq,Nat.eq_of_beq_eq_true,Nat.ne_of_beq_eq_false,Qdq]
theorem Qtx (m:List Em) (k n0:Nat) (l:List (Nat × Option Row)) (n:Nat) (x:Option Row) (hinj:∀ p∈l,∀ q∈l,(Qc1 m k n0 p.1).n=(Qc1 m k n0 q.1).n->p.1=q.1)
  (h:QaW (upN m k n0 l) n=some x):∃ p∈l,(Qc1 m k n0 p.1).n=n/\QaW l p.1=some p.2/\x=p.2.map (Qdq m k n0):=by
 induction l with
 | nil=>cases h
 | cons p l ih =>
  unfold upN QaW at h;simp only [] at h
  cases hb:Nat.beq n (Qc1 m k n0 p.1).n with
  | true=>grind [Nat.eq_of_beq_eq_true,QaW,Nat.beq_refl,Qc1,upN,Qdq]
  | false=>grind [Nat.ne_of_beq_eq_false,QaW,Nat.beq,Qc1,Nat.eq_of_beq_eq_true,upN,Qdq]
theorem Qh7 (m:List Em) (k n0:Nat) (l:List (Nat × Option Row)) (n:Nat) (h:QaW (upN m k n0 l) n=none) (i:Nat) (hi:(Qc1 m k n0 i).n=n):QaW l i=none:=by
 induction l with
 | nil=>rfl
 | cons p l ih=>grind [upN,QaW,Nat.beq,Nat.eq_of_beq_eq_true,Nat.beq_refl,Qc1]
theorem Qga {a b:Nat} (h:b<a):Nat.ble a b=false:=by
 cases e:Nat.ble a b with
 | false=>rfl
 | true=>exact absurd (Nat.le_of_ble_eq_true e) (by omega)
section
variable {F:Fr} {ρ ρ1:Nm} {hp:Hp} {w w':World} {m:List Em} {n0:Nat} {H:List Row} {R:Res}
def QiN (k n0 q:Nat) (ρ ρ1:Nm):Nm:=⟨fun n=>if n0<=n/\n<n0+q then ρ1 (k+(n-n0)) else ρ n,ρ1.fr⟩
theorem Qf8 (k n0 q:Nat) (ρ ρ1:Nm) (n:Nat):QiN k n0 q ρ ρ1 n=if n0<=n/\n<n0+q then ρ1 (k+(n-n0)) else ρ n:=rfl
theorem QfI {k q:Nat} (hq:q<=Qap) (hf:∀ n,n0<=n->n<n0+Qap->ρ n=none) (jA:∀ L c,ρ.fr L c->ρ1.fr L c):Ext ρ (QiN k n0 q ρ ρ1):=⟨fun n p hn=>by
 rw [Qf8,if_neg]
 .exact hn
 .grind,jA⟩
theorem QxF {i:Nat} {p:PL} (hc:Conc F ρ hp w) (hm:m.length=H.length) (hs:∀ i,H.length<=i->ρ (n0+(i-H.length)%Qap)=none) (hr:Qem m n0 H hp) (hx:Ext (Qed m ρ) ρ1) (h:ρ1 i=some p) (hi:i<H.length) :
  Qed m ρ i=some p:=by
 have hcp:=QiY hc hm hs hr;have:=hcp.rows i H[i] (by simp [Hs,hi]);unfold RowOk at this
 cases e:Qed m ρ i with
 | none=>grind
 | some q=>rw [<- h];exact (hx i q e).symm
theorem Qr8 (hc:Conc F ρ hp w) (hm:m.length=H.length) (hf:∀ n,n0<=n->n<n0+Qap->ρ n=none) (hr:Qem m n0 H hp) (hx:Ext (Qed m ρ) ρ1) {q:Nat} (hq:q<=Qap) (hn:∀ n,H.length+q<=n->ρ1 n=none) {s:SV} {v:Value} (h:VS ρ1 s v) :
  VS (QiN H.length n0 q ρ ρ1) (QcJ m H.length n0 s) v:=by
 have hs:∀ i,H.length<=i->ρ (n0+(i-H.length)%Qap)=none:=fun i _=>hf _ (by omega) (by have:=Nat.mod_lt (i-H.length) (show 0<Qap by unfold Qap;omega);omega)
 have key:∀ i p,ρ1 i=some p->(∃ L,p= .at L/\∃ L0,QiN H.length n0 q ρ ρ1 (Qc1 m H.length n0 i).n=some (.at L0)/\L.b=L0.b/\L.tot=L0.tot/\L.es=L0.es/\L.δ=L0.δ+(Qc1 m H.length n0 i).sh)\/(p= .empty/\QiN H.length n0 q ρ ρ1 (Qc1 m H.length n0 i).n=some .empty):=by
  intro i p hi
  by_cases h1:i<H.length
  .have h2:=QxF hc hm hs hr hx hi h1
   obtain ⟨e,he⟩:∃ e,m[i]?=some e:=⟨_,List.getElem?_eq_getElem (by omega)⟩;rw [QcF he];rw [Qe2] at h2;rw [he] at h2;simp only [] at h2
   cases e2:ρ e.n with
   | none=>grind
   | some y =>
    have hb:=(QfI (k:=H.length) (ρ1:=ρ1) hq hf hx.fr).nm e.n y e2;rw [e2] at h2
    cases y with
    | empty=>grind
    | «at» L0=>grind
  .have h2:i<H.length+q:=by
    rcases Nat.lt_or_ge i (H.length+q) with h|h
    .exact h
    .grind
   have e1:Qc1 m H.length n0 i=⟨n0+(i-H.length),0⟩:=by
    unfold Qc1;rw [List.getElem?_eq_none (by omega)];simp only [];rw [Nat.mod_eq_of_lt (by omega)]
   have e2:QiN H.length n0 q ρ ρ1 (n0+(i-H.length))=some p:=by grind [Qf8,Qap,Qem,Qed,VS,QiN,QcJ]
   rw [e1]
   cases p with
   | empty=>grind
   | «at» L=>grind
 cases s<;>simp only [QcJ,VS] at h |- <;>try exact h
 case ptr i o=>grind
 case sl i o n=>grind
 case fn f cap=>grind
end
theorem Qr4 {ρ ρ':Nm} {f:SV->SV} (h:∀ s v,VS ρ s v->VS ρ' (f s) v) {m:List Em} {k n0:Nat} (hf:f=QcJ m k n0) {x:AV} {v:Value} (hx:VA ρ x v):VA ρ' (Qc0 m k n0 x) v:=by
 subst hf
 cases x with
 | s x=>exact h _ _ hx
 | agg l =>
  obtain ⟨cs,rfl,h3⟩:=hx
  exact ⟨cs,rfl,by simpa using h3.1,fun q s e=>by
   rw [List.getElem?_map] at e
   cases e0:l[q]? with
   | none=>grind
   | some s0 =>
    rw [e0] at e;injection e with e;subst e
    obtain ⟨v,h4,h5⟩:=h3.2 q _ e0
    exact ⟨v,h4,h _ _ h5⟩⟩
theorem Qzl {ρ ρ':Nm} {m:List Em} {k n0:Nat} (h:∀ s v,VS ρ s v->VS ρ' (QcJ m k n0 s) v) {x:TV} {v:Value} (hx:VT ρ x v):VT ρ' (QB7 m k n0 x) v:=by
 cases x with
 | unk=>exact trivial
 | a x=>exact Qr4 h rfl hx
 | tup l =>
  obtain ⟨cs,rfl,h3⟩:=hx
  exact ⟨cs,rfl,by simpa using h3.1,fun q s e=>by
   rw [List.getElem?_map] at e
   cases e0:l[q]? with
   | none=>grind
   | some s0 =>
    rw [e0] at e;injection e with e;subst e
    obtain ⟨v,h4,h5⟩:=h3.2 q _ e0
    exact ⟨v,h4,Qr4 h rfl h5⟩⟩
theorem QdH {ρ1 ρ':Nm} {w':World} {c n:Nat} {rr:Row} {f:SV->SV} (h:RowOk ρ1 w' c rr) (hn:ρ' n=ρ1 c) (hv:∀ s v,VS ρ1 s v->VS ρ' (f s) v) (r:Row) (vS:r.es=rr.es) (ho:r.own=true->rr.own=true)
  (hcells:∀ (k:Nat) s,r.cells[k]?=some s->∃ s0,rr.cells[k]?=some s0/\s=f s0) (hl:r.cells.length=rr.cells.length):RowOk ρ' w' n r:=by
 unfold RowOk at h |-;rw [hn]
 cases e:ρ1 c with
 | none=>grind
 | some p =>
  rw [e] at h
  cases p with
  | empty=>grind
  | «at» L =>
   obtain ⟨h1,h2,cs,t,fz,h3,h4,h5,h6⟩:=h;refine ⟨by rw [vS];exact h1,by rw [hl];exact h2,cs,t,fz,h3,h4,fun x=>h5 (ho x),fun k s hk=>?_⟩;obtain ⟨s0,g1,rfl⟩:=hcells k s hk;obtain ⟨v,g2,g3⟩:=h6 k s0 g1;exact ⟨v,g2,hv _ _ g3⟩
theorem Qgw (l:List SV) (f:SV->SV) (k:Nat) (s:SV) (h:(l.map f)[k]?=some s):∃ s0,l[k]?=some s0/\s=f s0:=by grind
section
variable {F:Fr} {ρ ρ1:Nm} {hp:Hp} {w w':World} {m:List Em} {n0:Nat} {H:List Row} {R:Res}
theorem QoJ (hc:Conc F ρ hp w) (hm:m.length=H.length) (hf:∀ n,n0<=n->n<n0+Qap->ρ n=none) (hr:Qem m n0 H hp) (hx:Ext (Qed m ρ) ρ1) (hq:R.nw.length<=Qap) (hn:∀ n,H.length+R.nw.length<=n->ρ1 n=none)
  (h:Conc ⟨w,QgX H (Qed m ρ),ρ.fr⟩ ρ1 (R.app H) w') (vM:∀ p∈R.up,∃ r,H[p.1]?=some r/\r.own=true) (UD:∀ r∈R.nw,r.own=true) (hup2:∀ p∈R.up,∀ r,p.2=some r->r.own=true) :
  Conc F (QiN H.length n0 R.nw.length ρ ρ1) ((R.ef m H.length n0).app hp) w':=by
 have hs:∀ i,H.length<=i->ρ (n0+(i-H.length)%Qap)=none:=fun i _=>hf _ (by omega) (by have:=Nat.mod_lt (i-H.length) (show 0<Qap by unfold Qap;omega);omega)
 have hv:∀ s v,VS ρ1 s v->VS (QiN H.length n0 R.nw.length ρ ρ1) (QcJ m H.length n0 s) v:=fun s v=>Qr8 hc hm hf hr hx hq hn
 have own:∀ i r,H[i]?=some r->r.own=true->∃ e rc,m[i]?=some e/\e.sh=0/\hp e.n=some rc/\rc.own=true/\rc.es=r.es/\rc.cells.length=r.cells.length /\
   (∀ (k:Nat) s,r.cells[k]?=some s->rc.cells[k]?=some (QcJ m H.length n0 s))/\QiN H.length n0 R.nw.length ρ ρ1 e.n=ρ1 i/\ρ e.n=Qed m ρ i/\∀ (j:Nat) (f:Em),m[j]?=some f->j≠i->f.n≠e.n:=by
  intro i r hi ho;obtain ⟨e,rc,h1,h2,h3,h4,h5,h6⟩:=hr i r hi;obtain ⟨h7,h8,h9,jL⟩:=h6 ho;have gO:i<H.length:=(List.getElem?_eq_some_iff.1 hi).1
  have hpe:Qed m ρ i=ρ e.n:=by
   rw [Qe2];rw [h1];simp only [h8,Nat.add_zero]
   cases ρ e.n with
   | none=>rfl
   | some p=>cases p<;>rfl
  refine ⟨e,rc,h1,h8,h2,h7,h3,h9,fun k s hk=>by have:=h4 k s hk;rw [h8,Nat.zero_add] at this;exact this,?_,hpe.symm,jL⟩;have qG:=hc.rows _ _ h2;unfold RowOk at qG
  cases e1:ρ e.n with
  | none=>grind
  | some p=>rw [(QfI hq hf hx.fr).nm _ p e1];exact (hx.nm i p (hpe.trans e1)).symm
 have cls:∀ n r,(R.ef m H.length n0).app hp n=some r->(∃ c rr,R.app H c=some rr/\rr.own=true/\r.own=true/\QiN H.length n0 R.nw.length ρ ρ1 n=ρ1 c/\RowOk (QiN H.length n0 R.nw.length ρ ρ1) w' n r /\
    ((n0<=n/\n<n0+R.nw.length/\c=H.length+(n-n0))\/(c<H.length/\∃ (e:Em) (q:Row),m[c]?=some e/\e.n=n/\H[c]?=some q/\q.own=true))) \/
   (hp n=some r/\QiN H.length n0 R.nw.length ρ ρ1 n=ρ n/\∀ (i:Nat) (q:Row) (e:Em),H[i]?=some q->q.own=true->m[i]?=some e->e.n≠n):=by
  intro n r wM;unfold Ef.app at wM;have hl:=Qtw m H.length n0 R.nw 0 n;rw [Nat.add_zero] at hl
  by_cases h1:n0<=n/\n<n0+R.nw.length
  .
   left;obtain ⟨rr,hrr⟩:∃ rr,R.nw[n-n0]?=some rr:=⟨_,List.getElem?_eq_getElem (by omega)⟩
   have e1:QaW (R.ef m H.length n0).nw n=some (Qdq m H.length n0 rr):=by
    show QaW (nwN m H.length n0 0 R.nw) n=_;rw [hl,if_pos h1.1,hrr];rfl
   rw [e1] at wM;injection wM with wM;subst wM
   have e2:R.app H (H.length+(n-n0))=some rr:=by grind [Res.app,Nat.ble_eq_true_of_le,Qap,Qem,Qed,QgX,QiN]
   have e3:QiN H.length n0 R.nw.length ρ ρ1 n=ρ1 (H.length+(n-n0)):=by rw [Qf8];rw [if_pos h1]
   have ho:=UD rr (List.mem_of_getElem? hrr);exact ⟨_,rr,e2,ho,ho,e3,QdH (h.rows _ _ e2) e3 hv _ rfl (fun x=>x) (fun k s hk=>Qgw _ _ k s hk) (by simp [Qdq]),.inl ⟨h1.1,h1.2,rfl⟩⟩
  .have e1:QaW (R.ef m H.length n0).nw n=none:=by
    show QaW (nwN m H.length n0 0 R.nw) n=_;rw [hl];split
    .grind
    .rfl
   rw [e1] at wM;simp only [] at wM;have e3:QiN H.length n0 R.nw.length ρ ρ1 n=ρ n:=by rw [Qf8];rw [if_neg h1]
   cases e2:QaW (R.ef m H.length n0).up n with
   | some x =>
    rw [e2] at wM;simp only [] at wM;subst wM
    obtain ⟨p,g1,g2,g3,g4⟩:=Qtx m H.length n0 R.up n _ (fun p fP q GW e=>by
     obtain ⟨rp,p1,p2⟩:=vM p fP;obtain ⟨_,q1,q2⟩:=vM q GW;obtain ⟨ep,_,p3,_,_,_,_,_,_,_,_,p4⟩:=own _ _ p1 p2;obtain ⟨_,_,q3,_⟩:=own _ _ q1 q2;rw [QcF p3,QcF q3] at e;rcases Nat.decEq p.1 q.1 with fY|YE
     .grind
     .grind) e2
    obtain ⟨rp,p1,p2⟩:=vM p g1;obtain ⟨ep,rc,p3,_,_,_,_,_,_,p5,_,_⟩:=own _ _ p1 p2;rw [QcF p3] at g2;subst g2
    cases e4:p.2 with
    | none=>grind
    | some rr =>
     rw [e4] at g3 g4;injection g4 with g4
     subst g4;have gO:p.1<H.length:=(List.getElem?_eq_some_iff.1 p1).1
     have e5:R.app H p.1=some rr:=by
      unfold Res.app;rw [Qga gO];simp only [g3]
     have ho:=hup2 p g1 rr e4;exact .inl ⟨p.1,rr,e5,ho,ho,p5,QdH (h.rows _ _ e5) p5 hv _ rfl (fun x=>x) (fun k s hk=>Qgw _ _ k s hk) (by simp [Qdq]),.inr ⟨gO,ep,rp,p3,rfl,p1,p2⟩⟩
   | none =>
    rw [e2] at wM;simp only [] at wM
    by_cases jS:∃ (i:Nat) (q:Row) (e:Em),H[i]?=some q/\q.own=true/\m[i]?=some e/\e.n=n
    .obtain ⟨i,q,e,k1,k2,k3,rfl⟩:=jS
     obtain ⟨_,rc,p3,_,p4,p6,p7,p8,p9,p5,_,_⟩:=own _ _ k1 k2;rw [k3] at p3;injection p3 with p3;subst p3
     rw [p4] at wM;injection wM with wM;subst wM
     have gO:i<H.length:=(List.getElem?_eq_some_iff.1 k1).1
     have e5:R.app H i=some q:=by
      unfold Res.app;rw [Qga gO];simp only [Qh7 m H.length n0 R.up _ e2 i (by rw [QcF k3])];exact k1
     refine .inl ⟨i,q,e5,k2,p6,p5,QdH (h.rows _ _ e5) p5 hv _ p7 (fun _=>k2) (fun k s hk=>?_) p8,.inr ⟨gO,e,q,k3,rfl,k1,k2⟩⟩;have JY:k<q.cells.length:=by rw [<- p8];exact (List.getElem?_eq_some_iff.1 hk).1
     refine ⟨q.cells[k],List.getElem?_eq_getElem JY,?_⟩;have:=p9 k _ (List.getElem?_eq_getElem JY);rw [hk] at this;injection this
    .grind
 have oth:∀ n r L,hp n=some r->(∀ (i:Nat) (q:Row) (e:Em),H[i]?=some q->q.own=true->m[i]?=some e->e.n≠n)->ρ n=some (.at L)->L.b<w.heap.size/\¬ QgX H (Qed m ρ) L.b:=by
  intro n r L h1 h2 h3;refine ⟨(hc.rows n r h1).lt h3,?_⟩;rintro ⟨i,q,Li,g1,g2,g3,g4⟩;obtain ⟨e,rc,p1,_,p2,p3,_,_,_,_,p4,_⟩:=own i q g1 g2;exact hc.apart e.n rc n r Li L p2 p3 h1 (h2 i q e g1 g2 p1) (p4.trans g3) h3 g4
 have cOwn:∀ b,QgX H (Qed m ρ) b->F.O b\/F.w0.heap.size<=b:=by
  rintro b ⟨i,q,Li,g1,g2,g3,rfl⟩;obtain ⟨e,rc,p1,_,p2,p3,_,_,_,_,p4,_⟩:=own i q g1 g2;exact hc.mine e.n rc Li p2 p3 (p4.trans g3)
 have cMine:∀ c rr L,R.app H c=some rr->rr.own=true->ρ1 c=some (.at L)->QgX H (Qed m ρ) L.b\/w.heap.size<=L.b:=fun c rr L h1 h2 h3=>h.mine c rr L h1 h2 h3
 have blk:∀ b,b<w.heap.size->¬ QgX H (Qed m ρ) b->w'.heap[b]?=w.heap[b]?:=fun b h1 h2=>h.block b h1 h2
 have cInj:∀ n1 n2 c,((n0<=n1/\n1<n0+R.nw.length/\c=H.length+(n1-n0))\/(c<H.length/\∃ (e:Em) (q:Row),m[c]?=some e/\e.n=n1/\H[c]?=some q/\q.own=true))->((n0<=n2/\n2<n0+R.nw.length/\c=H.length+(n2-n0))\/(c<H.length/\∃ (e:Em) (q:Row),m[c]?=some e/\e.n=n2/\H[c]?=some q/\q.own=true))->n1=n2:=by grind
 refine ⟨fun n r wM=>?_,fun n r n' r' L L' h1 h2 h3 h4 h5 h6=>?_,fun n r L h1 h2 h3=>?_,h.os.trans hc.os,h.tape.trans hc.tape,h.output.trans hc.output,Nat.le_trans hc.size h.size,fun b hb qE=>?_,fun L c hfz=>?_⟩
 .rcases cls n r wM with ⟨c,rr,_,_,_,_,g,_⟩|⟨g1,g2,g3⟩
  .exact g
  .have g4:=(hc.rows n r g1)
   refine RowOk.ext (QfI hq hf hx.fr) (g4.of_block fun L hL=>?_);obtain ⟨q1,q2⟩:=oth n r L g1 g3 hL;exact blk _ q1 q2
 .rcases cls n r h1 with ⟨c,rr,a1,a2,_,a3,_,a4⟩|⟨a1,a2,a3⟩<;>rcases cls n' r' h3 with ⟨c',rr',b1,b2,_,b3,_,b4⟩|⟨b1,b2,b3⟩
  .refine h.apart c rr c' rr' L L' a1 a2 b1 (fun e=>?_) (a3 ▸ h5) (b3 ▸ h6)
   subst e;exact h4 (cInj n n' c a4 b4)
  .rw [b2] at h6
   obtain ⟨q1,q2⟩:=oth n' r' L' b1 b3 h6;rw [a3] at h5;rcases cMine c rr L a1 a2 h5 with g|g
   .exact fun e=>q2 (e ▸ g)
   .omega
  .rw [a2] at h5
   obtain ⟨q1,q2⟩:=oth n r L a1 a3 h5;rw [b3] at h6;rcases cMine c' rr' L' b1 b2 h6 with g|g
   .exact fun e=>q2 (e ▸ g)
   .omega
  .rw [a2] at h5;rw [b2] at h6
   exact hc.apart n r n' r' L L' a1 h2 b1 h4 h5 h6
 .rcases cls n r h1 with ⟨c,rr,a1,a2,_,a3,_,a4⟩|⟨a1,a2,a3⟩
  .rw [a3] at h3
   rcases cMine c rr L a1 a2 h3 with g|g
   .exact cOwn _ g
   .exact .inr (Nat.le_trans hc.size g)
  .rw [a2] at h3;exact hc.mine n r L a1 h2 h3
 .have h1:b<w.heap.size:=Nat.lt_of_lt_of_le hb hc.size
  rw [blk b h1 (fun g=>by rcases cOwn b g with g|g;exact qE g;omega)];exact hc.block b hb qE
 .obtain ⟨f1,f2,f3⟩:=h.frz L c hfz
  refine ⟨f1,fun n r Ln h1 h2 h3=>?_,?_⟩
  .rcases cls n r h1 with ⟨c',rr,a1,a2,_,a3,_,a4⟩|⟨a1,a2,a3⟩
   .exact f2 c' rr Ln a1 a2 (a3 ▸ h3)
   .rw [a2] at h3
    obtain ⟨q1,q2⟩:=oth n r Ln a1 a3 h3;rcases f3 with g|g|g
    .exact (hc.frz L c g).2.1 n r Ln a1 h2 h3
    .exact fun e=>q2 (e ▸ g)
    .have g:w.heap.size<=L.b:=g
     omega
  .rcases f3 with g|g|g
   .exact (hc.frz L c g).2.2
   .rcases cOwn L.b g with g|g
    .exact .inr (.inl g)
    .exact .inr (.inr g)
   .have g:w.heap.size<=L.b:=g
    exact .inr (.inr (Nat.le_trans hc.size g))
end
def avs (tv:Operand->TV):List Operand->Option (List AV)
 | []=>some []
 | x::l=>match tv x with
  | .a u=>match avs tv l with
   | some r=>some (u::r)
   | none=>none
  | _=>none
theorem QAB {tv:Operand->TV} {ρ:Nm} {a:Act}:∀ (l:List Operand) (r:List AV),avs tv l=some r->(∀ x∈l,VT ρ (tv x) (a.eval x))->VAs ρ r (l.map a.eval):=by
 intro l
 induction l with
 | nil=>intro r h _;injection h with h;subst h;exact ⟨rfl,fun k s e=>by cases e⟩
 | cons x l ih =>
  intro r h hv;unfold avs at h;have hx:=hv x (by simp)
  cases e1:tv x with
  | unk=>grind
  | tup _=>grind
  | a u =>
   rw [e1] at h hx;simp only [] at h
   cases e2:avs tv l with
   | none=>grind
   | some q =>
    rw [e2] at h;injection h with h;subst h
    obtain ⟨g1,_⟩:=ih q e2 (fun y hy=>hv y (by simp [hy]));refine ⟨by simp [g1],fun k s hs=>?_⟩
    cases k with
    | zero=>simp at hs;subst hs;exact ⟨_,rfl,hx⟩
    | succ k=>grind
def QnW (cap:List (Nat × Nat)):List AV:=cap.map fun p=> .s (.ptr p.1 p.2)
variable {P:Program} {o:Oper} {tv:Operand->TV} {n0:Nat}
theorem Quc (c:Call) (fo:Operand) (f:FuncId) (cap:List (Nat × Nat)) (l args:List AV) (m:List Em) (H:List Row) (Post:Res->Prop) (fp:List (Nat × Row)) (ho:o.op= .call c) (fF:c.callee= .value fo) (GC:tv fo= .a (.s (.fn (.func f) cap)))
  (hl:avs tv c.args.toList=some l) (ha:l++QnW cap=args.map (Qc0 m H.length n0)) (hF:Fn P f args H Post) (hm:m.length=H.length) (hr:∀ hp:Hp,(∀ p∈fp,hp p.1=some p.2)->Qem m n0 H hp) (hq:∀ R,Post R->R.nw.length<=Qap) :
  SemOp P o tv n0 fp (fun e=>∃ R,Post R/\e=R.ef m H.length n0):=by
 intro F ρ hp a w Q K h1 hc hf jA hK;obtain ⟨⟨fn,g1,g2,g3⟩,hF⟩:=hF;have hr':=hr hp hf;have hs:∀ i,H.length<=i->ρ (n0+(i-H.length)%Qap)=none:=fun i _=>jA _ (by omega) (by have:=Nat.mod_lt (i-H.length) (show 0<Qap by unfold Qap;omega);omega)
 have hfv:=QaV h1 (by rw [ho];simp [Op.operands,Call.operands,fF]) GC;obtain ⟨caps,e1,e2,e3⟩:=hfv;have hav:=QAB (ρ:=ρ) (a:=a) _ _ hl (fun x hx=>h1 x (by rw [ho];simp only [Op.operands,Call.operands,fF,Array.mem_append];exact .inr (by simpa using hx)))
 have GN:VAs ρ (l++QnW cap) ((c.args.map a.eval)++caps).toList:=by
  have jI:l.length=c.args.size:=by have:=hav.1;simpa using this
  refine ⟨by simp [QnW,jI,e2],fun k s hk=>?_⟩;rw [Array.toList_append]
  by_cases JY:k<l.length
  .rw [List.getElem?_append_left JY] at hk
   obtain ⟨v,q1,q2⟩:=hav.2 k s hk;exact ⟨v,by rw [List.getElem?_append_left (by simp;omega)];simpa using q1,q2⟩
  .rw [List.getElem?_append_right (by omega)] at hk
   unfold QnW at hk;rw [List.getElem?_map] at hk
   cases e4:cap[k-l.length]? with
   | none=>grind
   | some p =>
    rw [e4] at hk;injection hk with hk;subst hk
    obtain ⟨L,q1,q2⟩:=e3 _ p e4;exact ⟨_,by rw [List.getElem?_append_right (by simp;omega)];simpa [jI] using q2,⟨L,q1,rfl⟩⟩
 rw [ha] at GN;have hcalls:=hF (Qed m ρ) w (c.args.map a.eval++caps) (fun n hn=>by rw [Qe2];rw [List.getElem?_eq_none (by omega)]) (Quy hm hs GN) (QiY hc hm hs hr');unfold Oper.wp
 have gX:(execOp a.eval o).run P w= .ok (.enter f (c.args.map a.eval++caps)) w:=by
  unfold execOp;rw [ho];have g2' : ¬ fn.name = "runtime.NumGoroutine" := by simpa using g2
  have g3':¬ fn.body=none:=by intro e;rw [e] at g3;cases g3
  simp [resolve,fF,Deferred.ofValue,e1,invoke,callFunc,program,Sem.run,g1,g2',g3']
 rw [gX,Oper.upon_enter];refine Calls.mono hcalls fun e w' hpost=>?_
 obtain ⟨R,v,ρ1,p1,rfl,p2,p3,p4,p5,p6,p7,p8⟩:=hpost;have GW:=hq R p1
 exact hK _ (QiN H.length n0 R.nw.length ρ ρ1) v w' ⟨R,p1,rfl⟩ (QfI GW jA p2.fr) (fun n fY=>by rw [Qf8];rw [if_neg];rintro ⟨q1,q2⟩;exact fY ⟨q1,by omega⟩)
  (Qzl (fun s v=>Qr8 hc hm jA hr' p2 GW p3) p4) (QoJ hc hm jA hr' p2 GW p3 p5 p6 p7 p8)
abbrev KK:=List (Nat × Row)->Ef->Prop
def vv (x:AV):Ef:=⟨.a x,[],[]⟩
def vs1 (x:SV):Ef:=⟨.a (.s x),[],[]⟩
inductive Sd (p K:Prop):Prop
 | mk (h:p) (k:K)
inductive Vl {α:Type} (e:α) (K:α->Prop):Prop
 | mk (z:α) (h:e=z) (k:K z)
inductive Ge {α:Type} (e:Option α) (K:α->Prop):Prop
 | mk (z:α) (h:e=some z) (k:K z)
inductive Sg (cells:List SV) (o n:Nat) (K:List SV->Prop):Prop
 | mk (l:List SV) (h:l.length=n/\∀ (j:Nat) s,l[j]?=some s->cells[o+j]?=some s) (k:K l)
inductive Sk (cells:List SV) (o n:Nat) (K:List SV->Prop):Prop
 | mk (l:List SV) (h:l.length=n/\Qas l=true/\∀ (j:Nat) s,l[j]?=some s->cells[o+j]?=some s) (k:K l)
inductive Br (b:Bool) (A B:Prop):Prop
 | mk (t:b=true->A) (f:b=false->B)
inductive Gd (b want nw:Bool) (A B:Prop):Prop
 | mk (t:b=want->A) (f:b=nw->B)
def fB (b:Bool) (K:Bool->Prop):Prop:=match b with
 | true=>K true
 | false=>K false
theorem QpH (b:Bool) (K:Bool->Prop):fB b K↔K b:=by cases b<;>exact Iff.rfl
def QCA (op:BinOp) (k:IntKind) (m:Int) (k':IntKind) (n:Int) (K:SV->Prop):Prop :=
 match op with
 | .shl=>Sd (0<=n) (Vl (k.wrap (m*2^min n.toNat k.bits)) fun z=>K (.int k z))
 | .shr=>Sd (0<=n) (Vl (m / 2^min n.toNat k.bits) fun z=>K (.int k z))
 | .quo=>Sd (k=k') (Sd (n≠0) (Vl (k.wrap (m.tdiv n)) fun z=>K (.int k z)))
 | .rem=>Sd (k=k') (Sd (n≠0) (Vl (m.tmod n) fun z=>K (.int k z)))
 | .add=>Sd (k=k') (Vl (k.wrap (m+n)) fun z=>K (.int k z))
 | .sub=>Sd (k=k') (Vl (k.wrap (m-n)) fun z=>K (.int k z))
 | .mul=>Sd (k=k') (Vl (k.wrap (m*n)) fun z=>K (.int k z))
 | .and=>Sd (k=k') (Vl (bits .and k m n) fun z=>K (.int k z))
 | .or=>Sd (k=k') (Vl (bits .or k m n) fun z=>K (.int k z))
 | .xor=>Sd (k=k') (Vl (bits .xor k m n) fun z=>K (.int k z))
 | .andNot=>Sd (k=k') (Vl (bits .andNot k m n) fun z=>K (.int k z))
 | .eql=>Sd (k=k') (Vl ((m==n)) fun z=>K (.bool z))
 | .neq=>Sd (k=k') (Vl ((m !=n)) fun z=>K (.bool z))
 | .lss=>Sd (k=k') (Vl (decide (m<n)) fun z=>K (.bool z))
 | .leq=>Sd (k=k') (Vl (decide (m<=n)) fun z=>K (.bool z))
 | .gtr=>Sd (k=k') (Vl (decide (m>n)) fun z=>K (.bool z))
 | .geq=>Sd (k=k') (Vl (decide (m>=n)) fun z=>K (.bool z))
def QCD (op:BinOp) (m n:ByteArray) (K:SV->Prop):Prop :=
 match op with
 | .add=>Sd (m.size+n.size<=9223372036854775807) (Vl (m++n) fun z=>K (.str z))
 | .eql=>Vl ((m.toList==n.toList)) fun z=>K (.bool z)
 | .neq=>Vl ((!(m.toList==n.toList))) fun z=>K (.bool z)
 | _=>False
def QAn (P:Program) (t:TypeId) (l l':List SV) (b:Bool):Prop :=
 ∀ (ρ:Nm) (w:World) (cs cs':Array Value) (x y:Operand),VSs ρ l cs.toList->VSs ρ l' cs'.toList ->
  (eqGuard .eql t x y (.agg cs) (.agg cs')).run P w= .ok () w/\(eqGuard .neq t x y (.agg cs) (.agg cs')).run P w= .ok () w /\
  (binOp .eql t (.agg cs) (.agg cs')).run P w= .ok (.bool b) w/\(binOp .neq t (.agg cs) (.agg cs')).run P w= .ok (.bool !b) w
inductive Eqs (P:Program) (t:TypeId) (l l':List SV) (K:Bool->Prop):Prop
 | mk (b:Bool) (h:QAn P t l l' b) (k:K b)
inductive Ns (det:Bool) (n:Nat) (K:Bool->Prop):Prop
 | any (hd:det=false) (h:∀ b:Bool,(b=true->n=0)->K b)
 | pos (hn:0<n) (k:K false)
def QCz (P:Program) (T:Tys) (det:Bool) (op:BinOp) (t:TypeId) (x y:TV) (K:SV->Prop):Prop :=
 match x,y with
 | .a (.s (.int k m)),.a (.s (.int k' n))=>QCA op k m k' n K
 | .a (.s (.str m)),.a (.s (.str n))=>QCD op m n K
 | .a (.s (.bool m)),.a (.s (.bool n))=>(match T t with
  | some ty=>ty.kind= .bool/\(match op with
   | .eql=>Vl ((m==n)) fun z=>K (.bool z)
   | .neq=>Vl ((!(m==n))) fun z=>K (.bool z)
   | _=>False)
  | none=>False)
 | .a (.agg l),.a (.agg l')=>(match op with
  | .eql=>Eqs P t l l' fun b=>K (.bool b)
  | .neq=>Eqs P t l l' fun b=>K (.bool !b)
  | _=>False)
 | .a (.s (.sl _ _ n)),.a (.s .nilsl)=>(match T t with
  | some y=>(match y.kind with
   | .slice _=>(match op with
    | .eql=>Ns det n fun b=>K (.bool b)
    | .neq=>Ns det n fun b=>Vl (!b) fun b=>K (.bool b)
    | _=>False)
   | _=>False)
  | none=>False)
 | .a (.s .nilsl),.a (.s .nilsl)=>(match T t with
  | some y=>(match y.kind with
   | .slice _=>(match op with
    | .eql=>K (.bool true)
    | .neq=>K (.bool false)
    | _=>False)
   | _=>False)
  | none=>False)
 | _,_=>False
def vUn (op:UnOp) (x:TV) (K:SV->Prop):Prop :=
 match op,x with
 | .not,.a (.s (.bool b))=>Vl ((!b)) fun z=>K (.bool z)
 | .neg,.a (.s (.int k n))=>Vl (k.wrap (0-n)) fun z=>K (.int k z)
 | .xor,.a (.s (.int k n))=>Vl (bits .xor k (if k.signed then -1 else k.max) n) fun z=>K (.int k z)
 | _,_=>False
def QBq (hp:Hp):List (Nat × Row)->Prop
 | []=>True
 | p::l=>hp p.1=some p.2/\QBq hp l
theorem Qtk {hp:Hp} {l:List (Nat × Row)} (h:QBq hp l):∀ p∈l,hp p.1=some p.2:=by
 induction l with
 | nil=>grind
 | cons a l ih =>
  intro p hp;rcases List.mem_cons.1 hp with rfl|hp
  .exact h.1
  .exact ih h.2 p hp
def QdY (mm:List Em) (k n0 i:Nat) (e:Em) (r rc:Row):Prop :=
 rc.es=r.es/\(∀ (q:Nat) s,r.cells[q]?=some s->rc.cells[e.sh+q]?=some (QcJ mm k n0 s))/\e.sh+r.cells.length<=rc.cells.length /\
  (r.own=true->rc.own=true/\e.sh=0/\rc.cells.length=r.cells.length/\∀ (j:Nat) (f:Em),mm[j]?=some f->j≠i->f.n≠e.n)
def QiD (mm:List Em) (k n0:Nat):Nat->List Em->List Row->List (Nat × Row)->Prop
 | _,[],[],[]=>True
 | i,e::m,r::H,p::fp=>p.1=e.n/\QdY mm k n0 i e r p.2/\QiD mm k n0 (i+1) m H fp
 | _,_,_,_=>False
theorem QgJ {mm:List Em} {k n0:Nat}:∀ {i:Nat} {m:List Em} {H:List Row} {fp:List (Nat × Row)},QiD mm k n0 i m H fp->m.length=H.length
 | _,[],[],[],_=>rfl
 | _,_::m,_::H,_::fp,h=>by have:=QgJ h.2.2;simp [this]
 | _,[],_::_,_,h=>h.elim
 | _,[],[],_::_,h=>h.elim
 | _,_::_,[],_,h=>h.elim
 | _,_::_,_::_,[],h=>h.elim
theorem QgK {mm:List Em} {k n0:Nat}:∀ {i:Nat} {m:List Em} {H:List Row} {fp:List (Nat × Row)},QiD mm k n0 i m H fp->∀ e∈m,∃ p∈fp,p.1=e.n
 | _,[],_,_,_=>fun e he=>by cases he
 | _,x::m,_::H,p::fp,h=>fun e he=>by
  rcases List.mem_cons.1 he with rfl|he
  .exact ⟨p,by simp,h.1⟩
  .obtain ⟨q,h1,h2⟩:=QgK h.2.2 e he
   exact ⟨q,by simp [h1],h2⟩
 | _,_::_,[],_,h=>h.elim
 | _,_::_,_::_,[],h=>h.elim
theorem QjC {mm:List Em} {k n0:Nat} {hp:Hp}:∀ {i:Nat} {m:List Em} {H:List Row} {fp:List (Nat × Row)},QiD mm k n0 i m H fp->(∀ p∈fp,hp p.1=some p.2) ->
  ∀ (j:Nat) (r:Row),H[j]?=some r->∃ (e:Em) (rc:Row),m[j]?=some e/\hp e.n=some rc/\QdY mm k n0 (i+j) e r rc
 | _,[],[],_,_,_=>fun j r h=>by cases h
 | i,e::m,x::H,p::fp,h,hf=>fun j r hj=>by
  cases j with
  | zero=>injection hj with hj;subst hj;exact ⟨e,p.2,rfl,by rw [<- h.1];exact hf p (by simp),h.2.1⟩
  | succ j =>
   obtain ⟨e',rc,h1,h2,h3⟩:=QjC h.2.2 (fun q hq=>hf q (by simp [hq])) j r hj;exact ⟨e',rc,h1,h2,by rw [show i+(j+1)=i+1+j by omega];exact h3⟩
 | _,[],_::_,_,h,_=>h.elim
 | _,_::_,[],_,h,_=>h.elim
 | _,_::_,_::_,[],h,_=>h.elim
theorem Qt1 {m:List Em} {n0:Nat} {H:List Row} {fp:List (Nat × Row)} (h:QiD m H.length n0 0 m H fp) (hp:Hp) (hf:∀ p∈fp,hp p.1=some p.2):Qem m n0 H hp:=fun i r hi=>by
 obtain ⟨e,rc,h1,h2,h3,h4,h5,h6⟩:=QjC h hf i r hi;rw [Nat.zero_add] at h6;exact ⟨e,rc,h1,h2,h3,h4,h5,h6⟩
def fS (s:SV) (K:SV->Prop):Prop:=match s with
 | .unk=>K .unk
 | .bool b=>K (.bool b)
 | .int k n=>K (.int k n)
 | .str s=>K (.str s)
 | .nil=>K .nil
 | .ptr i o=>K (.ptr i o)
 | .nilsl=>K .nilsl
 | .sl i o n=>K (.sl i o n)
 | .fn f c=>K (.fn f c)
 | .fz es n c=>K (.fz es n c)
theorem Qvg (s:SV) (K:SV->Prop):fS s K↔K s:=by cases s<;>exact Iff.rfl
def fL:List SV->(List SV->Prop)->Prop
 | [],K=>K []
 | s::l,K=>fS s fun s=>fL l fun l=>K (s::l)
theorem QpI:∀ (l:List SV) (K:List SV->Prop),fL l K↔K l
 | [],K=>Iff.rfl
 | s::l,K=>by unfold fL;rw [Qvg];exact QpI l _
def fT (v:TV) (K:TV->Prop):Prop:=match v with
 | .unk=>K .unk
 | .a x=>(match x with
  | .s s=>fS s fun s=>K (.a (.s s))
  | .agg l=>K (.a (.agg l)))
 | .tup l=>K (.tup l)
theorem QA7 (v:TV) (K:TV->Prop):fT v K↔K v:=by
 cases v with
 | unk=>exact Iff.rfl
 | tup l=>exact Iff.rfl
 | a x =>
  cases x with
  | s s=>grind [Qvg,fT]
  | agg l=>exact Iff.rfl
def fR (r:Row) (K:Bool->Nat->List SV->Prop):Prop:=match r with
 | ⟨o,e,c⟩=>K o e c
def fA (u:AV) (K:List SV->Prop):Prop:=match u with
 | .s x=>K [x]
 | .agg l=>K l
theorem QlQ (u:AV) (K:List SV->Prop):fA u K↔K u.cells:=by cases u<;>exact Iff.rfl
inductive Cll (P:Program) (det:Bool) (f:FuncId) (l:List AV) (hp:Hp) (n0:Nat) (K:KK):Prop
 | mk (args:List AV) (H:List Row) (m:List Em) (fp:List (Nat × Row)) (Post:Res->Prop) (h1:Fn P f args H Post) (h2:l=args.map (Qc0 m H.length n0)) (h3:QBq hp fp) (h4:QiD m H.length n0 0 m H fp)
  (h5:∀ R,Post R->R.nw.length<=Qap/\∀ p∈R.up,p.1<H.length) (h6:det=true->∃ R,Post=(. =R)) (h7:∀ R,Post R->Vl (R.ef m H.length n0) fun e=>K fp e)
def QnI (P:Program) (det:Bool) (f:FuncId) (l:List AV) (hp:Hp) (n0:Nat) (K:KK):Prop :=
 Cll P det f l hp n0 K
def QCB (T:Tys) (t:TypeId) (x:TV) (K:SV->Prop):Prop :=
 match x with
 | .a (.s (.sl _ _ n))=>(match T t with|some y=>(match y.kind with| .slice _=>K (.int .i64 n)|_=>False)|none=>False)
 | .a (.s (.fz _ n _))=>(match T t with|some y=>(match y.kind with| .slice _=>K (.int .i64 n)|_=>False)|none=>False)
 | .a (.s .nilsl)=>(match T t with|some y=>(match y.kind with| .slice _=>K (.int .i64 0)|_=>False)|none=>False)
 | .a (.s (.str s))=>(match T t with|some y=>(match y.kind with| .str=>K (.int .i64 s.size)|_=>False)|none=>False)
 | _=>False
def Qdn (T:Tys) (tx:TypeId) (y:TV):Prop :=
 match y with
 | .a (.s (.str _))=>(match T tx with|some z=>z.kind= .str|none=>False)
 | .a (.s .nilsl)| .a (.s (.sl _ _ _))=>(match T tx with|some z=>(match z.kind with| .slice _=>True|_=>False)|none=>False)
 | _=>False
def QCC (hp:Hp) (es:Nat) (y:TV) (K:List (Nat × Row)->Nat->List SV->Prop):Prop :=
 match y with
 | .a (.s .nilsl)=>K [] 0 []
 | .a (.s (.sl j k m))=>Ge (hp j) fun r=>Sk r.cells k (m*es) fun l=>K [(j,r)] m l
 | .a (.s (.str s))=>Sd (es=1) (K [] s.size (Qcx s))
 | _=>False
def QgT (T:Tys) (hp:Hp) (n0:Nat) (t tx:TypeId) (x y:TV) (K:KK):Prop :=
 match T t with
 | some yt=>(match yt.kind with
  | .slice e=>(match T e with
   | some ye=>Sd (Qdn T tx y) (QCC hp ye.size y fun fp m l=>(match x with
    | .a (.s .nilsl)=>Sd (m*ye.bytes<=140737488355328/\m<=9223372036854775807) (K fp ⟨.a (.s (.sl n0 0 m)),[],[(n0,⟨true,ye.size,l⟩)]⟩)
    | .a (.s (.sl i k n))=>Sd (k=0) (Ge (hp i) fun r=>Sd (r.own=true/\r.es=ye.size/\r.cells.length=n*ye.size/\(n+m)*ye.bytes<=140737488355328/\n+m<=9223372036854775807)
      (Vl (n+m) fun n'=>Vl (r.cells++l) fun c=>K ((i,r)::fp) ⟨.a (.s (.sl n0 0 n')),[(i,none)],[(n0,⟨true,ye.size,c⟩)]⟩))
    | _=>False))
   | none=>False)
  | _=>False)
 | none=>False
def Qr2 (hp:Hp) (es:Nat) (y:TV) (n:Nat) (K:List (Nat × Row)->Nat->List SV->Prop):Prop :=
 match y with
 | .a (.s .nilsl)=>K [] 0 []
 | .a (.s (.sl j k m))=>Vl (min m n) fun q=>Ge (hp j) fun r=>Sk r.cells k (q*es) fun l=>K [(j,r)] q l
 | .a (.s (.str s))=>Vl (min s.size n) fun q=>Sd (es=1) (K [] q ((Qcx s).take q))
 | _=>False
def Qr1 (T:Tys) (hp:Hp) (t:TypeId) (x y:TV) (K:KK):Prop :=
 match T t with
 | some yt=>(match yt.kind with
  | .slice e=>(match T e with
   | some ye=>(match x with
    | .a (.s (.sl i k n))=>Qr2 hp ye.size y n fun fp q l=>Ge (hp i) fun r=>Sd (r.own=true/\k+l.length<=r.cells.length) (Vl (QaB r.cells k l) fun c=>fR r fun o e _=>K ((i,r)::fp) ⟨.a (.s (.int .i64 q)),[(i,some ⟨o,e,c⟩)],[]⟩)
    | _=>False)
   | none=>False)
  | _=>False)
 | none=>False
def Qr0 (T:Tys) (hp:Hp) (s d:TypeId) (x:TV) (K:KK):Prop :=
 match T s,T d with
 | some ys,some yd=>(match x,yd.kind with
  | .a (.s (.int _ z)),.int k=>Vl (k.wrap z) fun u=>K [] (vs1 (.int k u))
  | .a (.s (.str z)),.str=>K [] (vs1 (.str z))
  | .a (.s .nilsl),.str=>(match ys.kind with
   | .slice e=>(match T e with
    | some ye=>(match ye.kind with
     | .int .u8=>K [] (vs1 (.str ByteArray.empty))
     | _=>False)
    | none=>False)
   | _=>False)
  | .a (.s (.sl i k n)),.str=>(match ys.kind with
   | .slice e=>(match T e with
    | some ye=>(match ye.kind with
     | .int .u8=>Ge (hp i) fun r=>Sg r.cells k n fun l=>Ge (QdW l) fun ns=>K [(i,r)] (vs1 (.str (strOfNums ns)))
     | _=>False)
    | none=>False)
   | _=>False)
  | _,_=>False)
 | _,_=>False
def QjU (T:Tys) (hp:Hp) (t:TypeId) (x:TV) (lo hi:Option Int->Option Int) (K:KK):Prop :=
 match T t with
 | some y=>(match x,y.kind with
  | .a (.s (.str s)),.str=>(match lo (some 0),hi (some s.size) with
   | some l,some h=>Sd (0<=l/\l<=h/\h<=s.size) (Vl (s.extract l.toNat h.toNat) fun z=>K [] (vs1 (.str z)))
   | _,_=>False)
  | .a (.s (.sl i k n)),.slice e=>(match T e,lo (some 0),hi (some n) with
   | some ye,some l,some h=>Ge (hp i) fun r=>Sd (r.es=ye.size/\0<=l/\l<=h/\h<=n) (Vl (k+l.toNat * ye.size) fun o'=>Vl ((h-l).toNat) fun n'=>K [(i,r)] (vs1 (.sl i o' n')))
   | _,_,_=>False)
  | .a (.s .nilsl),.slice e=>(match T e,lo (some 0),hi (some 0) with
   | some _,some l,some h=>Sd (l=0/\h=0) (K [] (vs1 .nilsl))
   | _,_,_=>False)
  | _,_=>False)
 | none=>False
inductive Zs (ye:Ty) (n:Nat) (K:List SV->Prop):Prop
 | mk (cells:List SV) (h:cells.length=n*ye.size/\∀ (k:Nat) s,cells[k]?=some s->ye.zero[k%ye.size]?=some s) (k:K cells)
def vop (P:Program) (T:Tys) (det:Bool) (o:Oper) (tv:Operand->TV) (hp:Hp) (n0:Nat) (K:KK):Prop :=
 match o.op with
 | .move x=>K [] ⟨tv x,[],[]⟩
 | .assign x=>K [] ⟨tv x,[],[]⟩
 | .pick c x y=>(match tv c with
  | .a (.s (.bool b))=>(match b with|true=>K [] ⟨tv x,[],[]⟩|false=>K [] ⟨tv y,[],[]⟩)
  | _=>False)
 | .binOp op t x y _=>QCz P T det op t (tv x) (tv y) fun s=>K [] (vs1 s)
 | .unOp op _ x=>vUn op (tv x) fun s=>K [] (vs1 s)
 | .alloc t=>(match T t with|some y=>fL y.zero fun z=>K [] ⟨.a (.s (.ptr n0 0)),[],[(n0,⟨true,1,z⟩)]⟩|none=>False)
 | .box _ x=>(match tv x with| .a u=>fA u fun l=>Sd (Qas l=true) (K [] ⟨.a (.s (.ptr n0 0)),[],[(n0,⟨true,1,l⟩)]⟩)|_=>False)
 | .load t x=>(match tv x with
  | .a (.s (.ptr i k))=>(match T t with
   | some y=>(match y.kind.agg with
    | false=>Ge (hp i) fun r=>Ge (r.cells[k]?) fun s=>K [(i,r)] (vs1 s)
    | true=>Ge (hp i) fun r=>Sg r.cells k y.size fun l=>K [(i,r)] (vv (.agg l)))
   | none=>False)
  | _=>False)
 | .store t x z=>(match tv x,tv z with
  | .a (.s (.ptr i k)),.a u=>(match T t with
   | some y=>fA u fun l=>Ge (hp i) fun r=>Sd (l.length=y.size/\Qas l=true/\r.own=true/\k+l.length<=r.cells.length) (Vl (QaB r.cells k l) fun c=>fR r fun o e _=>K [(i,r)] ⟨.unk,[(i,some ⟨o,e,c⟩)],[]⟩)
   | none=>False)
  | _,_=>False)
 | .nilCheck x=>(match tv x with
  | .a (.s (.ptr i k))=>K [] (vs1 (.ptr i k))
  | .a (.s (.fn (.func f) cap))=>K [] (vs1 (.fn (.func f) cap))
  | _=>False)
 | .fieldAddr t x f=>(match tv x,T t with
  | .a (.s (.ptr i k)),some y=>(match y.kind with
   | .struct fs=>(match fs[f]? with
    | some p=>(match T p.2 with
     | some yf=>(match Nat.beq yf.size 0 with|false=>K [] (vs1 (.ptr i (k+p.1)))|true=>False)
     | none=>False)
    | none=>False)
   | _=>False)
  | _,_=>False)
 | .indexAddr t x ix=>(match tv x,tv ix,T t with
  | .a (.s (.sl i k n)),.a (.s (.int _ z)),some y=>(match y.kind with
   | .slice e=>(match T e with
    | some ye=>Sd (0<=z/\z<n) (Vl (k+z.toNat * ye.size) fun o'=>K [] (vs1 (.ptr i o')))
    | none=>False)
   | _=>False)
  | .a (.s (.ptr i k)),.a (.s (.int _ z)),some y=>(match y.kind with
   | .array n e=>(match T e with
    | some ye=>Sd (0<=z/\z<n) (Vl (k+z.toNat * ye.size) fun o'=>K [] (vs1 (.ptr i o')))
    | none=>False)
   | _=>False)
  | _,_,_=>False)
 | .index t x ix=>(match tv x,tv ix,T t with
  | .a (.s (.str s)),.a (.s (.int _ z)),some y=>Sd (y.kind= .str/\0<=z) (Ge (s[z.toNat]?) fun b:UInt8=>K [] (vs1 (.int .u8 b.toNat)))
  | .a (.agg l),.a (.s (.int _ z)),some y=>(match y.kind with
   | .array n e=>(match T e with
    | some ye=>Sd (0<=z/\z<n) (Ge (Qie ye l (z.toNat * ye.size)) fun u=>K [] (vv u))
    | none=>False)
   | _=>False)
  | _,_,_=>False)
 | .field t x f=>(match tv x,T t with
  | .a (.agg l),some y=>(match y.kind with
   | .struct fs=>(match fs[f]? with
    | some p=>(match T p.2 with
     | some yf=>Ge (Qie yf l p.1) fun u=>K [] (vv u)
     | none=>False)
    | none=>False)
   | _=>False)
  | _,_=>False)
 | .extract x k=>(match tv x with| .tup l=>(match l[k]? with|some u=>K [] (vv u)|none=>False)|_=>False)
 | .build t parts=>(match T t,QdT tv parts.toList with
  | some y,some ps=>(match y.kind with
   | .struct fs=>(match Qdo T fs with|some pl=>Ge (QbX (fun i=>pl[i]?) y.zero ps) fun l=>K [] (vv (.agg l))|none=>False)
   | .array _ e=>(match T e with|some ye=>Ge (QbX (fun i=>some (i*ye.size,ye.size)) y.zero ps) fun l=>K [] (vv (.agg l))|none=>False)
   | _=>False)
  | _,_=>False)
 | .buildSlice t n parts=>(match T t,QdT tv parts.toList with
  | some y,some ps=>(match y.kind with
   | .slice e=>(match T e with
    | some ye=>(match Nat.ble (n*ye.size) 16777216 with
     | true=>Ge (QbX (fun i=>some (i*ye.size,ye.size)) (List.replicate (n*ye.size) .unk) ps) fun l=>Sd (l.length=n*ye.size) (K [] ⟨.a (.s (.sl n0 0 n)),[],[(n0,⟨true,ye.size,l⟩)]⟩)
     | false=>False)
    | none=>False)
   | _=>False)
  | _,_=>False)
 | .makeSlice t x y=>(match tv x,tv y,T t with
  | .a (.s (.int _ l)),.a (.s (.int _ c)),some yt=>(match yt.kind with
   | .slice e=>(match T e with
    | some ye=>Sd (0<=l/\l<=c/\ye.bytes*c<=140737488355328/\c<=9223372036854775807) (Vl l.toNat fun n=>Zs ye n fun cells=>K [] ⟨.a (.s (.sl n0 0 n)),[],[(n0,⟨true,ye.size,cells⟩)]⟩)
    | none=>False)
   | _=>False)
  | _,_,_=>False)
 | .slice t x lo hi none=>QjU T hp t (tv x) (fun d=>Qkj tv (d.getD 0) lo) (fun d=>Qkj tv (d.getD 0) hi) K
 | .convert s d x=>Qr0 T hp s d (tv x) K
 | .makeFunc f first cs=>(match first.toList with
  | []=>(match QmL tv cs.toList with|some cap=>K [] (vs1 (.fn f cap))|none=>False)
  | _=>False)
 | .call c=>(match c.callee with
  | .value fo=>(match tv fo,avs tv c.args.toList with
   | .a (.s (.fn (.func f) cap)),some l=>QnI P det f (l++QnW cap) hp n0 K
   | _,_=>False)
  | .builtin .len=>(match c.args.toList,c.argTypes.toList with| [x],[t]=>QCB T t (tv x) fun s=>K [] (vs1 s)|_,_=>False)
  | .builtin .append=>(match c.args.toList,c.argTypes.toList with| [x,y],[t,tx]=>QgT T hp n0 t tx (tv x) (tv y) K|_,_=>False)
  | .builtin .copy=>(match c.args.toList,c.argTypes.toList with| [x,y],[t,_]=>Qr1 T hp t (tv x) (tv y) K|_,_=>False)
  | .builtin .min=>(match c.args.toList with
   | x::l=>(match tv x with
    | .a (.s (.int k _))=>(match Qjc tv k (x::l) with|some (z::r)=>Vl (Qsl z r) fun u=>K [] (vs1 (.int k u))|_=>False)
    | _=>False)
   | _=>False)
  | .builtin .max=>(match c.args.toList with
   | x::l=>(match tv x with
    | .a (.s (.int k _))=>(match Qjc tv k (x::l) with|some (z::r)=>Vl (Qz4 z r) fun u=>K [] (vs1 (.int k u))|_=>False)
    | _=>False)
   | _=>False)
  | _=>False)
 | _=>False
def Snd (P:Program) (det:Bool) (o:Oper) (tv:Operand->TV) (hp:Hp) (n0:Nat) (K:KK):Prop :=
 ∃ fp E,SemOp P o tv n0 fp E/\(∀ p∈fp,hp p.1=some p.2)/\(∀ e,E e->QzS n0 fp e/\K fp e)/\(det=true->∃ e,E=(. =e))
variable {P:Program} {det:Bool} {o:Oper} {tv:Operand->TV} {hp:Hp} {n0:Nat} {K:KK}
theorem QbR {fp:List (Nat × Row)} {e:Ef} (h:SemOp P o tv n0 fp (. =e)) (hf:∀ p∈fp,hp p.1=some p.2) (hok:QzS n0 fp e) (hk:K fp e):Snd P det o tv hp n0 K :=
 ⟨fp,_,h,hf,fun _ h=>h ▸ ⟨hok,hk⟩,fun _=>⟨e,rfl⟩⟩
theorem QaZ (v:TV) (fp:List (Nat × Row)):QzS n0 fp ⟨v,[],[]⟩:=⟨fun _ h=>(by cases h),fun _ h=>(by cases h)⟩
theorem Qo2 (v:TV) (fp:List (Nat × Row)) (r:Row):QzS n0 fp ⟨v,[],[(n0,r)]⟩:=⟨fun p h=>(by simp at h;subst h;simp [Qap]),fun _ h=>(by cases h)⟩
theorem QwK (v:TV) (fp:List (Nat × Row)) (i:Nat) (r:Row) (x:Option Row) (nw:List (Nat × Row)) (hn:∀ p∈nw,n0<=p.1/\p.1<n0+Qap):QzS n0 ((i,r)::fp) ⟨v,[(i,x)],nw⟩ :=
 ⟨hn,fun p h=>by simp at h;subst h;exact ⟨(i,r),by simp,rfl⟩⟩
theorem nof {hp:Hp}:∀ p∈([]:List (Nat × Row)),hp p.1=some p.2:=fun _ h=>by cases h
theorem QxN {hp:Hp} {i:Nat} {r:Row} (h:hp i=some r):∀ p∈ [(i,r)],hp p.1=some p.2:=fun p hp=>by simp at hp;subst hp;exact h
theorem QAK {hp:Hp} {i:Nat} {r:Row} {fp:List (Nat × Row)} (h:hp i=some r) (h2:∀ p∈fp,hp p.1=some p.2):∀ p∈(i,r)::fp,hp p.1=some p.2:=fun p hp=>by
 rcases List.mem_cons.1 hp with rfl|hp
 .exact h
 .grind
theorem QnJ {op:BinOp} {t t2:TypeId} {x y:Operand} {k k':IntKind} {m n:Int} (ho:o.op= .binOp op t x y t2) (hx:tv x= .a (.s (.int k m))) (hy:tv y= .a (.s (.int k' n))) (h:QCA op k m k' n fun s=>K [] (vs1 s)):Snd P det o tv hp n0 K:=by
 cases op<;>simp only [QCA] at h
 case quo=>obtain ⟨rfl,h1,_,rfl,h2⟩:=h;exact QbR (QyK t x y t2 _ m n ho hx hy h1) nof (QaZ _ _) h2
 case rem=>obtain ⟨rfl,h1,_,rfl,h2⟩:=h;exact QbR (QyP t x y t2 _ m n ho hx hy h1) nof (QaZ _ _) h2
 case shl=>obtain ⟨h1,_,rfl,h2⟩:=h;exact QbR (QyQ t x y t2 _ _ m n ho hx hy h1) nof (QaZ _ _) h2
 case shr=>obtain ⟨h1,_,rfl,h2⟩:=h;exact QbR (QyR t x y t2 _ _ m n ho hx hy h1) nof (QaZ _ _) h2
 all_goals (obtain ⟨rfl,_,rfl,h2⟩:=h;exact QbR (Que _ t x y t2 _ m n _ ho hx hy rfl) nof (QaZ _ _) h2)
theorem QnL {op:BinOp} {t t2:TypeId} {x y:Operand} {m n:ByteArray} (ho:o.op= .binOp op t x y t2) (hx:tv x= .a (.s (.str m))) (hy:tv y= .a (.s (.str n))) (h:QCD op m n fun s=>K [] (vs1 s)):Snd P det o tv hp n0 K:=by
 cases op<;>simp only [QCD] at h
 case add=>obtain ⟨h1,_,rfl,h2⟩:=h;exact QbR (Quj t x y t2 m n ho hx hy h1) nof (QaZ _ _) h2
 all_goals (obtain ⟨_,rfl,h2⟩:=h;exact QbR (Quk _ t x y t2 m n _ ho hx hy rfl) nof (QaZ _ _) h2)
theorem QjH (op:BinOp) (t:TypeId) (x y:Operand) (t2:TypeId) (l l':List SV) (b c:Bool) (ho:o.op= .binOp op t x y t2) (hx:tv x= .a (.agg l)) (hy:tv y= .a (.agg l')) (he:QAn P t l l' b) (hc:(op= .eql/\c=b)\/(op= .neq/\c= !b)) :
  SemOp P o tv n0 [] (. =⟨.a (.s (.bool c)),[],[]⟩) :=
 SemOp.read fun F ρ hp a w h1 _ _=>by
  obtain ⟨cs,_,h3⟩:=QlO h1 (by rw [ho];simp [Op.operands]) hx;obtain ⟨cs',_,h5⟩:=QlO h1 (by rw [ho];simp [Op.operands]) hy;obtain ⟨_,_,_,_⟩:=he ρ w cs cs' x y h3 h5;refine ⟨.bool c,rfl,?_⟩;unfold execOp;rw [ho];rcases hc with ⟨rfl,rfl⟩|⟨rfl,rfl⟩
  .simp_all
  .simp_all
theorem Qhv (w:World) (t e:TypeId) (a:Option Addr) (l c:Nat) (h:P.underlying t=some (.slice e)):(binOp .eql t (.slice a l c) (.slice none 0 0)).run P w= .ok (.bool a.isNone) w:=by
 simp only [binOp];simp [run_equal_slice_nil w t e a l c h]
theorem QjK {T:Tys} (hT:QaU P T) (op:BinOp) (t e:TypeId) (x y:Operand) (t2:TypeId) (yt:Ty) (i k n:Nat) (neg:Bool) (ho:o.op= .binOp op t x y t2) (hx:tv x= .a (.s (.sl i k n))) (hy:tv y= .a (.s .nilsl)) (jY:T t=some yt) (hk:yt.kind= .slice e)
  (uD:(op= .eql/\neg=false)\/(op= .neq/\neg=true)):SemOp P o tv n0 [] (fun f=>∃ b:Bool,(b=true->n=0)/\f=⟨.a (.s (.bool (Bool.xor neg b))),[],[]⟩):=by
 intro F ρ hp a w Q K h1 h2 h3 _ hK;obtain ⟨A,c,e1,_,_⟩:=QaV h1 (by rw [ho];simp [Op.operands]) hx;have e2:a.eval y= .slice none 0 0:=QaV h1 (by rw [ho];simp [Op.operands]) hy;have hu:=(hT t yt jY).sl hk;have hz:A.isNone=true->n=0:=fun hA=>by grind
 have hr:(execOp a.eval o).run P w= .ok (.value (.bool (Bool.xor neg A.isNone))) w:=by
  unfold execOp;rw [ho];rcases uD with ⟨rfl,rfl⟩|⟨rfl,rfl⟩
  .simp only [e1,e2,eqGuard_at_slice,Qhv w t e A n c hu,Sem.run_bind,Sem.run_pure,Result.andThen_ok,Bool.false_xor]
  .simp only [e1,e2,eqGuard_at_slice,run_neq_slice_nil w t e A n c hu,Sem.run_bind,Sem.run_pure,Result.andThen_ok,Bool.true_xor]
 unfold Oper.wp;rw [hr,Oper.upon_value];exact hK _ ρ _ w ⟨_,hz,rfl⟩ (Ext.refl _) (fun _ _=>rfl) rfl (by rw [Ef.app_none];exact h2)
theorem Qhw {T:Tys} (hT:QaU P T) (op:BinOp) (t e:TypeId) (x y:Operand) (t2:TypeId) (yt:Ty) (neg:Bool) (ho:o.op= .binOp op t x y t2) (hx:tv x= .a (.s .nilsl)) (hy:tv y= .a (.s .nilsl)) (jY:T t=some yt) (hk:yt.kind= .slice e)
  (uD:(op= .eql/\neg=false)\/(op= .neq/\neg=true)):SemOp P o tv n0 [] (. =⟨.a (.s (.bool (!neg))),[],[]⟩) :=
 SemOp.read fun F ρ hp a w h1 _ _=>by
  have e1:a.eval x= .slice none 0 0:=QaV h1 (by rw [ho];simp [Op.operands]) hx;have e2:a.eval y= .slice none 0 0:=QaV h1 (by rw [ho];simp [Op.operands]) hy;have hu:=(hT t yt jY).sl hk;refine ⟨_,rfl,?_⟩;unfold execOp;rw [ho];rcases uD with ⟨rfl,rfl⟩|⟨rfl,rfl⟩
  .simp only [e1,e2,eqGuard_at_slice,Qhv w t e none 0 0 hu,Sem.run_bind,Sem.run_pure,Result.andThen_ok]
   rfl
  .simp only [e1,e2,eqGuard_at_slice,run_neq_slice_nil w t e none 0 0 hu,Sem.run_bind,Sem.run_pure,Result.andThen_ok]
   rfl
theorem Qvt {T:Tys} (hT:QaU P T) {op:BinOp} {t e:TypeId} {x y:Operand} {t2:TypeId} {yt:Ty} {i k n:Nat} {neg:Bool} {J:Bool->Prop} (ho:o.op= .binOp op t x y t2) (hx:tv x= .a (.s (.sl i k n))) (hy:tv y= .a (.s .nilsl)) (jY:T t=some yt) (hk:yt.kind= .slice e)
  (uD:(op= .eql/\neg=false)\/(op= .neq/\neg=true)) (h:Ns det n J) (hJ:∀ b,J b->K [] (vs1 (.bool (Bool.xor neg b)))):Snd P det o tv hp n0 K:=by
 rcases h with ⟨hd,h⟩|⟨hn,h⟩
 .refine ⟨[],_,QjK hT op t e x y t2 yt i k n neg ho hx hy jY hk uD,nof,?_,fun e=>by rw [hd] at e;cases e⟩
  rintro f ⟨b,hb,rfl⟩;exact ⟨QaZ _ _,hJ b (h b hb)⟩
 .refine ⟨[],(. =⟨.a (.s (.bool (Bool.xor neg false))),[],[]⟩),?_,nof,?_,fun _=>⟨_,rfl⟩⟩
  .intro F ρ hp a w Q K' h1 h2 h3 h4 hK
   refine QjK hT op t e x y t2 yt i k n neg ho hx hy jY hk uD F ρ hp a w Q K' h1 h2 h3 h4 fun f ρ' v w' hf=>?_
   obtain ⟨b,hb,rfl⟩:=hf
   cases b with
   | false=>grind
   | true=>grind
  .rintro f rfl;exact ⟨QaZ _ _,hJ false h⟩
theorem QnH {T:Tys} (hT:QaU P T) {op:BinOp} {t t2:TypeId} {x y:Operand} (ho:o.op= .binOp op t x y t2) (h:QCz P T det op t (tv x) (tv y) fun s=>K [] (vs1 s)):Snd P det o tv hp n0 K:=by
 unfold QCz at h;split at h
 .rename_i k m k' n hx hy;exact QnJ ho hx hy h
 .rename_i m n hx hy;exact QnL ho hx hy h
 .rename_i m n hx hy
  split at h
  .rename_i ty UL
   obtain ⟨hk,h⟩:=h;have hu:=(hT t ty UL).bool hk;split at h
   .obtain ⟨_,rfl,h⟩:=h;exact QbR (Qmm .eql t x y t2 m n _ ho hx hy hu rfl) nof (QaZ _ _) h
   .obtain ⟨_,rfl,h⟩:=h;exact QbR (Qmm .neq t x y t2 m n _ ho hx hy hu rfl) nof (QaZ _ _) h
   .grind
  .grind
 .rename_i l l' hx hy
  split at h
  .obtain ⟨b,h1,h2⟩:=h;exact QbR (QjH _ t x y t2 l l' b _ ho hx hy h1 (.inl ⟨rfl,rfl⟩)) nof (QaZ _ _) h2
  .obtain ⟨b,h1,h2⟩:=h;exact QbR (QjH _ t x y t2 l l' b _ ho hx hy h1 (.inr ⟨rfl,rfl⟩)) nof (QaZ _ _) h2
  .grind
 .rename_i i k n hx hy
  split at h
  .rename_i yt jY
   split at h
   .rename_i e hk
    split at h
    .exact Qvt (neg:=false) hT ho hx hy jY hk (.inl ⟨rfl,rfl⟩) h fun b hb=>by rw [Bool.false_xor];exact hb
    .exact Qvt (neg:=true) hT ho hx hy jY hk (.inr ⟨rfl,rfl⟩) h fun b hb=>by obtain ⟨_,rfl,hb⟩:=hb;rw [Bool.true_xor];exact hb
    .grind
   .grind
  .grind
 .rename_i hx hy
  split at h
  .rename_i yt jY
   split at h
   .rename_i e hk
    split at h
    .exact QbR (Qhw (neg:=false) hT _ t e x y t2 yt ho hx hy jY hk (.inl ⟨rfl,rfl⟩)) nof (QaZ _ _) h
    .exact QbR (Qhw (neg:=true) hT _ t e x y t2 yt ho hx hy jY hk (.inr ⟨rfl,rfl⟩)) nof (QaZ _ _) h
    .grind
   .grind
  .grind
 .grind
theorem Qr3 {op:UnOp} {t:TypeId} {x:Operand} (ho:o.op= .unOp op t x) (h:vUn op (tv x) fun s=>K [] (vs1 s)):Snd P det o tv hp n0 K:=by
 unfold vUn at h;split at h
 .rename_i b hx;obtain ⟨_,rfl,h⟩:=h;exact QbR (QyO t x b ho hx) nof (QaZ _ _) h
 .rename_i k n hx;obtain ⟨_,rfl,h⟩:=h;exact QbR (Qrq _ t x k n _ ho hx rfl) nof (QaZ _ _) h
 .rename_i k n hx;obtain ⟨_,rfl,h⟩:=h;exact QbR (Qrq _ t x k n _ ho hx rfl) nof (QaZ _ _) h
 .grind
theorem QqE (m:List Em) (k n0:Nat) (l:List Row) (j:Nat) (p:Nat × Row) (h:p∈nwN m k n0 j l):n0+j<=p.1/\p.1<n0+j+l.length:=by
 induction l generalizing j with
 | nil=>cases h
 | cons r l ih=>grind [nwN]
theorem QrW (m:List Em) (k n0:Nat) (l:List (Nat × Option Row)) (p:Nat × Option Row) (h:p∈upN m k n0 l):∃ q∈l,p.1=(Qc1 m k n0 q.1).n:=by
 induction l with
 | nil=>cases h
 | cons r l ih=>grind [upN,Qc1]
theorem Qlk {c:Call} {fo:Operand} {f:FuncId} {cap:List (Nat × Nat)} {l:List AV} (ho:o.op= .call c) (fF:c.callee= .value fo) (GC:tv fo= .a (.s (.fn (.func f) cap))) (hl:avs tv c.args.toList=some l)
  (h:QnI P det f (l++QnW cap) hp n0 K):Snd P det o tv hp n0 K:=by
 obtain ⟨args,H,m,fp,Post,h1,h2,h3,h4,h5,h6,h7⟩:=h;refine ⟨fp,_,Quc c fo f cap l args m H Post fp ho fF GC hl h2 h1 (QgJ h4) (fun hp hf=>Qt1 h4 hp hf) (fun R hR=>(h5 R hR).1),Qtk h3,?_,fun hd=>?_⟩
 .rintro e ⟨R,hR,rfl⟩
  refine ⟨⟨fun p hp=>?_,fun p hp=>?_⟩,by obtain ⟨e,h8,h9⟩:=h7 R hR;rw [h8];exact h9⟩
  .have:=QqE m H.length n0 R.nw 0 p hp
   have:=(h5 R hR).1;omega
  .obtain ⟨q,q1,q2⟩:=QrW m H.length n0 R.up p hp
   have gO:=(h5 R hR).2 q q1;rw [<- QgJ h4] at gO;have e:=QcF (k:=H.length) (n0:=n0) (List.getElem?_eq_getElem gO);rw [e] at q2;obtain ⟨y,y1,y2⟩:=QgK h4 _ (List.getElem_mem gO);exact ⟨y,y1,y2.trans q2.symm⟩
 .obtain ⟨R,hR⟩:=h6 hd
  subst hR;exact ⟨R.ef m H.length n0,by funext e;simp⟩
theorem QnK {T:Tys} (hT:QaU P T) {c:Call} {t:TypeId} {x:Operand} (ho:o.op= .call c) (fF:c.callee= .builtin .len) (qJ:c.args= #[x]) (qN:c.argTypes= #[t]) (h:QCB T t (tv x) fun s=>K [] (vs1 s)):Snd P det o tv hp n0 K:=by
 unfold QCB at h;split at h
 .rename_i i k n hx
  split at h
  .rename_i y hy
   split at h
   .rename_i e hk;exact QbR (QyL hT c t e x y i k n ho fF qJ qN hx hy hk) nof (QaZ _ _) h
   .grind
  .grind
 .rename_i k n fc hx
  split at h
  .rename_i y hy
   split at h
   .rename_i e hk;exact QbR (Qrr hT c t e x y k n fc ho fF qJ qN hx hy hk) nof (QaZ _ _) h
   .grind
  .grind
 .rename_i hx
  split at h
  .rename_i y hy
   split at h
   .rename_i e hk;exact QbR (Qny hT c t e x y ho fF qJ qN hx hy hk) nof (QaZ _ _) h
   .grind
  .grind
 .rename_i s hx
  split at h
  .rename_i y hy
   split at h
   .rename_i hk;exact QbR (Quf hT c t x y s ho fF qJ qN hx hy hk) nof (QaZ _ _) h
   .grind
  .grind
 .grind
theorem Qje {T:Tys} {tx:TypeId} {y:TV} (h:Qdn T tx y):∃ yx,T tx=some yx/\((yx.kind= .str/\∃ s,y= .a (.s (.str s)))\/((∃ e',yx.kind= .slice e')/\¬ ∃ s,y= .a (.s (.str s)))):=by
 unfold Qdn at h;split at h
 .grind
 .grind
 .grind
 .grind
theorem Qzg {es:Nat} {y:Operand} {C:List (Nat × Row)->Nat->List SV->Prop} (h:QCC hp es (tv y) C):∃ fp m l,QEc tv y es fp m l/\(∀ p∈fp,hp p.1=some p.2)/\C fp m l:=by
 unfold QCC at h;split at h
 .rename_i hy;exact ⟨[],0,[],.inl ⟨hy,rfl,rfl,rfl⟩,nof,h⟩
 .rename_i j k m hy
  obtain ⟨r,h1,l,⟨h2,h3,h4⟩,h5⟩:=h;exact ⟨_,m,l,.inr (.inl ⟨j,k,r,hy,rfl,h2,h3,h4⟩),QxN h1,h5⟩
 .rename_i s hy
  obtain ⟨h1,h2⟩:=h;exact ⟨[],s.size,Qcx s,.inr (.inr ⟨s,hy,rfl,rfl,rfl,h1⟩),nof,h2⟩
 .grind
theorem Qit {T:Tys} (hT:QaU P T) {c:Call} {t tx:TypeId} {x y:Operand} (ho:o.op= .call c) (fF:c.callee= .builtin .append) (qJ:c.args= #[x,y]) (qN:c.argTypes= #[t,tx]) (h:QgT T hp n0 t tx (tv x) (tv y) K):Snd P det o tv hp n0 K:=by
 unfold QgT at h;split at h
 .rename_i yt jY
  split at h
  .rename_i e hk
   split at h
   .rename_i ye wH
    obtain ⟨h1,h2⟩:=h;obtain ⟨yx,FU,FR⟩:=Qje h1;obtain ⟨fp,m,l,h3,h4,h5⟩:=Qzg h2;split at h5
    .rename_i hx
     obtain ⟨⟨h6,h7⟩,h8⟩:=h5;exact QbR (Qil hT c t tx e x y yt yx ye m fp l ho fF qJ qN hx jY hk wH FU FR h3 h6 h7) h4 (Qo2 _ _ _) h8
    .rename_i i k n hx
     obtain ⟨rfl,r,h6,⟨h7,h8,h9,jL,yC⟩,_,rfl,_,rfl,vP⟩:=h5;exact QbR (Qnt hT c t tx e x y yt yx ye i n m r fp l ho fF qJ qN hx jY hk wH FU FR h3 h7 h8 h9 jL yC) (QAK h6 h4) (QwK _ _ _ _ _ _ (fun p h=>by simp at h;subst h;simp [Qap])) vP
    .grind
   .grind
  .grind
 .grind
theorem Qux {es n:Nat} {y:Operand} {C:List (Nat × Row)->Nat->List SV->Prop} (h:Qr2 hp es (tv y) n C):∃ fp m q l,QEX tv y es fp m q l/\q=min m n/\(∀ p∈fp,hp p.1=some p.2)/\C fp q l:=by
 unfold Qr2 at h;split at h
 .rename_i hy;exact ⟨[],0,0,[],.inl ⟨hy,rfl,rfl,rfl,rfl⟩,by omega,nof,h⟩
 .rename_i j k m hy
  obtain ⟨q,h0,r,h1,l,⟨h2,h3,h4⟩,h5⟩:=h;exact ⟨_,m,q,l,.inr (.inl ⟨j,k,r,hy,rfl,by omega,h2,h3,h4⟩),h0.symm,QxN h1,h5⟩
 .rename_i s hy
  obtain ⟨q,h0,h1,h2⟩:=h;exact ⟨[],s.size,q,_,.inr (.inr ⟨s,hy,rfl,rfl,by omega,rfl,h1⟩),h0.symm,nof,h2⟩
 .grind
theorem Qlm {T:Tys} (hT:QaU P T) {c:Call} {t tx:TypeId} {x y:Operand} (ho:o.op= .call c) (fF:c.callee= .builtin .copy) (qJ:c.args= #[x,y]) (qN:c.argTypes= #[t,tx]) (h:Qr1 T hp t (tv x) (tv y) K):Snd P det o tv hp n0 K:=by
 unfold Qr1 at h;split at h
 .rename_i yt jY
  split at h
  .rename_i e hk
   split at h
   .rename_i ye wH
    split at h
    .rename_i i k n hx
     obtain ⟨fp,m,q,l,h3,h4,h5,r,h6,⟨h7,h8⟩,_,rfl,h9⟩:=Qux h;exact QbR (Qud hT c t tx e x y yt ye i k n m q r fp l ho fF qJ qN hx jY hk wH h3 h4 h7 h8) (QAK h6 h5) (QwK _ _ _ _ _ _ (fun p h=>(by cases h))) h9
    .grind
   .grind
  .grind
 .grind
theorem Qll {T:Tys} (hT:QaU P T) {s d:TypeId} {x:Operand} (ho:o.op= .convert s d x) (h:Qr0 T hp s d (tv x) K):Snd P det o tv hp n0 K:=by
 unfold Qr0 at h;split at h
 .rename_i ys yd hs hd
  split at h
  .rename_i q z k hx hk;obtain ⟨_,rfl,h⟩:=h;exact QbR (Qro hT s d x ys yd k q z ho hx hs hd hk) nof (QaZ _ _) h
  .rename_i z hx hk;exact QbR (Qk9 hT s d x ys yd z ho hx hs hd hk) nof (QaZ _ _) h
  .rename_i hx hk
   split at h
   .rename_i e he
    split at h
    .rename_i ye wH
     split at h
     .rename_i hu;exact QbR (Qnv hT s d e x ys yd ye ho hx hs he wH hu hd hk) nof (QaZ _ _) h
     .grind
    .grind
   .grind
  .rename_i i k n hx hk
   split at h
   .rename_i e he
    split at h
    .rename_i ye wH
     split at h
     .rename_i hu
      obtain ⟨r,h1,l,⟨h2,h3⟩,xs,h4,h5⟩:=h;exact QbR (Qrn hT s d e x ys yd ye i k n r l xs ho hx hs he wH hu hd hk h2 h3 h4) (QxN h1) (QaZ _ _) h5
     .grind
    .grind
   .grind
  .grind
 .grind
theorem QjV {T:Tys} (hT:QaU P T) {t:TypeId} {x:Operand} {lo hi:Option Operand} (ho:o.op= .slice t x lo hi none) (h:QjU T hp t (tv x) (fun d=>Qkj tv (d.getD 0) lo) (fun d=>Qkj tv (d.getD 0) hi) K):Snd P det o tv hp n0 K:=by
 unfold QjU at h;split at h
 .rename_i y hy
  split at h
  .rename_i s hx hk
   split at h
   .rename_i l q hl hh
    obtain ⟨⟨h1,h2,h3⟩,_,rfl,h⟩:=h;exact QbR (Qnz hT t x lo hi y s l q ho hx hy hk hl hh h1 h2 h3) nof (QaZ _ _) h
   .grind
  .rename_i i k n e hx hk
   split at h
   .rename_i ye l q he hl hh
    obtain ⟨r,h1,⟨h2,h3,h4,h5⟩,_,rfl,_,rfl,h6⟩:=h;exact QbR (Qrs hT t e x lo hi y ye i k n r l q ho hx hy hk he h2 hl hh h3 h4 h5) (QxN h1) (QaZ _ _) h6
   .grind
  .rename_i e hx hk
   split at h
   .rename_i ye l q he hl hh
    obtain ⟨⟨rfl,rfl⟩,h⟩:=h;exact QbR (QjL hT t e x lo hi y ye ho hx hy hk he hl hh) nof (QaZ _ _) h
   .grind
  .grind
 .grind
theorem QG9 {α:Type} {a:Array α} {x:α} (h:a.toList= [x]):a= #[x]:=by apply Array.ext';simpa using h
theorem QEE {α:Type} {a:Array α} {x y:α} (h:a.toList= [x,y]):a= #[x,y]:=by apply Array.ext';simpa using h
theorem QIj {α:Type} {a:Array α} (h:a.toList= []):a= #[]:=by apply Array.ext';simpa using h
theorem QjX {T:Tys} (hT:QaU P T) (h:vop P T det o tv hp n0 K):Snd P det o tv hp n0 K:=by
 unfold vop at h;split at h
 .rename_i x ho;exact QbR (Qui x ho) nof (QaZ _ _) h
 .rename_i x ho;exact QbR (Qnu x ho) nof (QaZ _ _) h
 .rename_i c x y ho
  split at h
  .rename_i b hc
   cases b
   .exact QbR (Qmn c x y false ho hc) nof (QaZ _ _) h
   .exact QbR (Qmn c x y true ho hc) nof (QaZ _ _) h
  .grind
 .rename_i op t x y t2 ho;exact QnH hT ho h
 .rename_i op t x ho;exact Qr3 ho h
 .rename_i t ho
  split at h
  .rename_i y hy;rw [QpI] at h;exact QbR (Qrm hT t y ho hy) nof (Qo2 _ _ _) h
  .grind
 .rename_i t x ho
  split at h
  .rename_i u hx;rw [QlQ] at h;obtain ⟨h1,h⟩:=h;exact QbR (QyJ t x u ho hx h1) nof (Qo2 _ _ _) h
  .grind
 .rename_i t x ho
  split at h
  .rename_i i k hx
   split at h
   .rename_i y hy
    split at h
    .rename_i hk
     obtain ⟨r,h1,s,h2,h3⟩:=h;exact QbR (Qug hT t x y i k r s ho hx hy hk h2) (QxN h1) (QaZ _ _) h3
    .rename_i hk
     obtain ⟨r,h1,l,⟨h2,h4⟩,h3⟩:=h;exact QbR (Qlb hT t x y i k r l ho hx hy hk h2 h4) (QxN h1) (QaZ _ _) h3
   .grind
  .grind
 .rename_i t x z ho
  split at h
  .rename_i i k u hx hz
   split at h
   .rename_i y hy
    rw [QlQ] at h;obtain ⟨r,h1,⟨h2,h3,h4,h5⟩,_,rfl,h6⟩:=h;exact QbR (Qrt hT t x z y i k r u ho hx hz hy h2 h3 h4 h5) (QxN h1) (QwK _ _ _ _ _ _ (fun p h=>(by cases h))) h6
   .grind
  .grind
 .rename_i x ho
  split at h
  .rename_i i k hx;exact QbR (QjJ x i k ho hx) nof (QaZ _ _) h
  .rename_i f cap hx;exact QbR (Qio x f cap ho hx) nof (QaZ _ _) h
  .grind
 .rename_i t x f ho
  split at h
  .rename_i i k y hx hy
   split at h
   .rename_i fs hk
    split at h
    .rename_i p hf
     split at h
     .rename_i yf JK
      split at h
      .rename_i hs;exact QbR (Qim hT t x f y yf fs p i k ho hx hy hk hf JK hs) nof (QaZ _ _) h
      .grind
     .grind
    .grind
   .grind
  .grind
 .rename_i t x ix ho
  split at h
  .rename_i i k n q z y hx wU hy
   split at h
   .rename_i e hk
    split at h
    .rename_i ye he
     obtain ⟨⟨h1,h2⟩,_,rfl,h3⟩:=h;exact QbR (Qin hT t e x ix y ye i k n q z ho hx wU hy hk he h1 h2) nof (QaZ _ _) h3
    .grind
   .grind
  .rename_i i k q z y hx wU hy
   split at h
   .rename_i n e hk
    split at h
    .rename_i ye he
     obtain ⟨⟨h1,h2⟩,_,rfl,h3⟩:=h;exact QbR (Qg4 hT t e x ix y ye i k n q z ho hx wU hy hk he h1 h2) nof (QaZ _ _) h3
    .grind
   .grind
  .grind
 .rename_i t x ix ho
  split at h
  .rename_i s q z y hx wU hy
   obtain ⟨⟨hk,h1⟩,b,h2,h3⟩:=h;exact QbR (Qnx hT t x ix y s q z b ho hx wU hy hk h1 h2) nof (QaZ _ _) h3
  .rename_i l q z y hx wU hy
   split at h
   .rename_i n e hk
    split at h
    .rename_i ye he
     obtain ⟨⟨h1,h2⟩,u,h3,h4⟩:=h;exact QbR (Qnw hT t e x ix y ye l n u q z ho hx wU hy hk he h1 h2 h3) nof (QaZ _ _) h4
    .grind
   .grind
  .grind
 .rename_i t x f ho
  split at h
  .rename_i l y hx hy
   split at h
   .rename_i fs hk
    split at h
    .rename_i p hf
     split at h
     .rename_i yf JK
      obtain ⟨u,h1,h2⟩:=h;exact QbR (Qrp hT t x f y yf fs p l u ho hx hy hk hf JK h1) nof (QaZ _ _) h2
     .grind
    .grind
   .grind
  .grind
 .rename_i x k ho
  split at h
  .rename_i l hx
   split at h
   .rename_i u hu;exact QbR (Qla x k l u ho hx hu) nof (QaZ _ _) h
   .grind
  .grind
 .rename_i t parts ho
  split at h
  .rename_i y ps hy yI
   split at h
   .rename_i fs hk
    split at h
    .rename_i pl yQ
     obtain ⟨l,hl,h⟩:=h;exact QbR (QjG hT t parts y ps l ho hy yI (.inl ⟨fs,pl,hk,yQ,hl⟩)) nof (QaZ _ _) h
    .grind
   .rename_i n e hk
    split at h
    .rename_i ye he
     obtain ⟨l,hl,h⟩:=h;exact QbR (QjG hT t parts y ps l ho hy yI (.inr ⟨n,e,ye,hk,he,hl⟩)) nof (QaZ _ _) h
    .grind
   .grind
  .grind
 .rename_i t n parts ho
  split at h
  .rename_i y ps hy yI
   split at h
   .rename_i e hk
    split at h
    .rename_i ye he
     split at h
     .rename_i hb
      obtain ⟨l,hl,h1,h⟩:=h;exact QbR (Qg3 hT t e n parts y ye ps l ho hy hk he yI hb hl h1) nof (Qo2 _ _ _) h
     .grind
    .grind
   .grind
  .grind
 .rename_i t x y ho
  split at h
  .rename_i q l q2 c yt hx hy jY
   split at h
   .rename_i e hk
    split at h
    .rename_i ye he
     obtain ⟨⟨h1,h2,h3,h4⟩,n,rfl,cells,⟨h6,h7⟩,h8⟩:=h;exact QbR (Quh hT t e x y yt ye q q2 l c ho hx hy jY hk he h1 h2 h3 h4 cells h6 h7) nof (Qo2 _ _ _) h8
    .grind
   .grind
  .grind
 .rename_i t x lo hi ho;exact QjV hT ho h
 .rename_i s d x ho;exact Qll hT ho h
 .rename_i f first cs ho
  split at h
  .rename_i hf
   have hf:=QIj hf;subst hf;split at h
   .rename_i cap hc;exact QbR (QjI f cs cap ho hc) nof (QaZ _ _) h
   .grind
  .grind
 .rename_i c ho
  split at h
  .rename_i fo fF
   split at h
   .rename_i f cap l GC hl;exact Qlk ho fF GC hl h
   .grind
  .rename_i fF
   split at h
   .rename_i x t hx ht;exact QnK hT ho fF (QG9 hx) (QG9 ht) h
   .grind
  .rename_i fF
   split at h
   .rename_i x y t tx hx ht;exact Qit hT ho fF (QEE hx) (QEE ht) h
   .grind
  .rename_i fF
   split at h
   .rename_i x y t tx hx ht;exact Qlm hT ho fF (QEE hx) (QEE ht) h
   .grind
  .rename_i fF
   split at h
   .rename_i x l hx
    split at h
    .rename_i k z0 JH
     split at h
     .rename_i z r hz
      obtain ⟨u,rfl,h⟩:=h;exact QbR (QyN c k x l z r ho fF hx hz) nof (QaZ _ _) h
     .grind
    .grind
   .grind
  .rename_i fF
   split at h
   .rename_i x l hx
    split at h
    .rename_i k z0 JH
     split at h
     .rename_i z r hz
      obtain ⟨u,rfl,h⟩:=h;exact QbR (QyM c k x l z r ho fF hx hz) nof (QaZ _ _) h
     .grind
    .grind
   .grind
  .grind
 .grind
def ap {V:Type} (u:Nat->Option V) (f:Nat->V):Nat->V:=fun k=>match u k with
 | some v=>v
 | none=>f k
def Qa0 {V:Type} (us:Nat->Nat->Option V) (l:List Nat) (f:Nat->V):Nat->V:=l.foldl (fun f i=>ap (us i) f) f
theorem QdA {V:Type} (us:Nat->Nat->Option V) (i:Nat) (l:List Nat) (f:Nat->V):Qa0 us (i::l) f=Qa0 us l (ap (us i) f):=rfl
theorem Qdi {V:Type} (us:Nat->Nat->Option V) (l m:List Nat) (f:Nat->V):Qa0 us (l++m) f=Qa0 us m (Qa0 us l f):=by simp [Qa0]
theorem Qti {V:Type} (us:Nat->Nat->Option V) (k:Nat):∀ (l:List Nat) (f g:Nat->V),f k=g k->Qa0 us l f k=Qa0 us l g k:=by
 intro l
 induction l with
 | nil=>intro f g h;exact h
 | cons i l ih =>
  intro f g h;rw [QdA,QdA];refine ih _ _ ?_;unfold ap;split
  .rfl
  .exact h
theorem Qfl {V:Type} (us:Nat->Nat->Option V) (k:Nat):∀ (l:List Nat) (f:Nat->V),Qa0 us l f k=Qa0 us (l.filter fun i=>(us i k).isSome) f k:=by
 intro l
 induction l with
 | nil=>grind
 | cons i l ih =>
  intro f;rw [QdA,ih]
  cases e:us i k with
  | some v=>simp_all [List.filter_cons,QdA,Qa0]
  | none=>grind [Qti,ap,Qa0]
theorem QdB {V:Type} (us:Nat->Nat->Option V) (k n:Nat) (p q:Nat->Bool) (f:Nat->V) (h:∀ i,i<n->(us i k).isSome=true->p i=q i) :
  Qa0 us ((List.range n).filter p) f k=Qa0 us ((List.range n).filter q) f k:=by
 rw [Qfl,Qfl us k ((List.range n).filter q)];rw [List.filter_filter,List.filter_filter];congr 1;apply List.filter_congr;intro i hi;have hi:i<n:=by simpa using hi
 cases e:(us i k).isSome with
 | false=>simp
 | true=>grind
theorem Qdp (n j:Nat) (h:j<=n):(List.range n).filter (fun i=>decide (i<j))=List.range j:=by
 induction n with
 | zero=>grind
 | succ n ih =>
  rw [List.range_succ,List.filter_append]
  by_cases hj:j<=n
  .rw [ih hj]
   simp;omega
  .have:j=n+1:=by omega
   subst this;rw [List.filter_eq_self.2 (by intro i hi;simp at hi |-;omega),List.range_succ];simp
theorem Qfm {V:Type} (us:Nat->Nat->Option V) (k n j:Nat) (p:Nat->Bool) (f:Nat->V) (hj:j<n) (hp:p j=false) (h:∀ i,i<n->j<i->p i=true->(us j k).isSome=true->(us i k).isSome=false) :
  Qa0 us ((List.range n).filter fun i=>p i||decide (i=j)) f k=ap (us j) (Qa0 us ((List.range n).filter p) f) k:=by
 cases e:us j k with
 | none =>
  have:ap (us j) (Qa0 us ((List.range n).filter p) f) k=Qa0 us ((List.range n).filter p) f k:=by unfold ap;rw [e]
  rw [this];refine QdB us k n _ _ f fun i hi hu=>?_
  have:i≠j:=by rintro rfl;rw [e] at hu;cases hu
  simp [this]
 | some v =>
  have hr:ap (us j) (Qa0 us ((List.range n).filter p) f) k=v:=by unfold ap;rw [e]
  rw [hr];have jO:Qa0 us ((List.range n).filter fun i=>p i||decide (i=j)) f k=Qa0 us ((List.range n).filter fun i=>(p i&&decide (i<j))||decide (i=j)) f k:=by grind [QdB,Qa0,List.range,ap]
  rw [jO]
  have hsplit:(List.range n).filter (fun i=>(p i&&decide (i<j))||decide (i=j))=((List.range j).filter p)++ [j]:=by
   clear hr jO h e
   induction n with
   | zero=>omega
   | succ n ih=>grind [List.range_succ,List.filter,List.range,List.filter_congr,Nat.ne_of_lt,Qa0,ap]
  rw [hsplit,Qdi];show ap (us j) _ k=v;unfold ap;rw [e]
inductive Did where
 | skip
 | did (fp:List (Nat × Row)) (e:Ef)
def Did.v:Did->TV
 | .skip=> .tup []
 | .did _ e=>e.v
def Did.u:Did->Nat->Option (Option Row)
 | .skip,_=>none
 | .did _ e,n=>match QaW e.nw n with
  | some r=>some (some r)
  | none=>QaW e.up n
def evF (tm:Nat->TV):Operand->TV
 | .tmp t=>tm t
 | .const v=>QEY v
 | .func f=> .a (.s (.fn (.func f) []))
 | .global _=> .unk
def Qd2 (all:List Oper) (j:Nat):Option Nat:=match all[j]? with
 | some o=>o.dst
 | none=>none
theorem Qiv (ρ:Nm):VT ρ (.tup []) undef:=⟨#[],rfl,rfl,fun _ _ h=>by simp at h⟩
theorem Qmz {all:List Oper} {a:Act} {o:Oper} {g:Nat × Bool} {t:Nat} {ρ:Nm} {l:List AV} (hg:o.guard=some g) (vR:Qd2 all g.1=some t) (hv:VT ρ (.tup l) (a.tmps.getD t undef)):Region.wanted o (yielded all.toArray a.tmps)=false:=by
 obtain ⟨_,hv,_⟩:=hv
 have hy:yielded all.toArray a.tmps g.1=none:=by
  unfold yielded;have:(all.toArray[g.1]?).bind (·.dst)=some t:=by grind [Qd2,VT]
  rw [this]
  cases e:a.tmps[t]? with
  | none=>simp [e]
  | some v=>simp_all
 unfold Region.wanted;rw [hg];simp [hy]
theorem QwO {ρ:Nm} {tm:Nat->TV} {a:Act} (x:Operand) (h:∀ t,x= .tmp t->VT ρ (tm t) (a.tmps.getD t undef)):VT ρ (evF tm x) (a.eval x):=by
 cases x with
 | tmp t=>exact h t rfl
 | const v=>exact Qv0 ρ v
 | global g=>exact trivial
 | func f=>exact ⟨#[],rfl,rfl,fun k p e=>by simp at e⟩
def QvY (P:Program) (all:List Oper) (base i:Nat) (o:Oper) (d:Did) (tm:Nat->TV) (hp:Hp):Prop :=
 match d with
 | .did fp e=>(∀ g,o.guard=some g->∃ t,Qd2 all g.1=some t/\tm t= .a (.s (.bool g.2)))/\SemOp P o (evF tm) (base+Qap*i) fp (. =e)/\(∀ p∈fp,hp p.1=some p.2)/\QzS (base+Qap*i) fp e
 | .skip=>∃ g t,o.guard=some g/\Qd2 all g.1=some t/\((∃ b,tm t= .a (.s (.bool b))/\b≠g.2)\/∃ l,tm t= .tup l)
def uT (all:List Oper) (ds:List Did) (i:Nat):Nat->Option TV:=fun t=>match all[i]?,ds[i]? with
 | some o,some d=>match o.dst with
  | some t'=>if t=t' then some d.v else none
  | none=>none
 | _,_=>none
def uH (ds:List Did) (i:Nat):Nat->Option (Option Row):=fun n=>match ds[i]? with
 | some d=>d.u n
 | none=>none
def QdX (P:Program) (all:List Oper) (base:Nat) (ds:List Did) (tm:Nat->TV) (hp:Hp):Prop :=
 all.length=ds.length/\∀ (i:Nat) o d,all[i]?=some o->ds[i]?=some d->QvY P all base i o d (Qa0 (uT all ds) (List.range i) tm) (Qa0 (uH ds) (List.range i) hp)
def Qfq (o:Oper) (acc:List Nat):Nat:=o.after.toList.foldl (fun s e=>if Region.binds .any e then s ||| 2^e.on ||| acc.getD e.on 0 else s) 0
def QbJ:List Oper->List Nat->List Nat
 | [],acc=>acc
 | o::l,acc=>QbJ l (acc++ [Qfq o acc])
def Qc8 (all:List Oper) (L:Nat->Prop):Prop:=∀ i o,all[i]?=some o->L i->∀ e∈o.after,Region.binds .any e=true->L e.on
theorem Qtz (acc:List Nat) (i:Nat):∀ (l:List Edge) (s:Nat),(l.foldl (fun s e=>if Region.binds .any e then s ||| 2^e.on ||| acc.getD e.on 0 else s) s).testBit i=true ->
  s.testBit i=true\/∃ e∈l,Region.binds .any e=true/\(i=e.on\/(acc.getD e.on 0).testBit i=true):=by
 intro l
 induction l with
 | nil=>grind
 | cons e l ih=>grind
theorem QtK (all:List Oper) (L:Nat->Prop) (hL:Qc8 all L):∀ (l:List Oper) (acc:List Nat),(∃ pre,all=pre++l/\pre.length=acc.length)->(∀ k,L k->∀ i,(acc.getD k 0).testBit i=true->L i) ->
  ∀ k,L k->∀ i,((QbJ l acc).getD k 0).testBit i=true->L i:=by
 intro l
 induction l with
 | nil=>intro acc _ h;exact h
 | cons o l ih =>
  rintro acc ⟨pre,rfl,fC⟩ h;refine ih _ ⟨pre++ [o],by simp,by simp [fC]⟩ fun k hk i hi=>?_
  by_cases h1:k<acc.length
  .refine h k hk i ?_
   rw [List.getD_eq_getElem?_getD,List.getElem?_append_left h1,<- List.getD_eq_getElem?_getD] at hi;exact hi
  .by_cases h2:k=acc.length
   .subst h2
    have e1:(acc++ [Qfq o acc]).getD acc.length 0=Qfq o acc:=by simp [List.getD]
    rw [e1] at hi;rcases Qtz acc i _ _ hi with h3|⟨e,h3,h4,h5⟩
    .simp at h3
    .grind [Qc8,QbJ]
   .grind
def QnY (l m:List Nat):Bool:=l.all fun x=>m.all fun y=> !Nat.beq x y
def Did.rd:Did->List Nat
 | .skip=> []
 | .did fp _=>fp.map (·.1)
def Did.wr:Did->List Nat
 | .skip=> []
 | .did _ e=>e.up.map (·.1)++e.nw.map (·.1)
def Qdb (all:List Oper) (ds:List Did) (i j:Nat):Bool :=
 match all[i]?,all[j]?,ds[i]?,ds[j]? with
 | some x,some y,some d,some e=>x.apart all.toArray y&&QnY d.wr e.rd&&QnY e.wr d.rd
 | _,_,_,_=>true
def Qhj:List Oper->Nat->Bool
 | [],_=>true
 | o::l,i=>(o.after.toList.all fun e=> !Region.binds .any e||Nat.blt e.on i)&&Qhj l (i+1)
def Qd1 (all:List Oper) (ds:List Did):Bool :=
 Qhj all 0&&(List.range all.length).all fun j=>(List.range j).all fun i=>((QbJ all []).getD j 0).testBit i||Qdb all ds i j
theorem QsT:∀ (l:List Oper) (i:Nat),Qhj l i=true->∀ (j:Nat) o,l[j]?=some o->∀ e∈o.after,Region.binds .any e=true->e.on<i+j:=by
 intro l
 induction l with
 | nil=>grind
 | cons x l ih =>
  intro i h j o hj e he hb;unfold Qhj at h;rw [Bool.and_eq_true] at h
  cases j with
  | zero =>
   injection hj with hj;subst hj
   have:=List.all_eq_true.1 h.1 e (by simpa using he);rw [hb] at this;simpa using this
  | succ j=>grind
theorem QkB {l m:List Nat} (h:QnY l m=true) {x:Nat} (h1:x∈l) (h2:x∈m):False:=by grind [List.all_eq_true,Nat.beq_refl,QnY]
theorem QbD {α:Type} {l:List (Nat × α)} {n:Nat} {x:α} (h:QaW l n=some x):(n,x)∈l:=by
 induction l with
 | nil=>cases h
 | cons p l ih=>grind [QaW,Nat.beq,Nat.eq_of_beq_eq_true]
theorem QIF {d:Did} {n:Nat} (h:(d.u n).isSome=true):n∈d.wr:=by
 cases d with
 | skip=>cases h
 | did fp e =>
  unfold Did.u at h;unfold Did.wr;simp only [] at h
  cases e1:QaW e.nw n with
  | some r=>exact List.mem_append_right _ (List.mem_map.2 ⟨_,QbD e1,rfl⟩)
  | none =>
   rw [e1] at h
   cases e2:QaW e.up n with
   | some r=>exact List.mem_append_left _ (List.mem_map.2 ⟨_,QbD e2,rfl⟩)
   | none=>grind
theorem QuR (fp:List (Nat × Row)) (e:Ef) (hp:Hp):ap ((Did.did fp e).u) hp=e.app hp:=by
 funext n
 have h1:(Did.did fp e).u n=match QaW e.nw n with|some r=>some (some r)|none=>QaW e.up n:=rfl
 unfold ap Ef.app;rw [h1]
 cases QaW e.nw n with
 | some r=>rfl
 | none=>grind
section
variable {M:Nm->Prop} {P:Program} {F:Fr} {all:List Oper} {ds:List Did} {base N:Nat} {tm0:Nat->TV} {hp0:Hp} {Q:Exit->Act->World->Prop}
def lst (n:Nat) (listed:Array Bool):List Nat:=(List.range n).filter fun i=>listed.getD i false
structure Inv (M:Nm->Prop) (F:Fr) (all:List Oper) (ds:List Did) (base N:Nat) (tm0:Nat->TV) (hp0:Hp) (listed:Array Bool) (ρ:Nm) (a:Act) (w:World):Prop where
 size:listed.size=all.length
 closed:Qc8 all fun i=>listed.getD i false=true
 defers:a.defers= []
 tmps:a.tmps.size=N
 vals:∀ t,VT ρ (Qa0 (uT all ds) (lst all.length listed) tm0 t) (a.tmps.getD t undef)
 conc:Conc F ρ (Qa0 (uH ds) (lst all.length listed) hp0) w
 fresh:∀ j,j<all.length->listed.getD j false=false->∀ n,base+Qap*j<=n->n<base+Qap*j+Qap->ρ n=none
 names:M ρ
theorem QqM (hb:Qd1 all ds=true) {i j:Nat} (zC:i<j) (hj:j<all.length):((QbJ all []).getD j 0).testBit i=true\/Qdb all ds i j=true:=by simp_all [Qd1,Bool.and_eq_true,List.all_eq_true,QbJ,Qdb]
theorem QiO {L:Nat->Prop} (hL:Qc8 all L) {i j:Nat} (h:((QbJ all []).getD j 0).testBit i=true) (hj:L j):L i :=
 QtK all L hL all [] ⟨[],by simp,rfl⟩ (fun k _ i hi=>by simp at hi) j hj i h
theorem Qsx {listed:Array Bool} (hb:Qd1 all ds=true) (hc:Qc8 all fun i=>listed.getD i false=true) {i j:Nat} (hi:i<all.length) (hj:j<all.length) (fY:i≠j) (zE:listed.getD i false=(decide (j<i))) (zX:listed.getD j false=false)
  (HQ:∀ o,all[j]?=some o->∀ e∈o.after,Region.binds .any e=true->listed.getD e.on false=true) :
  Qdb all ds i j=true\/Qdb all ds j i=true:=by
 rcases Nat.lt_or_ge i j with h|h
 .
  rcases QqM hb h hj with h1|h1
  .exfalso
   have hL:Qc8 all fun k=>listed.getD k false=true\/k=j:=fun k o hk uP e he VY=>by grind [Qd1,Qc8,Qdb]
   rcases QiO hL h1 (.inr rfl) with h2|h2
   .grind
   .omega
  .grind
 .
  have gO:j<i:=by omega
  rcases QqM hb gO hi with h1|h1
  .grind [QiO,Qd1,Qc8,Qdb]
  .grind
theorem QvL {i:Nat} {t:Nat} (h:(uT all ds i t).isSome=true):∃ o,all[i]?=some o/\o.dst=some t:=by grind [uT]
theorem QrQ {i:Nat} {n:Nat} (h:(uH ds i n).isSome=true):∃ d,ds[i]?=some d/\n∈d.wr:=by grind [uH,QIF]
theorem QCP (vL:QdX P all base ds tm0 hp0) {i:Nat} {d:Did} (hd:ds[i]?=some d) {n:Nat} (hn:n∈d.wr):n∈d.rd\/(base+Qap*i<=n/\n<base+Qap*i+Qap):=by
 obtain ⟨o,ho⟩:∃ o,all[i]?=some o:=⟨_,List.getElem?_eq_getElem (by rw [vL.1];exact (List.getElem?_eq_some_iff.1 hd).1)⟩;have h:=vL.2 i o d ho hd
 cases d with
 | skip=>cases hn
 | did fp e =>
  obtain ⟨_,_,_,_,h2⟩:=h;unfold Did.wr at hn;rcases List.mem_append.1 hn with hn|hn
  .obtain ⟨p,hp,rfl⟩:=List.mem_map.1 hn
   obtain ⟨q,hq,e⟩:=h2 p hp;exact .inl (List.mem_map.2 ⟨q,hq,e⟩)
  .grind
theorem Qnj {listed:Array Bool} (vL:QdX P all base ds tm0 hp0) (hb:Qd1 all ds=true) (hc:Qc8 all fun i=>listed.getD i false=true) {j:Nat} {o:Oper} {d:Did} (ho:all[j]?=some o) (hd:ds[j]?=some d) (zX:listed.getD j false=false)
  (HQ:∀ e∈o.after,Region.binds .any e=true->listed.getD e.on false=true) :
  (∀ t,t∈o.looksAt all.toArray->Qa0 (uT all ds) (lst all.length listed) tm0 t=Qa0 (uT all ds) (List.range j) tm0 t) /\
  (∀ n,n∈d.rd->Qa0 (uH ds) (lst all.length listed) hp0 n=Qa0 (uH ds) (List.range j) hp0 n) /\
  (∀ i,i<all.length->j<i->listed.getD i false=true->(∀ t,(uT all ds j t).isSome=true->(uT all ds i t).isSome=false)/\(∀ n,(uH ds j n).isSome=true->(uH ds i n).isSome=false)):=by
 have gF:=vL.1;have hj:j<all.length:=(List.getElem?_eq_some_iff.1 ho).1;have hr:∀ o',all[j]?=some o'->∀ e∈o'.after,Region.binds .any e=true->listed.getD e.on false=true:=fun o' jR=>by rw [ho] at jR;injection jR with jR;subst jR;exact HQ
 have ap:∀ i o' d',i<all.length->i≠j->listed.getD i false=decide (j<i)->all[i]?=some o'->ds[i]?=some d' ->
   (∀ x,o'.dst=some x->x ∉ o.looksAt all.toArray)/\(∀ x,o'.dst=some x->o.dst≠some x)/\QnY d'.wr d.rd=true/\QnY d.wr d'.rd=true:=by
  intro i o' d' hi fY zE jR uM;rcases Qsx hb hc hi hj fY zE zX hr with h|h
  .unfold Qdb at h
   rw [jR,ho,uM,hd] at h;simp only [Bool.and_eq_true] at h;obtain ⟨h1,h2,_⟩:=Oper.apart_spec h.1.1;exact ⟨h1,h2,h.1.2,h.2⟩
  .unfold Qdb at h
   rw [ho,jR,hd,uM] at h;simp only [Bool.and_eq_true] at h;obtain ⟨_,h2,h3⟩:=Oper.apart_spec h.1.1;exact ⟨h3,fun x hx hx'=>h2 x hx' hx,h.2,h.1.2⟩
 refine ⟨fun t ht=>?_,fun n hn=>?_,fun i hi WD zE=>⟨fun t ht=>?_,fun n hn=>?_⟩⟩
 .rw [<- Qdp all.length j (by omega)]
  refine QdB _ t all.length _ _ tm0 fun i hi hu=>?_
  obtain ⟨o',jR,_⟩:=QvL hu
  by_cases zC:i=j
  .grind
  .grind
 .rw [<- Qdp all.length j (by omega)]
  refine QdB _ n all.length _ _ hp0 fun i hi hu=>?_
  obtain ⟨d',uM,_⟩:=QrQ hu
  by_cases zC:i=j
  .grind
  .grind [List.getElem?_eq_getElem,Nat.lt_or_ge,QkB,ap,QdX,Qd1,Qc8,Qa0,uT,lst,List.range,uH]
 .grind [List.getElem?_eq_getElem,ap,uT,QvL,QdX,Qd1,Qc8,Qa0,lst,List.range,uH]
 .obtain ⟨o',jR⟩:∃ o',all[i]?=some o':=⟨_,List.getElem?_eq_getElem hi⟩
  obtain ⟨d',uM⟩:∃ d',ds[i]?=some d':=⟨_,List.getElem?_eq_getElem (by omega)⟩;obtain ⟨_,_,h3,h4⟩:=ap i o' d' hi (by omega) (by rw [zE];simp;omega) jR uM
  cases e:(uH ds i n).isSome with
  | false=>rfl
  | true =>
   obtain ⟨_,JV,wF⟩:=QrQ e;obtain ⟨_,KJ,qW⟩:=QrQ hn;rw [uM] at JV;injection JV with JV;subst JV
   rw [hd] at KJ;injection KJ with KJ;subst KJ
   exfalso;rcases QCP vL hd qW with h5|h5
   .exact QkB h3 wF h5
   .rcases QCP vL uM wF with h6|h6
    .exact QkB h4 qW h6
    .have:Qap*j+Qap<=Qap*i:=by rw [<- Nat.mul_succ];exact Nat.mul_le_mul_left _ WD
     omega
theorem Qql {listed:Array Bool} {n j:Nat} (hs:listed.size=n) (hj:j<n):lst n (listed.setIfInBounds j true)=(List.range n).filter fun i=>listed.getD i false||decide (i=j):=by
 unfold lst;apply List.filter_congr;intro i hi;have hi:i<n:=by simpa using hi
 by_cases h:i=j
 .subst h;simp [hs,hi]
 .have:(listed.setIfInBounds j true).getD i false=listed.getD i false:=getD_set_ne false (fun e=>h e.symm)
  rw [this];simp [h]
theorem Qsw (hM:∀ j,j<all.length->∀ ρ ρ',M ρ->Ext ρ ρ'->(∀ n,¬ (base+Qap*j<=n/\n<base+Qap*j+Qap)->ρ' n=ρ n)->M ρ') (vL:QdX P all base ds tm0 hp0) (hb:Qd1 all ds=true) (HG:∀ (i:Nat) o d,all[i]?=some o->o.dst=some d->d<N) {listed:Array Bool} {ρ:Nm} {a:Act} {w:World} (h:Inv M F all ds base N tm0 hp0 listed ρ a w) {j:Nat}
  (hj:j∈Region.ready .any all.toArray listed) (K:Act->World->Prop) (hK:∀ ρ' a' w',Inv M F all ds base N tm0 hp0 (listed.setIfInBounds j true) ρ' a' w'->K a' w'):wpOp P all.toArray Q j K a w:=by
 obtain ⟨hl,o,ho,HQ⟩:=mem_ready.1 hj;have jR:all[j]?=some o:=by simpa using ho
 have yB:j<all.length:=(List.getElem?_eq_some_iff.1 jR).1
 have zX:listed.getD j false=false:=by
  have hs:j<listed.size:=by rw [h.size];exact yB
  simp [hs] at hl |-;exact hl
 obtain ⟨d,hd⟩:∃ d,ds[j]?=some d:=⟨_,List.getElem?_eq_getElem (by rw [<- vL.1];exact yB)⟩;obtain ⟨s1,s2,s3⟩:=Qnj (tm0:=tm0) (hp0:=hp0) vL hb h.closed jR hd zX HQ;have hok:=vL.2 j o d jR hd
 have next:∀ (ρ':Nm) (v:Value) (w':World),Ext ρ ρ'->(∀ n,¬ (base+Qap*j<=n/\n<base+Qap*j+Qap)->ρ' n=ρ n)->VT ρ' d.v v->Conc F ρ' (ap d.u (Qa0 (uH ds) (lst all.length listed) hp0)) w'->K (a.put o.dst v) w':=by
  intro ρ' v w' hx jA hv yZ;refine hK ρ' _ w' ⟨by simp [h.size],fun i o' hi zE e he VY=>?_,?_,?_,fun t=>?_,?_,fun i hi zE n h1 h2=>?_,hM j yB ρ ρ' h.names hx jA⟩
  .by_cases zC:i=j
   .subst zC
    rw [jR] at hi;injection hi with hi;subst hi
    exact getD_set_true (HQ e he VY)
   .have hli':(listed.setIfInBounds j true).getD i false=true:=zE
    rw [getD_set_ne false (fun e=>zC e.symm)] at hli';exact getD_set_true (h.closed i o' hi hli' e he VY)
  .cases o.dst<;>exact h.defers
  .cases JW:o.dst<;>simp [Act.put,h.tmps]
  .rw [Qql h.size yB,Qfm _ t all.length j _ tm0 yB zX (fun i hi WD zE hu=>(s3 i hi WD zE).1 t hu)]
   have hu:uT all ds j t=if o.dst=some t then some d.v else none:=by
    unfold uT;rw [jR,hd];simp only []
    cases JW:o.dst with
    | none=>simp
    | some t'=>simp only [Option.some.injEq];by_cases e:t=t'<;>simp [e];intro e';exact absurd e'.symm e
   unfold ap;rw [hu]
   by_cases vR:o.dst=some t
   .rw [if_pos vR]
    have gO:t<a.tmps.size:=by rw [h.tmps];exact HG j o t jR vR
    simp only [Act.put,vR];have:(a.tmps.setIfInBounds t v).getD t undef=v:=by simp [gO]
    rw [this];exact hv
   .rw [if_neg vR]
    have:(a.put o.dst v).tmps.getD t undef=a.tmps.getD t undef:=by
     cases JW:o.dst with
     | none=>rfl
     | some t' =>
      have fY:t'≠t:=by rintro rfl;exact vR JW
      simp [Act.put,Array.getElem?_setIfInBounds_ne fY]
    rw [this];exact (h.vals t).ext hx
  .have:Qa0 (uH ds) (lst all.length (listed.setIfInBounds j true)) hp0=ap d.u (Qa0 (uH ds) (lst all.length listed) hp0):=by
    funext n
    rw [Qql h.size yB,Qfm _ n all.length j _ hp0 yB zX (fun i hi WD zE hu=>(s3 i hi WD zE).2 n hu)];have:uH ds j=d.u:=by funext n;unfold uH;rw [hd]
    unfold lst;rw [this]
   rw [this];exact yZ
  .have zC:i≠j:=by
    rintro rfl;have hs:i<listed.size:=by rw [h.size];exact yB
    simp [hs] at zE
   rw [getD_set_ne false (fun e=>zC e.symm)] at zE
   have wM:¬ (base+Qap*j<=n/\n<base+Qap*j+Qap):=by
    rintro ⟨h3,h4⟩;rcases Nat.lt_or_ge i j with gO|HK
    .have:Qap*i+Qap<=Qap*j:=by rw [<- Nat.mul_succ];exact Nat.mul_le_mul_left _ gO
     omega
    .have:Qap*j+Qap<=Qap*i:=by rw [<- Nat.mul_succ];exact Nat.mul_le_mul_left _ (by omega)
     omega
   rw [jA n wM];exact h.fresh i hi zE n h1 h2
 have grd:∀ g t b,o.guard=some g->Qd2 all g.1=some t->Qa0 (uT all ds) (List.range j) tm0 t= .a (.s (.bool b))->Region.wanted o (yielded all.toArray a.tmps)=decide (b=g.2):=by
  intro g t b hg vR hv
  have yF:t∈o.looksAt all.toArray:=by
   unfold Oper.looksAt;refine List.mem_append_right _ ?_;rw [hg];unfold Qd2 at vR
   cases e:all[g.1]? with
   | none=>rw [e] at vR;cases vR
   | some og=>rw [e] at vR;simp [e,vR]
  have hval:=h.vals t;rw [s1 t yF,hv] at hval;have hval:a.tmps.getD t undef= .bool b:=hval
  have KS:a.tmps[t]?=some (.bool b):=by
   cases e:a.tmps[t]? with
   | none=>simp [e,undef] at hval
   | some v=>simp [e] at hval;rw [hval]
  have hy:yielded all.toArray a.tmps g.1=some b:=by
   unfold yielded
   have:(all.toArray[g.1]?).bind (·.dst)=some t:=by
    unfold Qd2 at vR
    cases e:all[g.1]? with
    | none=>rw [e] at vR;cases vR
    | some og=>rw [e] at vR;simp [e,vR]
   rw [this];simp [KS]
  unfold Region.wanted;rw [hg];simp only [hy];cases b<;>cases g.2<;>rfl
 unfold wpOp;simp only [ho]
 cases d with
 | skip =>
  have UD:Region.wanted o (yielded all.toArray a.tmps)=false:=by
   obtain ⟨g,t,hg,vR,⟨b,hv,fY⟩|⟨_,hv⟩⟩:=hok
   .rw [grd g t b hg vR hv,decide_eq_false fY]
   .have yF:t∈o.looksAt all.toArray:=by
     unfold Oper.looksAt;refine List.mem_append_right _ ?_;rw [hg];have HH:=vR;unfold Qd2 at HH
     cases e:all[g.1]? with
     | none=>rw [e] at HH;cases HH
     | some og=>rw [e] at HH;simp [e,HH]
    have hval:=h.vals t;rw [s1 t yF,hv] at hval;exact Qmz hg vR hval
  rw [UD];simp only [Bool.false_eq_true,if_false];refine next ρ undef w (Ext.refl _) (fun _ _=>rfl) (Qiv ρ) ?_
  have:ap Did.skip.u (Qa0 (uH ds) (lst all.length listed) hp0)=Qa0 (uH ds) (lst all.length listed) hp0:=by funext n;rfl
  rw [this];exact h.conc
 | did fp e =>
  obtain ⟨hg,hsem,hfp,_⟩:=hok
  have hw:Region.wanted o (yielded all.toArray a.tmps)=true:=by
   cases e1:o.guard with
   | none=>unfold Region.wanted;rw [e1]
   | some g =>
    obtain ⟨t,vR,hv⟩:=hg g e1;rw [grd g t g.2 e1 vR hv];simp
  rw [hw];simp only [if_true];left;refine hsem F ρ (Qa0 (uH ds) (lst all.length listed) hp0) a w Q K (fun x hx=>QwO x fun t ht=>?_) h.conc (fun p hp=>?_) (fun n h1 h2=>h.fresh j yB zX n h1 h2) (fun e' ρ' v w' he hx jA hv yZ=>?_)
  .have yF:t∈o.looksAt all.toArray:=by
    unfold Oper.looksAt;refine List.mem_append_left _ (List.mem_filterMap.2 ⟨.tmp t,by subst ht;simpa using hx,rfl⟩)
   rw [<- s1 t yF];exact h.vals t
  .rw [s2 p.1 (List.mem_map.2 ⟨p,hp,rfl⟩)];exact hfp p hp
  .subst he
   exact next ρ' v w' hx jA hv (by rw [QuR];exact yZ)
theorem QAx (hM:∀ j,j<all.length->∀ ρ ρ',M ρ->Ext ρ ρ'->(∀ n,¬ (base+Qap*j<=n/\n<base+Qap*j+Qap)->ρ' n=ρ n)->M ρ') (vL:QdX P all base ds tm0 hp0) (hb:Qd1 all ds=true) (HG:∀ (i:Nat) o d,all[i]?=some o->o.dst=some d->d<N)
  (hQ:∀ ρ a w,a.defers= []->a.tmps.size=N->(∀ t,VT ρ (Qa0 (uT all ds) (List.range all.length) tm0 t) (a.tmps.getD t undef))->Conc F ρ (Qa0 (uH ds) (List.range all.length) hp0) w->M ρ->Q .normal a w) :
  ∀ (fuel:Nat) (listed:Array Bool) (ρ:Nm) (a:Act) (w:World),Inv M F all ds base N tm0 hp0 listed ρ a w->((List.range all.length).filter fun i=> !listed.getD i false).length<=fuel->wpAny P .any all.toArray Q fuel listed a w:=by
 have full:∀ (listed:Array Bool) (ρ:Nm) (a:Act) (w:World),Inv M F all ds base N tm0 hp0 listed ρ a w->Region.ready .any all.toArray listed= []->Q .normal a w:=by
  intro listed ρ a w h hr
  have GN:∀ n,∀ i,i<n->i<all.length->listed.getD i false=true:=by
   intro n
   induction n with
   | zero=>intro i hi;omega
   | succ n ih =>
    intro i hi KU
    cases hl:listed.getD i false with
    | true=>rfl
    | false =>
     exfalso;obtain ⟨o,ho⟩:∃ o,all[i]?=some o:=⟨_,List.getElem?_eq_getElem KU⟩;have hE:=(Bool.and_eq_true _ _ ▸ hb:Qhj all 0=true/\_).1
     have:i∈Region.ready .any all.toArray listed:=by
      refine mem_ready.2 ⟨?_,o,by simpa using ho,fun e he VY=>?_⟩
      .have hs:i<listed.size:=by rw [h.size];exact KU
       simp [hs] at hl |-;exact hl
      .have:=QsT all 0 hE i o ho e he VY
       exact ih e.on (by omega) (by omega)
     rw [hr] at this;cases this
  have hlst:lst all.length listed=List.range all.length:=by
   unfold lst;exact List.filter_eq_self.2 fun i hi=>GN (i+1) i (by omega) (by simpa using hi)
  refine hQ ρ a w h.defers h.tmps (fun t=>?_) ?_ h.names
  .rw [<- hlst];exact h.vals t
  .rw [<- hlst];exact h.conc
 intro fuel
 induction fuel with
 | zero =>
  intro listed ρ a w h hf
  have zH:Region.ready .any all.toArray listed= []:=by
   apply List.eq_nil_iff_forall_not_mem.2;intro j hj;obtain ⟨hl,o,ho,_⟩:=mem_ready.1 hj;have jR:all[j]?=some o:=by simpa using ho
   have yB:j<all.length:=(List.getElem?_eq_some_iff.1 jR).1;have hs:j<listed.size:=by rw [h.size];exact yB
   have:j∈(List.range all.length).filter fun i=> !listed.getD i false:=by
    refine List.mem_filter.2 ⟨by simpa using yB,?_⟩;simp [hs] at hl |-;exact hl
   rw [List.eq_nil_of_length_eq_zero (Nat.le_zero.1 hf)] at this;cases this
  exact ⟨zH,full listed ρ a w h zH⟩
 | succ fuel ih =>
  intro listed ρ a w h hf;refine ⟨fun hr=>full listed ρ a w h hr,fun j hj=>?_⟩;refine Qsw hM vL hb HG h hj _ fun ρ' a' w' h'=>ih _ ρ' a' w' h' ?_
  obtain ⟨hl,o,ho,_⟩:=mem_ready.1 hj;have jR:all[j]?=some o:=by simpa using ho
  have yB:j<all.length:=(List.getElem?_eq_some_iff.1 jR).1;have hs:j<listed.size:=by rw [h.size];exact yB
  have zX:listed.getD j false=false:=by simp [hs] at hl |-;exact hl
  have gO:((List.range all.length).filter fun i=> !(listed.setIfInBounds j true).getD i false).length<((List.range all.length).filter fun i=> !listed.getD i false).length:=by
   have e:(List.range all.length).filter (fun i=> !(listed.setIfInBounds j true).getD i false)=((List.range all.length).filter fun i=> !listed.getD i false).filter fun i=>decide (i≠j):=by
    rw [List.filter_filter];apply List.filter_congr;intro i hi
    by_cases zC:i=j
    .subst zC;simp [hs]
    .rw [getD_set_ne false (fun e=>zC e.symm)];simp [zC]
   rw [e];exact List.length_filter_lt_length_iff_exists.2 ⟨j,List.mem_filter.2 ⟨by simpa using yB,by rw [zX];rfl⟩,by simp⟩
  omega
end
abbrev Tm:=List (Nat × TV)
def tmG (tm:Tm):Nat->TV:=fun t=>match QaW tm t with
 | some v=>v
 | none=> .unk
abbrev Hl:=List (Nat × Option Row)
def hpG (h:Hl):Hp:=fun n=>match QaW h n with
 | some r=>r
 | none=>none
def QB2 (tm:Tm) (d:Option Nat) (v:TV):Tm:=match d with
 | some d=>(d,v)::tm
 | none=>tm
def nwL:List (Nat × Row)->Hl->Hl
 | [],h=>h
 | p::l,h=>(p.1,some p.2)::nwL l h
def upL:List (Nat × Option Row)->Hl->Hl
 | [],h=>h
 | p::l,h=>p::upL l h
def QEe (e:Ef) (h:Hl):Hl:=nwL e.nw (upL e.up h)
theorem QaY {α:Type} (m:Nat) (x:α) (l:List (Nat × α)) (n:Nat):QaW ((m,x)::l) n=if n=m then some x else QaW l n:=by
 show (match Nat.beq n m with|true=>some x|false=>QaW l n)=_
 cases hb:Nat.beq n m with
 | true=>rw [if_pos (Nat.eq_of_beq_eq_true hb)]
 | false=>rw [if_neg (Nat.ne_of_beq_eq_false hb)]
theorem Qbs (n:Nat) (r:Option Row) (h:Hl):hpG ((n,r)::h)=Hp.set (hpG h) n r:=by
 funext m
 unfold hpG Hp.set;rw [QaY]
 by_cases hb:m=n<;>simp [hb]
theorem Qp4 (u:List (Nat × Option Row)) (h:Hl) (n:Nat):hpG (upL u h) n=match QaW u n with|some r=>r|none=>hpG h n:=by
 induction u with
 | nil=>rfl
 | cons p u ih =>
  obtain ⟨m,r⟩:=p;show hpG ((m,r)::upL u h) n=_;rw [Qbs,QaY];unfold Hp.set
  by_cases hb:n=m
  .rw [if_pos hb,if_pos hb]
  .rw [if_neg hb,if_neg hb,ih]
theorem Qp3 (e:Ef) (h:Hl):hpG (QEe e h)=e.app (hpG h):=by
 funext n
 unfold QEe Ef.app;generalize e.nw=nw
 induction nw with
 | nil=>exact Qp4 _ _ _
 | cons p nw ih =>
  obtain ⟨m,r⟩:=p;show hpG ((m,some r)::nwL nw (upL e.up h)) n=_;rw [Qbs,QaY];unfold Hp.set
  by_cases hb:n=m
  .rw [if_pos hb,if_pos hb]
  .rw [if_neg hb,if_neg hb,ih]
theorem Qcd (t:Nat) (v:TV) (tm:Tm) (k:Nat):tmG ((t,v)::tm) k=if k=t then v else tmG tm k:=by
 unfold tmG;rw [QaY]
 by_cases hb:k=t<;>simp [hb]
theorem QdN (t:Nat) (v:TV) (tm:Tm) (h:tmG tm t=v):tmG ((t,v)::tm)=tmG tm:=by
 funext k
 rw [Qcd];split
 .rename_i e;subst e;exact h.symm
 .rfl
def upK:List (Nat × Option Row)->Hl->(Hl->Prop)->Prop
 | [],h,K=>K h
 | p::l,h,K=>upK l h fun h=>K (p::h)
def nwK:List (Nat × Row)->Hl->(Hl->Prop)->Prop
 | [],h,K=>K h
 | p::l,h,K=>nwK l h fun h=>K ((p.1,some p.2)::h)
theorem QrV:∀ (l:List (Nat × Option Row)) (h:Hl) (K:Hl->Prop),upK l h K↔K (upL l h)
 | [],_,_=>Iff.rfl
 | _::l,h,_=>QrV l h _
theorem QqD:∀ (l:List (Nat × Row)) (h:Hl) (K:Hl->Prop),nwK l h K↔K (nwL l h)
 | [],_,_=>Iff.rfl
 | _::l,h,_=>QqD l h _
def QtN (tm:Tm) (d:Option Nat) (v:TV) (K:Tm->Prop):Prop:=fT v fun v=>match d with
 | some d=>K ((d,v)::tm)
 | none=>K tm
theorem Qb9 (tm:Tm) (d:Option Nat) (v:TV) (K:Tm->Prop):QtN tm d v K↔K (QB2 tm d v):=by
 unfold QtN;rw [QA7];cases d<;>exact Iff.rfl
def Qv5 (e:Ef) (h:Hl) (K:Hl->Prop):Prop:=upK e.up h fun h=>nwK e.nw h K
theorem QhK (e:Ef) (h:Hl) (K:Hl->Prop):Qv5 e h K↔K (QEe e h):=by unfold Qv5;rw [QrV,QqD];exact Iff.rfl
def fN (n:Nat) (K:Nat->Prop):Prop:=match n with
 | 0=>K 0
 | m+1=>K (m+1)
theorem Qcn (n:Nat) (K:Nat->Prop):fN n K↔K n:=by cases n<;>exact Iff.rfl
def Qj9 (det:Bool) (d:Did) (l:List Did) (K:List Did->Prop):Prop:=match det with
 | true=>K (d::l)
 | false=>K l
def Qr7 (P:Program) (T:Tys) (det:Bool) (all:List Oper) (base:Nat) (o:Oper) (ih:Nat->Tm->Hl->List Did->(Tm->Hl->List Did->Prop)->Prop) (i:Nat) (tm:Tm) (h:Hl) (rec:List Did) (K:Tm->Hl->List Did->Prop):Prop :=
 match o.guard with
  | none=>vop P T det o (evF (tmG tm)) (hpG h) (base+Qap*i) fun fp e=>QtN tm o.dst e.v fun tm=>Qv5 e h fun h=>Qj9 det (.did fp e) rec fun rec=>fN (i+1) fun i=>ih i tm h rec K
  | some (j,want)=>match Qd2 all j with
   | some t=>(match tmG tm t with
    | .a (.s (.bool b)) =>
     fB (!want) fun nw=>Gd b want nw (vop P T det o (evF (tmG ((t,.a (.s (.bool want)))::tm))) (hpG h) (base+Qap*i) fun fp e=>QtN ((t,.a (.s (.bool want)))::tm) o.dst e.v fun tm=>Qv5 e h fun h=>Qj9 det (.did fp e) rec fun rec=>fN (i+1) fun i =>
      ih i tm h rec K)
     (QtN ((t,.a (.s (.bool nw)))::tm) o.dst (.tup []) fun tm=>Qj9 det .skip rec fun rec=>fN (i+1) fun i=>ih i tm h rec K)
    | .tup _=>QtN tm o.dst (.tup []) fun tm=>Qj9 det .skip rec fun rec=>fN (i+1) fun i=>ih i tm h rec K
    | _=>False)
   | none=>False
noncomputable def Qr6 (P:Program) (T:Tys) (det:Bool) (all:List Oper) (base:Nat) (i:Nat) (l:List Oper):Tm->Hl->List Did->(Tm->Hl->List Did->Prop)->Prop :=
 List.rec (motive:=fun _=>Nat->Tm->Hl->List Did->(Tm->Hl->List Did->Prop)->Prop) (fun _ tm h rec K=>K tm h rec) (fun o _ ih=>Qr7 P T det all base o ih) l i
theorem QgU {P:Program} {T:Tys} {det:Bool} {all:List Oper} {base i:Nat} {o:Oper} {rest:List Oper} {tm:Tm} {h:Hl} {rec:List Did} {K:Tm->Hl->List Did->Prop} :
  Qr6 P T det all base i (o::rest) tm h rec K=Qr7 P T det all base o (fun i=>Qr6 P T det all base i rest) i tm h rec K:=rfl
def u1 (o:Oper) (d:Did):Nat->Option TV:=fun t=>match o.dst with
 | some t'=>if t=t' then some d.v else none
 | none=>none
theorem QkU (tm:Tm) (o:Oper) (d:Did):tmG (QB2 tm o.dst d.v)=ap (u1 o d) (tmG tm):=by
 funext t
 unfold QB2 ap u1
 cases o.dst with
 | none=>rfl
 | some t' =>
  simp only [];rw [Qcd]
  by_cases h:t=t'<;>simp [h]
def QiC (P:Program) (all:List Oper) (base:Nat):Nat->List Oper->List Did->(Nat->TV)->Hp->(Nat->TV)->Hp->Prop
 | _,[],[],tm,hp,tm',fP=>tm'=tm/\fP=hp
 | i,o::rest,d::ds,tm,hp,tm',fP=>QvY P all base i o d tm hp/\QiC P all base (i+1) rest ds (ap (u1 o d) tm) (ap d.u hp) tm' fP
 | _,_,_,_,_,_,_=>False
theorem QnN {P:Program} {T:Tys} (hT:QaU P T) {all:List Oper} {base:Nat} {K:Tm->Hl->List Did->Prop}:∀ (rest:List Oper) (i:Nat) (tm:Tm) (h:Hl) (rec:List Did),Qr6 P T true all base i rest tm h rec K ->
  ∃ ds tm' h',QiC P all base i rest ds (tmG tm) (hpG h) (tmG tm') (hpG h')/\K tm' h' (ds.reverse++rec):=by
 intro rest
 induction rest with
 | nil=>intro i tm h rec hv;exact ⟨[],tm,h,⟨rfl,rfl⟩,hv⟩
 | cons o rest ih =>
  intro i tm h rec hv
  have step:∀ tm1:Tm,tmG tm1=tmG tm->(∀ g,o.guard=some g->∃ t,Qd2 all g.1=some t/\tmG tm t= .a (.s (.bool g.2))) ->
    vop P T true o (evF (tmG tm1)) (hpG h) (base+Qap*i) (fun fp e=>QtN tm1 o.dst e.v fun tm=>Qv5 e h fun h=>Qj9 true (.did fp e) rec fun rec=>fN (i+1) fun i=>Qr6 P T true all base i rest tm h rec K) ->
    ∃ ds tm' h',QiC P all base i (o::rest) ds (tmG tm) (hpG h) (tmG tm') (hpG h')/\K tm' h' (ds.reverse++rec):=by
   intro tm1 HT hg uD;obtain ⟨fp,_,h1,h2,h3,h4⟩:=QjX hT uD;obtain ⟨e,rfl⟩:=h4 rfl;obtain ⟨h5,h6⟩:=h3 e rfl;simp only [Qb9,QhK,Qj9,Qcn] at h6;obtain ⟨ds,tm',h',h7,h8⟩:=ih _ _ _ _ h6;refine ⟨.did fp e::ds,tm',h',⟨⟨hg,by rw [<- HT];exact h1,h2,h5⟩,?_⟩,by simpa using h8⟩;rw [<- HT,QuR,<- Qp3];have:=QkU tm1 o (.did fp e);rw [<- this];exact h7
  rw [QgU] at hv;unfold Qr7 at hv
  cases hg:o.guard with
  | none=>rw [hg] at hv;exact step tm rfl (fun g e=>by rw [hg] at e;cases e) hv
  | some g =>
   rw [hg] at hv;obtain ⟨g1,g2⟩:=g;simp only [] at hv
   cases hd:Qd2 all g1 with
   | none=>rw [hd] at hv;exact hv.elim
   | some t =>
    rw [hd] at hv;simp only [] at hv;split at hv
    .rename_i b hb
     rw [QpH] at hv;obtain ⟨WJ,uU⟩:=hv
     by_cases e:b=g2
     .subst e
      exact step _ (QdN _ _ _ hb) (fun g' e=>by rw [hg] at e;injection e with e;subst e;exact ⟨t,hd,hb⟩) (WJ rfl)
     .have e2:b= !g2:=by cases b<;>cases g2<;>simp_all
      replace uU:=uU e2;simp only [Qb9,Qj9,Qcn] at uU;obtain ⟨ds,tm',h',h7,h8⟩:=ih _ _ _ _ uU;refine ⟨.skip::ds,tm',h',⟨⟨(g1,g2),t,hg,hd,.inl ⟨b,hb,e⟩⟩,?_⟩,by simpa using h8⟩;have h9:=QkU ((t,.a (.s (.bool !g2)))::tm) o .skip;rw [QdN _ _ _ (by rw [hb,e2])] at h9;have jL:ap Did.skip.u (hpG h)=hpG h:=by funext n;rfl
      rw [<- h9,jL];exact h7
    .rename_i l hb
     simp only [Qb9,Qj9,Qcn] at hv;obtain ⟨ds,tm',h',h7,h8⟩:=ih _ _ _ _ hv;refine ⟨.skip::ds,tm',h',⟨⟨(g1,g2),t,hg,hd,.inr ⟨l,hb⟩⟩,?_⟩,by simpa using h8⟩;have h9:=QkU tm o .skip;have jL:ap Did.skip.u (hpG h)=hpG h:=by funext n;rfl
     rw [<- h9,jL];exact h7
    .exact hv.elim
theorem QiQ {P:Program} {all:List Oper} {base:Nat}:∀ (rest:List Oper) (i:Nat) (ds:List Did) (tm:Nat->TV) (hp:Hp) (tm':Nat->TV) (fP:Hp),QiC P all base i rest ds tm hp tm' fP->rest.length=ds.length
 | [],_,[],_,_,_,_,_=>rfl
 | o::rest,i,d::ds,tm,hp,tm',fP,h=>by have:=QiQ rest _ ds _ _ _ _ h.2;simp [this]
 | [],_,_::_,_,_,_,_,h=>h.elim
 | _::_,_,[],_,_,_,_,h=>h.elim
theorem QlE {P:Program} {all:List Oper} {base:Nat} {tm0:Nat->TV} {hp0:Hp} {dsA:List Did}:∀ (rest:List Oper) (i:Nat) (ds:List Did) (tm:Nat->TV) (hp:Hp) (tm':Nat->TV) (fP:Hp),QiC P all base i rest ds tm hp tm' fP ->
  (∀ k,rest[k]?=all[i+k]?)->(∀ k,ds[k]?=dsA[i+k]?)->tm=Qa0 (uT all dsA) (List.range i) tm0->hp=Qa0 (uH dsA) (List.range i) hp0 ->
  (∀ (k:Nat) o d,rest[k]?=some o->ds[k]?=some d->QvY P all base (i+k) o d (Qa0 (uT all dsA) (List.range (i+k)) tm0) (Qa0 (uH dsA) (List.range (i+k)) hp0)) /\
  tm'=Qa0 (uT all dsA) (List.range (i+rest.length)) tm0/\fP=Qa0 (uH dsA) (List.range (i+rest.length)) hp0
 | [],i,[],tm,hp,tm',fP,h,_,_,h1,h2=>⟨fun k o d e=>by simp at e,by rw [h.1,h1];simp,by rw [h.2,h2];simp⟩
 | o::rest,i,d::ds,tm,hp,tm',fP,h,e1,e2,h1,h2=>by
  have ho:all[i]?=some o:=by have:=e1 0;simpa using this.symm
  have hd:dsA[i]?=some d:=by have:=e2 0;simpa using this.symm
  have uT1:uT all dsA i=u1 o d:=by
   funext t
   unfold uT;rw [ho,hd];rfl
  have uH1:uH dsA i=d.u:=by funext n;unfold uH;rw [hd]
  obtain ⟨g1,g2,g3⟩:=QlE (tm0:=tm0) (hp0:=hp0) rest (i+1) ds _ _ tm' fP h.2 (fun k=>by have:=e1 (k+1);rw [List.getElem?_cons_succ] at this;rw [this];congr 1;omega) (fun k=>by have:=e2 (k+1);rw [List.getElem?_cons_succ] at this;rw [this];congr 1;omega)
   (by rw [List.range_succ,Qdi,<- h1];show _=ap (uT all dsA i) tm;rw [uT1]) (by rw [List.range_succ,Qdi,<- h2];show _=ap (uH dsA i) hp;rw [uH1])
  refine ⟨fun k o' d' jR uM=>?_,by rw [g2];congr 2;simp;omega,by rw [g3];congr 2;simp;omega⟩
  cases k with
  | zero =>
   injection jR with jR;injection uM with uM;subst jR uM
   rw [Nat.add_zero,<- h1,<- h2];exact h.1
  | succ k =>
   have:=g1 k o' d' jR uM;rw [show i+(k+1)=i+1+k by omega];exact this
 | [],_,_::_,_,_,_,_,h,_,_,_,_=>h.elim
 | _::_,_,[],_,_,_,_,h,_,_,_,_=>h.elim
structure St where
 (tm:Tm) (h:Hl) (ids:List Nat)
def Qei:Nat:=65536
structure Gm where
 (ρ0:Nm) (k:Nat)
structure Rel (G:Gm) (F:Fr) (N:Nat) (σ:St) (ρ:Nm) (a:Act) (w:World):Prop where
 defers:a.defers= []
 tmps:a.tmps.size=N
 vals:∀ t,VT ρ (tmG σ.tm t) (a.tmps.getD t undef)
 conc:Conc F ρ (hpG σ.h) w
 ids:∀ n,ρ n≠none->n / Qei∈σ.ids
 ext:Ext G.ρ0 ρ
 dom:∀ n,G.k<=n->G.ρ0 n=none
def Qu6 (N:Nat):List Oper->Bool
 | []=>true
 | o::l=>(match o.dst with|some d=>Nat.blt d N|none=>true)&&Qu6 N l
theorem Qo1 {N:Nat}:∀ {l:List Oper},Qu6 N l=true->∀ (i:Nat) o d,l[i]?=some o->o.dst=some d->d<N:=by
 intro l
 induction l with
 | nil=>intro _ i o d h;cases h
 | cons x l ih =>
  intro h i o d hi hd;unfold Qu6 at h;rw [Bool.and_eq_true] at h
  cases i with
  | zero =>
   injection hi with hi;subst hi
   rw [hd] at h;simpa using h.1
  | succ i=>exact ih h.2 i o d hi hd
def QcW (n:Nat):List Nat->Bool
 | []=>false
 | m::l=>match Nat.beq n m with
  | true=>true
  | false=>QcW n l
theorem Qgz {n:Nat}:∀ {l:List Nat},QcW n l=false->n ∉ l:=by
 intro l
 induction l with
 | nil=>intro _ h;cases h
 | cons m l ih =>
  intro h hm;unfold QcW at h
  cases e:Nat.beq n m with
  | true=>rw [e] at h;cases h
  | false =>
   rw [e] at h;rcases List.mem_cons.1 hm with rfl|hm
   .rw [Nat.beq_refl] at e;cases e
   .exact ih h hm
def hdN:List Nat->Nat
 | []=>0
 | n::_=>n
noncomputable def Qdw (P:Program) (T:Tys) (N:Nat) (id:Nat) (ops:List Oper) (draw:Bool) (σ:St) (Q:St->Prop):Prop :=
 match σ with
 | ⟨tm,h,ids⟩=>match QcW (id+1) ids with
  | true=>False
  | false=>match Qu6 N ops&&Nat.ble ops.length 1024 with
   | false=>False
   | true=>match draw with
    | false=>Qr6 P T false ops (Qei*(id+1)) 0 ops tm h [] fun tm h _=>Q ⟨tm,h,(id+1)::ids⟩
    | true=>Qr6 P T true ops (Qei*(id+1)) 0 ops tm h [] fun tm h rec=>Sd (Qd1 ops rec.reverse=true) (Q ⟨tm,h,(id+1)::ids⟩)
theorem QkQ {id n i L:Nat} (hL:L<=1024) (hi:i<L) (h1:Qei*(id+1)+Qap*i<=n) (h2:n<Qei*(id+1)+Qap*i+Qap):n / Qei=id+1:=by
 have:Qap*i+Qap<=Qei:=by
  have:Qap*i+Qap=Qap*(i+1):=by rw [Nat.mul_succ]
  rw [this];have:Qap*(i+1)<=Qap*1024:=Nat.mul_le_mul_left _ (by omega);unfold Qap Qei at *;omega
 refine Nat.div_eq_of_lt_le ?_ ?_
 .rw [Nat.mul_comm];omega
 .have:(id+1+1)*Qei=Qei*(id+1)+Qei:=by rw [Nat.add_mul,Nat.one_mul,Nat.mul_comm]
  rw [this];omega
theorem Qho {id j L:Nat} {ids:List Nat} {ρ ρ':Nm} (hL:L<=1024) (hj:j<L) (h:∀ n,ρ n≠none->n / Qei∈(id+1)::ids) (hf:∀ n,¬ (Qei*(id+1)+Qap*j<=n/\n<Qei*(id+1)+Qap*j+Qap)->ρ' n=ρ n) (n:Nat) (hn:ρ' n≠none):n / Qei∈(id+1)::ids:=by
 by_cases hr:Qei*(id+1)+Qap*j<=n/\n<Qei*(id+1)+Qap*j+Qap
 .rw [QkQ hL hj hr.1 hr.2];simp
 .rw [hf n hr] at hn;exact h n hn
theorem Qk0 {id':Nat} {P:Program} (hm:P.follows .mixedOrders=true) {T:Tys} (hT:QaU P T) {G:Gm} {F:Fr} {N id:Nat} {ops:Array Oper} {σ:St} {ρ:Nm} {a:Act} {w:World} {Q:Exit->Act->World->Prop} {K:St->Prop} (hr:Rel G F N σ ρ a w)
  (hv:Qdw P T N id ops.toList true σ K) (hQ:∀ σ' ρ' a' w',K σ'->Rel G F N σ' ρ' a' w'->Q .normal a' w'):(Code.region id' ops true).wp P Q a w:=by
 obtain ⟨tm,h,ids⟩:=σ;unfold Qdw at hv;simp only [] at hv
 cases e1:QcW (id+1) ids with
 | true=>rw [e1] at hv;exact hv.elim
 | false =>
  rw [e1] at hv;simp only [] at hv
  cases e2:(Qu6 N ops.toList&&Nat.ble ops.toList.length 1024) with
  | false=>rw [e2] at hv;exact hv.elim
  | true =>
   rw [e2] at hv;simp only [] at hv;rw [Bool.and_eq_true] at e2;have hL:=Nat.le_of_ble_eq_true e2.2
   have wT:∀ n,n / Qei=id+1->ρ n=none:=fun n hn=>by
    cases e:ρ n with
    | none=>rfl
    | some p=>exact absurd (hn ▸ hr.ids n (by rw [e];simp)) (Qgz e1)
   obtain ⟨ds,tm',h',h1,h2⟩:=QnN hT _ _ _ _ _ hv;have gF:=QiQ _ _ _ _ _ _ _ h1;obtain ⟨g1,g2,g3⟩:=QlE (tm0:=tmG tm) (hp0:=hpG h) (dsA:=ds) _ _ _ _ _ _ _ h1 (fun k=>by simp) (fun k=>by simp) rfl rfl;simp only [Nat.zero_add] at g1 g2 g3;have vL:QdX P ops.toList (Qei*(id+1)) ds (tmG tm) (hpG h):=⟨gF,fun i o d ho hd=>g1 i o d ho hd⟩;simp only [List.append_nil,List.reverse_reverse] at h2;obtain ⟨h2,h2'⟩:=h2;refine wp_region_any hm ?_;have jD:ops.toList.toArray=ops:=by simp
   have zH:lst ops.toList.length (Array.replicate ops.size false)= []:=by
    unfold lst;apply List.filter_eq_nil_iff.2;intro i hi;have:i<ops.size:=by simpa using hi
    simp [this]
   have key:=QAx (M:=fun ρ=>(∀ n,ρ n≠none->n / Qei∈(id+1)::ids)/\Ext G.ρ0 ρ) (P:=P) (F:=F) (Q:=Q) (N:=N) (fun j hj ρ ρ' h hx hf=>⟨fun n hn=>Qho hL hj h.1 hf n hn,h.2.trans hx⟩) vL h2 (Qo1 e2.1)
    (fun ρ' a' w' k1 k2 k3 k4 k5=>hQ ⟨tm',h',(id+1)::ids⟩ ρ' a' w' h2' ⟨k1,k2,fun t=>by rw [g2];exact k3 t,by rw [g3];exact k4,k5.1,k5.2,hr.dom⟩)
    ops.size (Array.replicate ops.size false) ρ a { w with drawn:=w.drawn+1 } ⟨by simp,fun i o _ hl=>?_,hr.defers,hr.tmps,fun t=>?_,?_,fun j hj _ n h3 h4=>wT n (QkQ hL hj h3 h4),⟨fun n hn=>List.mem_cons_of_mem _ (hr.ids n hn),hr.ext⟩⟩ (Nat.le_trans (List.length_filter_le _ _) (by simp))
   .rw [jD] at key;exact key
   .exfalso
    have hl':(Array.replicate ops.size false).getD i false=true:=hl
    by_cases hi:i<ops.size<;>simp [hi] at hl'
   .rw [zH];exact hr.vals t
   .rw [zH];exact hr.conc.same rfl rfl rfl rfl
structure RelM (M:Nm->Prop) (F:Fr) (N:Nat) (tm:Tm) (h:Hl) (ρ:Nm) (a:Act) (w:World):Prop where
 defers:a.defers= []
 tmps:a.tmps.size=N
 vals:∀ t,VT ρ (tmG tm t) (a.tmps.getD t undef)
 conc:Conc F ρ (hpG h) w
 names:M ρ
theorem QuA {M:Nm->Prop} {P:Program} {T:Tys} (hT:QaU P T) {F:Fr} {N base:Nat} {all:List Oper} {K:Tm->Hl->List Did->Prop} {Q:Exit->Act->World->Prop} (HG:Qu6 N all=true) (hM:∀ j,j<all.length->∀ ρ ρ',M ρ->Ext ρ ρ'->(∀ n,¬ (base+Qap*j<=n/\n<base+Qap*j+Qap)->ρ' n=ρ n)->M ρ')
  (hK:∀ tm' h' rec' ρ' a' w',K tm' h' rec'->RelM M F N tm' h' ρ' a' w'->Q .normal a' w') :
  ∀ (rest:List Oper) (i:Nat) (tm:Tm) (h:Hl) (rec:List Did) (ρ:Nm) (a:Act) (w:World),Qr6 P T false all base i rest tm h rec K->(∀ k,rest[k]?=all[i+k]?)->RelM M F N tm h ρ a w ->
   (∀ j,i<=j->j<all.length->∀ n,base+Qap*j<=n->n<base+Qap*j+Qap->ρ n=none)->wpOps P all.toArray Q (List.range' i rest.length) a w:=by
 intro rest
 induction rest with
 | nil=>intro i tm h rec ρ a w hv _ hr _;exact hK _ _ _ _ _ _ hv hr
 | cons o rest ih =>
  intro i tm h rec ρ a w hv jB hr jA;have ho:all[i]?=some o:=by have:=jB 0;simpa using this.symm
  have KU:i<all.length:=(List.getElem?_eq_some_iff.1 ho).1;have hrest':∀ k,rest[k]?=all[i+1+k]?:=fun k=>by have:=jB (k+1);rw [List.getElem?_cons_succ] at this;rw [this];congr 1;omega
  show wpOps P all.toArray Q (i::List.range' (i+1) rest.length) a w;rw [wpOps_cons];unfold wpOp;have jR:all.toArray[i]?=some o:=by simpa using ho
  simp only [jR]
  have next:∀ (tm1:Tm) (x:TV) (h1:Hl) (rec1:List Did) (ρ':Nm) (v:Value) (w':World),tmG tm1=tmG tm->Qr6 P T false all base (i+1) rest (QB2 tm1 o.dst x) h1 rec1 K->Ext ρ ρ'->(∀ n,¬ (base+Qap*i<=n/\n<base+Qap*i+Qap)->ρ' n=ρ n) ->
    VT ρ' x v->Conc F ρ' (hpG h1) w'->wpOps P all.toArray Q (List.range' (i+1) rest.length) (a.put o.dst v) w':=by
   intro tm1 x h1 rec1 ρ' v w' HT hv' hx hf UP hc;refine ih (i+1) _ _ _ ρ' _ w' hv' hrest' ⟨?_,?_,fun t=>?_,hc,hM i KU ρ ρ' hr.names hx hf⟩ (fun j hj yB n k1 k2=>?_)
   .cases o.dst<;>exact hr.defers
   .cases JW:o.dst<;>simp [Act.put,hr.tmps]
   .cases JW:o.dst with
    | none=>show VT ρ' (tmG tm1 t) _;rw [HT];exact (hr.vals t).ext hx
    | some t' =>
     show VT ρ' (tmG ((t',x)::tm1) t) _;rw [Qcd]
     by_cases ht:t=t'
     .subst ht
      rw [if_pos rfl];have gO:t<a.tmps.size:=by rw [hr.tmps];exact Qo1 HG i o t ho JW
      have:(a.put (some t) v).tmps.getD t undef=v:=by simp [Act.put,gO]
      rw [this];exact UP
     .rw [if_neg ht,HT]
      have:(a.put (some t') v).tmps.getD t undef=a.tmps.getD t undef:=by simp [Act.put,Array.getElem?_setIfInBounds_ne (fun e=>ht e.symm)]
      rw [this];exact (hr.vals t).ext hx
   .have:Qap*i+Qap<=Qap*j:=by rw [<- Nat.mul_succ];exact Nat.mul_le_mul_left _ hj
    rw [hf n (by omega)];exact jA j (by omega) yB n k1 k2
  have run:∀ tm1:Tm,tmG tm1=tmG tm->vop P T false o (evF (tmG tm1)) (hpG h) (base+Qap*i) (fun fp e=>QtN tm1 o.dst e.v fun tm=>Qv5 e h fun h=>Qj9 false (.did fp e) rec fun rec=>fN (i+1) fun i=>Qr6 P T false all base i rest tm h rec K) ->
    o.wp P a w (wpOps P all.toArray Q (List.range' (i+1) rest.length)) Q:=by
   intro tm1 HT uD;obtain ⟨fp,_,h1,h2,h3,_⟩:=QjX hT uD;refine h1 F ρ (hpG h) a w Q _ (fun x _=>QwO x fun t _=>by rw [HT];exact hr.vals t) hr.conc h2 (fun n k1 k2=>jA i (Nat.le_refl _) KU n k1 k2) (fun e ρ' v w' he hx hf UP hc=>?_);have h9:=(h3 e he).2;simp only [Qb9,QhK,Qj9,Qcn] at h9;exact next tm1 e.v _ _ ρ' v w' HT h9 hx hf UP (by rw [Qp3];exact hc)
  rw [QgU] at hv;unfold Qr7 at hv
  cases hg:o.guard with
  | none =>
   rw [hg] at hv;have hw:Region.wanted o (yielded all.toArray a.tmps)=true:=by unfold Region.wanted;rw [hg]
   rw [hw];simp only [if_true];exact .inl (run tm rfl hv)
  | some g =>
   rw [hg] at hv;obtain ⟨g1,g2⟩:=g;simp only [] at hv
   cases hd:Qd2 all g1 with
   | none=>rw [hd] at hv;exact hv.elim
   | some t =>
    rw [hd] at hv;simp only [] at hv;split at hv
    .rename_i b hb
     rw [QpH] at hv;obtain ⟨WJ,uU⟩:=hv;have hval:=hr.vals t;rw [hb] at hval;have hval:a.tmps.getD t undef= .bool b:=hval
     have KS:a.tmps[t]?=some (.bool b):=by
      cases e:a.tmps[t]? with
      | none=>simp [e,undef] at hval
      | some v=>simp [e] at hval;rw [hval]
     have hy:yielded all.toArray a.tmps g1=some b:=by
      unfold yielded
      have:(all.toArray[g1]?).bind (·.dst)=some t:=by
       unfold Qd2 at hd
       cases e:all[g1]? with
       | none=>rw [e] at hd;cases hd
       | some og=>rw [e] at hd;simp [e,hd]
      rw [this];simp [KS]
     have hw:Region.wanted o (yielded all.toArray a.tmps)=decide (b=g2):=by
      unfold Region.wanted;rw [hg];simp only [hy];cases b<;>cases g2<;>rfl
     rw [hw]
     by_cases e:b=g2
     .subst e
      simp only [decide_true,if_true];exact .inl (run _ (QdN _ _ _ hb) (WJ rfl))
     .have e2:b= !g2:=by cases b<;>cases g2<;>simp_all
      replace uU:=uU e2;simp only [Qb9,Qj9,Qcn] at uU;rw [decide_eq_false e];simp only [Bool.false_eq_true,if_false];exact next _ _ _ _ ρ undef w (QdN _ _ _ (by rw [hb,e2])) uU (Ext.refl _) (fun _ _=>rfl) (Qiv ρ) hr.conc
    .rename_i l hb
     simp only [Qb9,Qj9,Qcn] at hv;have hval:=hr.vals t;rw [hb] at hval;rw [Qmz hg hd hval];simp only [Bool.false_eq_true,if_false];exact next _ _ _ _ ρ undef w rfl hv (Ext.refl _) (fun _ _=>rfl) (Qiv ρ) hr.conc
    .exact hv.elim
theorem Qjx {id':Nat} {P:Program} (hm:P.follows .mixedOrders=true) {T:Tys} (hT:QaU P T) {G:Gm} {F:Fr} {N id:Nat} {ops:Array Oper} {draw:Bool} {σ:St} {ρ:Nm} {a:Act} {w:World} {Q:Exit->Act->World->Prop} {K:St->Prop} (hr:Rel G F N σ ρ a w)
  (hv:Qdw P T N id ops.toList draw σ K) (hQ:∀ σ' ρ' a' w',K σ'->Rel G F N σ' ρ' a' w'->Q .normal a' w'):(Code.region id' ops draw).wp P Q a w:=by
 cases draw with
 | true=>exact Qk0 hm hT hr hv hQ
 | false =>
  obtain ⟨tm,h,ids⟩:=σ;unfold Qdw at hv;simp only [] at hv
  cases e1:QcW (id+1) ids with
  | true=>rw [e1] at hv;exact hv.elim
  | false =>
   rw [e1] at hv;simp only [] at hv
   cases e2:(Qu6 N ops.toList&&Nat.ble ops.toList.length 1024) with
   | false=>rw [e2] at hv;exact hv.elim
   | true =>
    rw [e2] at hv;simp only [] at hv;rw [Bool.and_eq_true] at e2;have hL:=Nat.le_of_ble_eq_true e2.2
    have wT:∀ n,n / Qei=id+1->ρ n=none:=fun n hn=>by
     cases e:ρ n with
     | none=>rfl
     | some p=>exact absurd (hn ▸ hr.ids n (by rw [e];simp)) (Qgz e1)
    have jD:ops.toList.toArray=ops:=by simp
    have key:=QuA (M:=fun ρ=>(∀ n,ρ n≠none->n / Qei∈(id+1)::ids)/\Ext G.ρ0 ρ) (P:=P) hT (F:=F) (Q:=Q) e2.1 (fun j hj ρ ρ' h hx hf=>⟨fun n hn=>Qho hL hj h.1 hf n hn,h.2.trans hx⟩)
     (fun tm' h' rec' ρ' a' w' hk hr'=>hQ ⟨tm',h',(id+1)::ids⟩ ρ' a' w' hk ⟨hr'.defers,hr'.tmps,hr'.vals,hr'.conc,hr'.names.1,hr'.names.2,hr.dom⟩)
     ops.toList 0 tm h [] ρ a w hv (fun k=>by simp) ⟨hr.defers,hr.tmps,hr.vals,hr.conc,fun n hn=>List.mem_cons_of_mem _ (hr.ids n hn),hr.ext⟩ (fun j _ hj n h3 h4=>wT n (QkQ hL hj h3 h4))
    refine wp_region ?_;rw [jD] at key;have:List.range ops.size=List.range' 0 ops.toList.length:=by rw [List.range_eq_range'];simp
    rw [this];exact key
def Wk (N k:Nat) (σ σ':St):Prop:=∀ G F ρ a w,Gm.k G=k->Rel G F N σ ρ a w->∃ ρ',Rel G F N σ' ρ' a w
theorem Wk.refl (N k:Nat) (σ:St):Wk N k σ σ:=fun _ _ ρ _ _ _ h=>⟨ρ,h⟩
abbrev VC:=St->(Exit->St->Prop)->Prop
def QGr (x y:VC):VC:=fun σ Q=>x σ fun e σ=>match e with
  | .normal=>y σ Q
  | e=>Q e σ
def QjW (c:Operand) (x y:VC):VC:=fun σ Q=>match evF (tmG σ.tm) c with
  | .a (.s (.bool b))=>Br b (x σ Q) (y σ Q)
  | _=>False
def Qzh (id:Nat) (x:VC):VC:=fun σ Q=>x σ fun e σ=>match e with
  | .exit id'=>match Nat.beq id' id with
   | true=>Q .normal σ
   | false=>Q (.exit id') σ
  | e=>Q e σ
def Qzi (x:VC):VC:=fun σ Q=>x σ fun e σ=>match e with
  | .goto _=>False
  | e=>Q e σ
noncomputable def lpU (x:VC) (Q:Exit->St->Prop) (n:Nat):St->Prop :=
 Nat.rec (motive:=fun _=>St->Prop) (fun _=>False) (fun _ ih σ=>x σ fun e σ=>match e with
  | .normal=>ih σ
  | e=>Q e σ) n
inductive Lp (N k:Nat) (x:VC) (σ:St) (Q:Exit->St->Prop):Prop
 | inv (I:Nat->St->Prop) (h0:∃ n σ',Wk N k σ σ'/\I n σ') (hs:∀ n σ',I n σ'->x σ' fun e σ=>match e with
   | .normal=>∃ m σ'',m<n/\Wk N k σ σ''/\I m σ''
   | e=>Q e σ)
 | unroll (n:Nat) (h:lpU x Q n σ)
 | inw (I:Nat->St->Prop) (h0:∃ n σ',Wk N k σ σ'/\I n σ') (hs:∀ n σ',I n σ'->x σ' fun e σ=>match e with
   | .normal=>∃ m σ'',m<n/\Wk N k σ σ''/\I m σ''
   | e=>∃ σ'',Wk N k σ σ''/\Q e σ'')
def QCG (N k:Nat) (x:VC):VC:=Lp N k x
noncomputable def vc (P:Program) (T:Tys) (N k:Nat) (c:Code):VC :=
 Code.rec (motive:=fun _=>VC)
  (fun σ Q=>Q .normal σ)
  (fun _ ops draw σ Q=>fN (hdN σ.ids) fun id=>Qdw P T N id ops.toList draw σ fun σ=>Q .normal σ)
  (fun _ _ x y=>QGr x y)
  (fun c _ _ x y=>QjW c x y)
  (fun id _ x=>Qzh id x)
  (fun _ x=>QCG N k x)
  (fun _ _ _ _ _ _ _ _=>False)
  (fun id σ Q=>Q (.exit id) σ)
  (fun _ x=>Qzi x)
  (fun _ σ Q=>Q .normal σ)
  (fun _ _ _=>False)
  (fun σ Q=>Q .ret σ)
  (fun _ _ _=>False)
  c
def QFy (G:Gm) (F:Fr) (N:Nat) (Q:Exit->St->Prop):Exit->Act->World->Prop:=fun e a w=>∃ σ ρ,Rel G F N σ ρ a w/\Q e σ
theorem Quz {P:Program} (hm:P.follows .mixedOrders=true) {T:Tys} (hT:QaU P T) {G:Gm} {F:Fr} {N k:Nat} (VL:G.k=k):∀ (c:Code) (σ:St) (Q:Exit->St->Prop) (ρ:Nm) (a:Act) (w:World),vc P T N k c σ Q->Rel G F N σ ρ a w->c.wp P (QFy G F N Q) a w:=by
 intro c
 induction c with
 | skip=>intro σ Q ρ a w h hr;exact wp_skip ⟨σ,ρ,hr,h⟩
 | region id ops draw=>intro σ Q ρ a w h hr;exact Qjx hm hT hr ((Qcn (hdN σ.ids) fun id=>Qdw P T N id ops.toList draw σ fun σ=>Q .normal σ).1 h) fun σ' ρ' a' w' hk hr'=>⟨σ',ρ',hr',hk⟩
 | seq x y ihx ihy =>
  intro σ Q ρ a w h hr;refine wp_seq (wp_mono (ihx σ _ ρ a w h hr) fun e a' w' hq=>?_);obtain ⟨σ',ρ',hr',hq⟩:=hq
  cases e with
  | normal=>exact ihy σ' Q ρ' a' w' hq hr'
  | exit i=>exact ⟨σ',ρ',hr',hq⟩
  | goto i=>exact ⟨σ',ρ',hr',hq⟩
  | ret=>exact ⟨σ',ρ',hr',hq⟩
  | panic c=>exact ⟨σ',ρ',hr',hq⟩
  | outgrown=>exact ⟨σ',ρ',hr',hq⟩
 | cond c x y ihx ihy =>
  intro σ Q ρ a w h hr;change QjW c _ _ σ Q at h;unfold QjW at h;split at h
  .rename_i b hb
   have hv:=QwO (a:=a) (tm:=tmG σ.tm) c (fun t _=>hr.vals t);rw [hb] at hv;have hv:a.eval c= .bool b:=hv;obtain ⟨h1,h2⟩:=h;exact wp_cond_split hv (fun e=>ihx σ Q ρ a w (h1 e) hr) (fun e=>ihy σ Q ρ a w (h2 e) hr)
  .exact h.elim
 | block id x ih =>
  intro σ Q ρ a w h hr;refine wp_block (wp_mono (ih σ _ ρ a w h hr) fun e a' w' hq=>?_);obtain ⟨σ',ρ',hr',hq⟩:=hq
  cases e with
  | exit i =>
   simp only [] at hq;show if i=id then QFy G F N Q .normal a' w' else QFy G F N Q (.exit i) a' w'
   cases hb:Nat.beq i id with
   | true=>rw [hb] at hq;rw [if_pos (Nat.eq_of_beq_eq_true hb)];exact ⟨σ',ρ',hr',hq⟩
   | false=>rw [hb] at hq;rw [if_neg (Nat.ne_of_beq_eq_false hb)];exact ⟨σ',ρ',hr',hq⟩
  | normal=>exact ⟨σ',ρ',hr',hq⟩
  | goto i=>exact ⟨σ',ρ',hr',hq⟩
  | ret=>exact ⟨σ',ρ',hr',hq⟩
  | panic c=>exact ⟨σ',ρ',hr',hq⟩
  | outgrown=>exact ⟨σ',ρ',hr',hq⟩
 | loop x ih =>
  intro σ Q ρ a w h hr;rcases h with ⟨I,⟨n0,σ0,UM,YZ⟩,gU⟩|⟨n,h⟩|⟨I,⟨n0,σ0,UM,YZ⟩,gU⟩
  .obtain ⟨ρ0,hr0⟩:=UM G F ρ a w VL hr
   refine wp_loop_ghost (fun n a w=>∃ σ ρ,Rel G F N σ ρ a w/\I n σ) n0 ⟨σ0,ρ0,hr0,YZ⟩ fun n a w hI=>?_
   obtain ⟨σ1,ρ1,wX,hI1⟩:=hI;refine wp_mono (ih σ1 _ ρ1 a w (gU n σ1 hI1) wX) fun e a' w' hq=>?_
   obtain ⟨σ',ρ',hr',hq⟩:=hq
   cases e with
   | normal =>
    obtain ⟨m,σ'',gO,WM,YY⟩:=hq;obtain ⟨ρ'',HP⟩:=WM G F ρ' a' w' VL hr';exact ⟨m,gO,σ'',ρ'',HP,YY⟩
   | exit i=>exact ⟨σ',ρ',hr',hq⟩
   | goto i=>exact ⟨σ',ρ',hr',hq⟩
   | ret=>exact ⟨σ',ρ',hr',hq⟩
   | panic c=>exact ⟨σ',ρ',hr',hq⟩
   | outgrown=>exact ⟨σ',ρ',hr',hq⟩
  .refine wp_loop_ghost (fun n a w=>∃ σ ρ,Rel G F N σ ρ a w/\lpU (vc P T N k x) Q n σ) n ⟨σ,ρ,hr,h⟩ fun n a w hI=>?_
   obtain ⟨σ1,ρ1,wX,hI1⟩:=hI
   cases n with
   | zero=>exact hI1.elim
   | succ n =>
    refine wp_mono (ih σ1 _ ρ1 a w hI1 wX) fun e a' w' hq=>?_
    obtain ⟨σ',ρ',hr',hq⟩:=hq
    cases e with
    | normal=>exact ⟨n,Nat.lt_succ_self n,σ',ρ',hr',hq⟩
    | exit i=>exact ⟨σ',ρ',hr',hq⟩
    | goto i=>exact ⟨σ',ρ',hr',hq⟩
    | ret=>exact ⟨σ',ρ',hr',hq⟩
    | panic c=>exact ⟨σ',ρ',hr',hq⟩
    | outgrown=>exact ⟨σ',ρ',hr',hq⟩
  .obtain ⟨ρ0,hr0⟩:=UM G F ρ a w VL hr
   refine wp_loop_ghost (fun n a w=>∃ σ ρ,Rel G F N σ ρ a w/\I n σ) n0 ⟨σ0,ρ0,hr0,YZ⟩ fun n a w hI=>?_
   obtain ⟨σ1,ρ1,wX,hI1⟩:=hI;refine wp_mono (ih σ1 _ ρ1 a w (gU n σ1 hI1) wX) fun e a' w' hq=>?_
   obtain ⟨σ',ρ',hr',hq⟩:=hq
   have ex:∀ {e:Exit},(∃ σ'',Wk N k σ' σ''/\Q e σ'')->∃ σ ρ,Rel G F N σ ρ a' w'/\Q e σ:=fun ⟨σ'',WM,hq⟩=>by
    obtain ⟨ρ'',HP⟩:=WM G F ρ' a' w' VL hr';exact ⟨σ'',ρ'',HP,hq⟩
   cases e with
   | normal =>
    obtain ⟨m,σ'',gO,WM,YY⟩:=hq;obtain ⟨ρ'',HP⟩:=WM G F ρ' a' w' VL hr';exact ⟨m,gO,σ'',ρ'',HP,YY⟩
   | exit i=>exact ex hq
   | goto i=>exact ex hq
   | ret=>exact ex hq
   | panic c=>exact ex hq
   | outgrown=>exact ex hq
 | exit id=>intro σ Q ρ a w h hr;exact wp_exit ⟨σ,ρ,hr,h⟩
 | ret=>intro σ Q ρ a w h hr;exact wp_ret ⟨σ,ρ,hr,h⟩
 | scope x ih =>
  intro σ Q ρ a w h hr;refine wp_scope_straight (wp_mono (ih σ _ ρ a w h hr) fun e a' w' hq=>?_);obtain ⟨σ',ρ',hr',hq⟩:=hq
  cases e with
  | goto i=>exact hq.elim
  | exit i=>exact ⟨σ',ρ',hr',hq⟩
  | normal=>exact ⟨σ',ρ',hr',hq⟩
  | ret=>exact ⟨σ',ρ',hr',hq⟩
  | panic c=>exact ⟨σ',ρ',hr',hq⟩
  | outgrown=>exact ⟨σ',ρ',hr',hq⟩
 | label l=>intro σ Q ρ a w h hr;exact wp_label ⟨σ,ρ,hr,h⟩
 | goto l=>intro σ Q ρ a w h hr;exact h.elim
 | rangeFunc f p x y _ _=>intro σ Q ρ a w h hr;exact h.elim
 | refuse s=>intro σ Q ρ a w h hr;exact h.elim
abbrev Rn:=List (Nat × Option Nat)
def Qgv (m:Rn) (ρ:Nm):Nm:=⟨fun n=>match QaW m n with
 | some (some c)=>ρ c
 | some none=>some .empty
 | none=>none,ρ.fr⟩
theorem Qa5 (m:Rn) (ρ:Nm) (n:Nat):Qgv m ρ n=match QaW m n with
 | some (some c)=>ρ c
 | some none=>some .empty
 | none=>none:=rfl
def SVm (m:Rn) (cur:SV):SV->Prop
 | .unk=>True
 | .ptr n o=>∃ c,QaW m n=some (some c)/\cur= .ptr c o
 | .sl n o k=>(∃ c,QaW m n=some (some c)/\cur= .sl c o k)\/(QaW m n=some none/\k=0/\cur= .nilsl)
 | .fn f cap=>∃ cap0,cur= .fn f cap0/\cap0.length=cap.length/\∀ (j:Nat) (p:Nat × Nat),cap[j]?=some p->∃ c,QaW m p.1=some (some c)/\cap0[j]?=some (c,p.2)
 | .fz es n cells=>cur= .fz es n cells\/(n=0/\cells= []/\cur= .nilsl)
 | s=>cur=s
theorem QrJ {m:Rn} {ρ:Nm} {s s':SV} {v:Value} (h:VS ρ s v) (hm:SVm m s s'):VS (Qgv m ρ) s' v:=by
 cases s'<;>simp only [SVm] at hm
 case unk=>exact trivial
 case ptr n o =>
  obtain ⟨c,h1,rfl⟩:=hm;obtain ⟨L,h2,h3⟩:=h;exact ⟨L,by rw [Qa5];rw [h1];exact h2,h3⟩
 case sl n o k =>
  rcases hm with ⟨c,h1,rfl⟩|⟨h1,rfl,rfl⟩
  .obtain ⟨A,cc,h2,h3,h4⟩:=h
   have e:Qgv m ρ n=ρ c:=by rw [Qa5];rw [h1]
   exact ⟨A,cc,h2,h3,by rw [e];exact h4⟩
  .have h:v= .slice none 0 0:=h
   exact ⟨none,0,h,Nat.le_refl _,.inr ⟨by rw [Qa5];rw [h1],rfl⟩⟩
 case fn f cap =>
  obtain ⟨_,rfl,h1,h2⟩:=hm;obtain ⟨vs,h3,h4,h5⟩:=h;refine ⟨vs,h3,h4.trans h1,fun j p hp=>?_⟩;obtain ⟨c,h6,h7⟩:=h2 j p hp;obtain ⟨L,h8,h9⟩:=h5 j _ h7;exact ⟨L,by rw [Qa5];rw [h6];exact h8,h9⟩
 case fz es n cells =>
  rcases hm with rfl|⟨rfl,rfl,rfl⟩
  .exact h
  .have h:v= .slice none 0 0:=h
   exact ⟨none,0,h,Nat.le_refl _,.inr ⟨rfl,rfl⟩⟩
 all_goals (subst hm;exact h)
def SVsM (m:Rn) (l l':List SV):Prop:=l.length=l'.length/\∀ (k:Nat) s',l'[k]?=some s'->∃ s,l[k]?=some s/\SVm m s s'
theorem SVsM.nil {m:Rn}:SVsM m [] []:=⟨rfl,fun k s h=>by cases h⟩
theorem SVsM.cons {m:Rn} {s s':SV} {l l':List SV} (h:SVm m s s') (hl:SVsM m l l'):SVsM m (s::l) (s'::l') :=
 ⟨by simp [hl.1],fun k x hx=>by
  cases k with
  | zero=>injection hx with hx;subst hx;exact ⟨s,rfl,h⟩
  | succ k=>exact hl.2 k x hx⟩
theorem SVsM.append {m:Rn} {a a' b b':List SV} (h:SVsM m a a') (hl:SVsM m b b'):SVsM m (a++b) (a'++b') :=
 ⟨by simp [hl.1,h.1],fun k x hx=>by
  by_cases hk:k<a'.length
  .rw [List.getElem?_append_left hk] at hx
   rw [List.getElem?_append_left (by rw [h.1];exact hk)];exact h.2 k x hx
  .rw [List.getElem?_append_right (by omega)] at hx
   rw [List.getElem?_append_right (by rw [h.1];omega),h.1];exact hl.2 _ x hx⟩
def SV.scal:SV->Bool
 | .ptr _ _| .sl _ _ _| .fn _ _=>false
 | _=>true
def Qaq:List SV->Bool
 | []=>true
 | s::l=>match s.scal with
  | true=>Qaq l
  | false=>false
theorem Qf2 {m:Rn} {s:SV} (h:s.scal=true):SVm m s s:=by
 cases s<;>simp [SVm,SV.scal] at h |-
theorem QcR {l:List SV} (h:Qaq l=true):∀ s∈l,s.scal=true:=by
 induction l with
 | nil=>intro s hs;cases hs
 | cons a l ih =>
  unfold Qaq at h
  cases e:a.scal with
  | false=>rw [e] at h;cases h
  | true =>
   rw [e] at h;intro s hs;rcases List.mem_cons.1 hs with rfl|hs
   .exact e
   .exact ih h s hs
theorem SVsM.scal {m:Rn} {l:List SV} (h:Qaq l=true):SVsM m l l:=⟨rfl,fun _ s hs=>⟨s,hs,Qf2 (QcR h s (List.mem_of_getElem? hs))⟩⟩
theorem QCH {m:Rn} {ρ:Nm} {l l':List SV} {vs:List Value} (h:VSs ρ l vs) (hm:SVsM m l l'):VSs (Qgv m ρ) l' vs :=
 ⟨hm.1.symm.trans h.1,fun k s' hs=>by
  obtain ⟨s,h1,h2⟩:=hm.2 k s' hs;obtain ⟨v,h3,h4⟩:=h.2 k s h1
  exact ⟨v,h3,QrJ h4 h2⟩⟩
def AVm (m:Rn):AV->AV->Prop
 | .s x,.s y=>SVm m x y
 | .agg l,.agg l'=>SVsM m l l'
 | _,_=>False
theorem QuS {m:Rn} {ρ:Nm} {x y:AV} {v:Value} (h:VA ρ x v) (hm:AVm m x y):VA (Qgv m ρ) y v:=by
 cases x<;>cases y
 .exact QrJ h hm
 .exact hm.elim
 .exact hm.elim
 .obtain ⟨cs,rfl,h1⟩:=h;exact ⟨cs,rfl,QCH h1 hm⟩
def Qss (m:Rn):List AV->List AV->Prop
 | [],[]=>True
 | x::l,y::l'=>AVm m x y/\Qss m l l'
 | _,_=>False
theorem Qol {m:Rn} {ρ:Nm}:∀ {l l':List AV} {vs:List Value},VAs ρ l vs->Qss m l l'->VAs (Qgv m ρ) l' vs
 | [],[],vs,h,_=>⟨h.1,fun _ s e=>by cases e⟩
 | x::l,y::l',vs,h,hm=>by
  cases vs with
  | nil=>have:=h.1;simp at this
  | cons v vs =>
   obtain ⟨_,h1,h2⟩:=h.2 0 x rfl;injection h1 with h1;subst h1
   have:=Qol (l:=l) (l':=l') (vs:=vs) ⟨by have:=h.1;simpa using this,fun k s e=>h.2 (k+1) s e⟩ hm.2;refine ⟨by simp [this.1],fun k s e=>?_⟩
   cases k with
   | zero=>injection e with e;subst e;exact ⟨v,rfl,QuS h2 hm.1⟩
   | succ k=>exact this.2 k s e
 | [],_::_,_,_,h=>h.elim
 | _::_,[],_,_,h=>h.elim
def TVm (m:Rn) (x:TV):TV->Prop
 | .unk=>True
 | .a y=>∃ z,x= .a z/\AVm m z y
 | .tup l'=>∃ l,x= .tup l/\Qss m l l'
theorem QgR {m:Rn} {ρ:Nm} {x y:TV} {v:Value} (h:VT ρ x v) (hm:TVm m x y):VT (Qgv m ρ) y v:=by
 cases y with
 | unk=>exact trivial
 | a y=>obtain ⟨_,rfl,h1⟩:=hm;exact QuS h h1
 | tup l' =>
  obtain ⟨_,rfl,h1⟩:=hm;obtain ⟨vs,rfl,h2⟩:=h;exact ⟨vs,rfl,Qol h2 h1⟩
def Qz3 (m:Rn) (n c:Nat):Bool:=m.all fun p=>Nat.beq p.1 n||(match p.2 with|some x=> !Nat.beq x c|none=>true)
def RowMt (m:Rn) (hp:Hp) (n:Nat) (r':Row):Prop :=
 (∃ c r,QaW m n=some (some c)/\hp c=some r/\r.es=r'.es/\(r'.own=true->r.own=true/\Qz3 m n c=true)/\SVsM m r.cells r'.cells)\/(QaW m n=some none/\r'.cells= [])
def QEr (m:Rn) (fP:Hp) (n c:Nat):Bool:=m.all fun p=>Nat.beq p.1 n||(match fP p.1 with|some _=>false|none=>true)||(match p.2 with|some x=> !Nat.beq x c|none=>true)
theorem Qxp {m:Rn} {fP:Hp} {n c:Nat} (h:QEr m fP n c=true) {n' c':Nat} {s:Row} (jI:fP n'=some s) (hl:QaW m n'=some (some c')) (fY:n'≠n):c'≠c:=by
 have:=List.all_eq_true.1 h _ (QbD hl);simp only [Bool.or_eq_true,jI] at this;rcases this with (h1|h1)|h1
 .exact absurd (Nat.eq_of_beq_eq_true h1) fY
 .cases h1
 .rintro rfl;rw [Nat.beq_refl] at h1;cases h1
theorem Qxo {m:Rn} {fP:Hp} {n c:Nat} (h:Qz3 m n c=true):QEr m fP n c=true:=List.all_eq_true.2 fun p hp=>by
 have:=List.all_eq_true.1 h p hp;simp only [Bool.or_eq_true] at this |-;rcases this with h1|h1
 .exact .inl (.inl h1)
 .exact .inr h1
def QuP (m:Rn) (hp fP:Hp) (n:Nat) (r':Row):Prop :=
 (∃ c r,QaW m n=some (some c)/\hp c=some r/\r.es=r'.es/\(r'.own=true->r.own=true/\QEr m fP n c=true)/\SVsM m r.cells r'.cells)\/(QaW m n=some none/\r'.cells= [])
theorem RowMt.v {m:Rn} {hp fP:Hp} {n:Nat} {r':Row} (h:RowMt m hp n r'):QuP m hp fP n r':=by
 rcases h with ⟨c,r,h1,h2,h3,h4,h5⟩|h
 .exact .inl ⟨c,r,h1,h2,h3,fun e=>⟨(h4 e).1,Qxo (h4 e).2⟩,h5⟩
 .exact .inr h
theorem Qet {F:Fr} {m:Rn} {ρ:Nm} {hp fP:Hp} {w:World} (hc:Conc F ρ hp w) (h:∀ n r',fP n=some r'->QuP m hp fP n r'):Conc F (Qgv m ρ) fP w:=by
 refine ⟨fun n r' hn=>?_,fun n r' k s' Ln Lk h1 h2 h3 h4 h5 h6=>?_,fun n r' L h1 h2 h3=>?_,hc.os,hc.tape,hc.output,hc.size,hc.block,fun L c hf=>?_⟩
 .rcases h n r' hn with ⟨c,r,h1,h2,h3,h4,h5⟩|⟨h1,h2⟩
  .have:=hc.rows c r h2
   unfold RowOk at this |-;have e:Qgv m ρ n=ρ c:=by rw [Qa5];rw [h1]
   rw [e]
   cases e2:ρ c with
   | none=>rw [e2] at this;exact this.elim
   | some p =>
    rw [e2] at this
    cases p with
    | empty =>
     have this:r.cells= []:=this;have:=h5.1;rw [‹r.cells= []›] at this;exact List.eq_nil_of_length_eq_zero this.symm
    | «at» L =>
     obtain ⟨g1,g2,cs,t,fz,g3,g4,g5,g6⟩:=this;refine ⟨g1.trans h3,by rw [<- h5.1];exact g2,cs,t,fz,g3,g4,fun ho=>g5 (h4 ho).1,fun k s' hs=>?_⟩;obtain ⟨s,q1,q2⟩:=h5.2 k s' hs;obtain ⟨v,q3,q4⟩:=g6 k s q1;exact ⟨v,q3,QrJ q4 q2⟩
  .unfold RowOk
   have e:Qgv m ρ n=some .empty:=by rw [Qa5];rw [h1]
   rw [e];exact h2
 .rcases h n r' h1 with ⟨c,r,a1,a2,a3,a4,a5⟩|⟨a1,_⟩
  .have e:Qgv m ρ n=ρ c:=by rw [Qa5];rw [a1]
   rw [e] at h5;rcases h k s' h3 with ⟨c',r2,b1,b2,_⟩|⟨b1,_⟩
   .have e2:Qgv m ρ k=ρ c':=by rw [Qa5];rw [b1]
    rw [e2] at h6;exact hc.apart c r c' r2 Ln Lk a2 (a4 h2).1 b2 (fun e=>Qxp (a4 h2).2 h3 b1 (fun e=>h4 e.symm) e.symm) h5 h6
   .rw [Qa5] at h6;rw [b1] at h6;cases h6
  .rw [Qa5] at h5;rw [a1] at h5;cases h5
 .rcases h n r' h1 with ⟨c,r,a1,a2,a3,a4,a5⟩|⟨a1,_⟩
  .have e:Qgv m ρ n=ρ c:=by rw [Qa5];rw [a1]
   rw [e] at h3;exact hc.mine c r L a2 (a4 h2).1 h3
  .rw [Qa5] at h3;rw [a1] at h3;cases h3
 .obtain ⟨f1,f2,f3⟩:=hc.frz L c hf
  refine ⟨f1,fun n r' Ln h1 h2 h3=>?_,f3⟩;rcases h n r' h1 with ⟨c',r,a1,a2,a3,a4,a5⟩|⟨a1,_⟩
  .have e:Qgv m ρ n=ρ c':=by rw [Qa5];rw [a1]
   rw [e] at h3;exact f2 c' r Ln a2 (a4 h2).1 h3
  .rw [Qa5] at h3;rw [a1] at h3;cases h3
theorem QfL {F:Fr} {m:Rn} {ρ:Nm} {hp fP:Hp} {w:World} (hc:Conc F ρ hp w) (h:∀ n r',fP n=some r'->RowMt m hp n r'):Conc F (Qgv m ρ) fP w:=Qet hc fun n r' hn=>(h n r' hn).v
def HlS (m:Rn) (hp:Hp):List Nat->Hl->Prop
 | _,[]=>True
 | s,p::l=>(match QcW p.1 s with|true=>True|false=>match p.2 with|some r=>RowMt m hp p.1 r|none=>True)/\HlS m hp (p.1::s) l
def HlL (m:Rn) (hp:Hp) (l:Hl):Prop:=HlS m hp [] l
theorem Qvn {m:Rn} {hp:Hp}:∀ {l:Hl} {s:List Nat},HlS m hp s l->∀ n r',QcW n s=false->hpG l n=some r'->RowMt m hp n r'
 | [],_,_,n,r',_,h=>by cases h
 | p::l,s,hl,n,r',hs,h=>by
  obtain ⟨k,_⟩:=p;rw [Qbs] at h;unfold Hp.set at h;split at h
  .rename_i e;subst e;subst h
   have:=hl.1;simp only [hs] at this;exact this
  .rename_i e
   refine Qvn hl.2 n r' ?_ h;unfold QcW
   cases hb:Nat.beq n k with
   | true=>exact absurd (Nat.eq_of_beq_eq_true hb) e
   | false=>exact hs
theorem QlX {m:Rn} {hp:Hp} {l:Hl} (h:HlL m hp l) (n:Nat) (r':Row) (hn:hpG l n=some r'):RowMt m hp n r':=Qvn h n r' rfl hn
def QcI (m:Rn) (hp fP:Hp):List Nat->Hl->Prop
 | _,[]=>True
 | s,p::l=>(match QcW p.1 s with|true=>True|false=>match p.2 with|some r=>QuP m hp fP p.1 r|none=>True)/\QcI m hp fP (p.1::s) l
def HlV (m:Rn) (hp:Hp) (l:Hl):Prop:=QcI m hp (hpG l) [] l
theorem Qp0 {m:Rn} {hp fP:Hp}:∀ {l:Hl} {s:List Nat},QcI m hp fP s l->∀ n r',QcW n s=false->hpG l n=some r'->QuP m hp fP n r'
 | [],_,_,n,r',_,h=>by cases h
 | p::l,s,hl,n,r',hs,h=>by
  obtain ⟨k,_⟩:=p;rw [Qbs] at h;unfold Hp.set at h;split at h
  .rename_i e;subst e;subst h
   have:=hl.1;simp only [hs] at this;exact this
  .rename_i e
   refine Qp0 hl.2 n r' ?_ h;unfold QcW
   cases hb:Nat.beq n k with
   | true=>exact absurd (Nat.eq_of_beq_eq_true hb) e
   | false=>exact hs
theorem QpZ {m:Rn} {hp:Hp} {l:Hl} (h:HlV m hp l) (n:Nat) (r':Row) (hn:hpG l n=some r'):QuP m hp (hpG l) n r':=Qp0 h n r' rfl hn
def TmL (m:Rn) (tm:Nat->TV):Tm->Prop
 | []=>True
 | p::l=>TVm m (tm p.1) p.2/\TmL m tm l
theorem QrO {m:Rn} {tm:Nat->TV}:∀ {l:Tm},TmL m tm l->∀ t,TVm m (tm t) (tmG l t)
 | [],_,t=>trivial
 | p::l,hl,t=>by
  obtain ⟨_,_⟩:=p;rw [Qcd];split
  .rename_i e;subst e;exact hl.1
  .exact QrO hl.2 t
def Qz2 (m:Rn) (ids:List Nat):Bool:=m.all fun p=>QcW (p.1 / Qei) ids
theorem QfX {n:Nat}:∀ {l:List Nat},QcW n l=true->n∈l
 | [],h=>by cases h
 | m::l,h=>by
  unfold QcW at h
  cases e:Nat.beq n m with
  | true=>rw [Nat.eq_of_beq_eq_true e];simp
  | false=>rw [e] at h;exact List.mem_cons_of_mem _ (QfX h)
def idn (m:Rn):Nat->Bool
 | 0=>true
 | k+1=>(match QaW m k with|some (some c)=>Nat.beq c k|_=>false)&&idn m k
theorem Qfn {m:Rn}:∀ {k:Nat},idn m k=true->∀ n,n<k->QaW m n=some (some n)
 | 0,_,n,h=>by omega
 | k+1,h,n,hn=>by
  unfold idn at h;rw [Bool.and_eq_true] at h
  by_cases e:n=k
  .subst e
   have h1:=h.1;split at h1
   .rename_i c hc;rw [hc,Nat.eq_of_beq_eq_true h1]
   .cases h1
  .exact Qfn h.2 n (by omega)
theorem Qea {m:Rn} {k:Nat} (h:idn m k=true) {G:Gm} (hk:G.k=k) {ρ:Nm} (hd:∀ n,G.k<=n->G.ρ0 n=none) (hx:Ext G.ρ0 ρ):Ext G.ρ0 (Qgv m ρ):=⟨fun n p hn=>by
 have:n<k:=by
  rcases Nat.lt_or_ge n k with h|h
  .exact h
  .rw [hd n (by omega)] at hn;cases hn
 rw [Qa5];rw [Qfn h n this]
 exact hx n p hn,hx.fr⟩
theorem Qcu (m:Rn) {N k:Nat} {σ σ':St} (h1:TmL m (tmG σ.tm) σ'.tm) (h2:HlL m (hpG σ.h) σ'.h) (h3:(Qz2 m σ'.ids&&idn m k)=true):Wk N k σ σ':=fun G F ρ a w hk hr =>
 ⟨Qgv m ρ,hr.defers,hr.tmps,fun t=>QgR (hr.vals t) (QrO h1 t),QfL hr.conc (QlX h2),fun n hn=>by
  have:(QaW m n).isSome=true:=by
   rw [Qa5] at hn
   cases e:QaW m n with
   | none=>rw [e] at hn;exact absurd rfl hn
   | some x=>rfl
  obtain ⟨x,hx⟩:=Option.isSome_iff_exists.1 this
  exact QfX (List.all_eq_true.1 (Bool.and_eq_true _ _ ▸ h3:Qz2 m σ'.ids=true/\_).1 _ (QbD hx)),Qea ((Bool.and_eq_true _ _ ▸ h3:_/\idn m k=true).2) hk hr.dom hr.ext,hr.dom⟩
theorem QGt (m:Rn) {N k:Nat} {σ σ':St} (h1:TmL m (tmG σ.tm) σ'.tm) (h2:HlV m (hpG σ.h) σ'.h) (h3:(Qz2 m σ'.ids&&idn m k)=true):Wk N k σ σ':=fun G F ρ a w hk hr =>
 ⟨Qgv m ρ,hr.defers,hr.tmps,fun t=>QgR (hr.vals t) (QrO h1 t),Qet hr.conc (QpZ h2),fun n hn=>by
  have:(QaW m n).isSome=true:=by
   rw [Qa5] at hn
   cases e:QaW m n with
   | none=>rw [e] at hn;exact absurd rfl hn
   | some x=>rfl
  obtain ⟨x,hx⟩:=Option.isSome_iff_exists.1 this
  exact QfX (List.all_eq_true.1 (Bool.and_eq_true _ _ ▸ h3:Qz2 m σ'.ids=true/\_).1 _ (QbD hx)),Qea ((Bool.and_eq_true _ _ ▸ h3:_/\idn m k=true).2) hk hr.dom hr.ext,hr.dom⟩
def Qn1 (T:Tys) (σ:St):List ResultVar->(List AV->Prop)->Prop
 | [],K=>K []
 | .tmp t::l,K=>(match tmG σ.tm t with
  | .a x=>Qn1 T σ l fun r=>K (x::r)
  | _=>False)
 | .cell p ty::l,K=>(match tmG σ.tm p with
  | .a (.s (.ptr i k))=>(match T ty with
   | some y=>(match y.kind.agg with
    | false=>Ge (hpG σ.h i) fun r=>Ge (r.cells[k]?) fun s=>Qn1 T σ l fun q=>K (.s s::q)
    | true=>Ge (hpG σ.h i) fun r=>Sg r.cells k y.size fun c=>Qn1 T σ l fun q=>K (.agg c::q))
   | none=>False)
  | _=>False)
def Qba:List AV->TV
 | [x]=> .a x
 | l=> .tup l
def Qjy (tmps:Array Value):ResultVar->Sem Value
 | .tmp t=>pure (tmps.getD t undef)
 | .cell p t=>do loadVar t (<- asAddr (tmps.getD p undef))
theorem Qnl (fn:Func) (tmps:Array Value):results fn tmps=(do let vs <- fn.results.mapM (Qjy tmps);pure (if h:vs.size=1 then vs[0] else .tuple vs)):=by
 unfold results;rfl
theorem Qmh {P:Program} {T:Tys} (hT:QaU P T) {G:Gm} {F:Fr} {N:Nat} {σ:St} {ρ:Nm} {a:Act} {w:World} (hr:Rel G F N σ ρ a w):∀ (l:List ResultVar) (K:List AV->Prop),Qn1 T σ l K ->
  ∃ r vs,K r/\VAs ρ r vs/\r.length=l.length/\(l.mapM (Qjy a.tmps)).run P w= .ok vs w
 | [],K,h=>⟨[],[],h,⟨rfl,fun _ s e=>by cases e⟩,rfl,by simp⟩
 | .tmp t::l,K,h=>by
  unfold Qn1 at h;split at h
  .rename_i x hx
   obtain ⟨r,vs,h1,h2,h3,h4⟩:=Qmh hT hr l _ h;have hv:=hr.vals t;rw [hx] at hv;refine ⟨x::r,a.tmps.getD t undef::vs,h1,⟨by simp [h2.1],fun k s e=>?_⟩,by simp [h3],by rw [List.mapM_cons];simp only [Qjy,Sem.run_bind,Sem.run_pure,Result.andThen_ok,h4]⟩
   cases k with
   | zero=>injection e with e;subst e;exact ⟨_,rfl,hv⟩
   | succ k=>exact h2.2 k s e
  .exact h.elim
 | .cell p ty::l,K,h=>by
  unfold Qn1 at h;split at h
  .rename_i i k hx
   have hv:=hr.vals p;rw [hx] at hv;obtain ⟨_,hL,hp⟩:=hv;have qG:∀ r,hpG σ.h i=some r->_:=fun r hr'=>Qhq hr.conc hr' hL
   split at h
   .rename_i y hy
    split at h
    .rename_i hk
     obtain ⟨r,h1,s,h2,h3⟩:=h;obtain ⟨q,vs,g1,g2,g3,g4⟩:=Qmh hT hr l _ h3;obtain ⟨v,h5,h6⟩:=QfZ hr.conc h1 hL h2;refine ⟨.s s::q,v::vs,g1,⟨by simp [g2.1],fun k s e=>?_⟩,by simp [g3],?_⟩
     .cases k with
      | zero=>injection e with e;subst e;exact ⟨_,rfl,h6⟩
      | succ k=>exact g2.2 k s e
     .rw [List.mapM_cons]
      have hl:(do loadVar ty (<- asAddr (a.tmps.getD p undef)):Sem Value).run P w= .ok v w:=by
       rw [hp];simp [asAddr,loadVar,(hT ty y hy).agg w,hk,load,Sem.run,h5,pure]
      simp only [Sem.run_bind] at hl;simp only [Qjy,Sem.run_bind,Sem.run_pure];rw [hl];simp only [Result.andThen_ok,g4]
    .rename_i hk
     obtain ⟨r,h1,c,⟨h2,h2'⟩,h3⟩:=h;obtain ⟨q,vs,g1,g2,g3,g4⟩:=Qmh hT hr l _ h3;obtain ⟨us,h5,h6⟩:=QgI (P:=P) hr.conc h1 hL k c h2';rw [h2] at h6;refine ⟨.agg c::q,.agg us.toArray::vs,g1,⟨by simp [g2.1],fun k s e=>?_⟩,by simp [g3],?_⟩
     .cases k with
      | zero=>injection e with e;subst e;exact ⟨_,rfl,⟨_,rfl,h5⟩⟩
      | succ k=>exact g2.2 k s e
     .rw [List.mapM_cons]
      have hl:(do loadVar ty (<- asAddr (a.tmps.getD p undef)):Sem Value).run P w= .ok (.agg us.toArray) w:=by
       rw [hp];simp [asAddr,loadVar,(hT ty y hy).agg w,hk,(hT ty y hy).sizeOf w,h6]
      simp only [Sem.run_bind] at hl;simp only [Qjy,Sem.run_bind,Sem.run_pure];rw [hl];simp only [Result.andThen_ok,g4]
   .exact h.elim
  .exact h.elim
def Qkg:Nat->List AV->Tm
 | _,[]=> []
 | i,x::l=>(i,.a x)::Qkg (i+1) l
def Qc4:Nat->List Row->Hl
 | _,[]=> []
 | i,x::l=>(i,some x)::Qc4 (i+1) l
theorem QiL:∀ (l:List AV) (i t:Nat),tmG (Qkg i l) t=match (if i<=t then l[t-i]? else none) with|some x=> .a x|none=> .unk
 | [],i,t=>by
  show TV.unk=_;split
  .rename_i h;split at h<;>simp at h
  .rfl
 | x::l,i,t=>by
  show tmG ((i,.a x)::Qkg (i+1) l) t=_;rw [Qcd,QiL l (i+1) t]
  by_cases h1:t=i
  .subst h1;simp
  .rw [if_neg h1]
   by_cases h2:i<=t
   .rw [if_pos (by omega),if_pos h2,show t-i=(t-(i+1))+1 by omega];rfl
   .rw [if_neg (by omega),if_neg h2]
theorem Qdc:∀ (l:List Row) (i n:Nat),hpG (Qc4 i l) n=if i<=n then l[n-i]? else none
 | [],i,n=>by show none=_;split<;>simp
 | x::l,i,n=>by
  show hpG ((i,some x)::Qc4 (i+1) l) n=_;rw [Qbs];unfold Hp.set;rw [Qdc l (i+1) n]
  by_cases h1:n=i
  .subst h1;simp
  .rw [if_neg h1]
   by_cases h2:i<=n
   .rw [if_pos (by omega),if_pos h2,show n-i=(n-(i+1))+1 by omega];rfl
   .rw [if_neg (by omega),if_neg h2]
def Qw7 (R:Res) (H:List Row):Hl:=Qc4 H.length R.nw++(upL R.up (Qc4 0 H))
theorem QkL {α:Type} (l m:List (Nat × α)) (n:Nat):QaW (l++m) n=match QaW l n with|some x=>some x|none=>QaW m n:=by
 induction l with
 | nil=>rfl
 | cons p l ih =>
  obtain ⟨k,x⟩:=p;show QaW ((k,x)::(l++m)) n=_;rw [QaY,QaY]
  by_cases h:n=k
  .rw [if_pos h,if_pos h]
  .rw [if_neg h,if_neg h,ih]
theorem Ql4:∀ (l:List Row) (i n:Nat),QaW (Qc4 i l) n=if i<=n then (l[n-i]?).map some else none
 | [],i,n=>by show none=_;split<;>simp
 | x::l,i,n=>by
  show QaW ((i,some x)::Qc4 (i+1) l) n=_;rw [QaY,Ql4 l (i+1) n]
  by_cases h1:n=i
  .subst h1;simp
  .rw [if_neg h1]
   by_cases h2:i<=n
   .rw [if_pos (by omega),if_pos h2,show n-i=(n-(i+1))+1 by omega];rfl
   .rw [if_neg (by omega),if_neg h2]
theorem Qd5 (R:Res) (H:List Row) (vM:∀ p∈R.up,p.1<H.length):hpG (Qw7 R H)=R.app H:=by
 funext n
 have e:hpG (Qw7 R H) n=match QaW (Qc4 H.length R.nw) n with|some r=>r|none=>hpG (upL R.up (Qc4 0 H)) n:=by
  unfold Qw7;show (match QaW (Qc4 H.length R.nw++upL R.up (Qc4 0 H)) n with|some r=>r|none=>none)=_;rw [QkL];cases QaW (Qc4 H.length R.nw) n<;>rfl
 rw [e,Ql4];unfold Res.app
 by_cases h:H.length<=n
 .rw [if_pos h,Nat.ble_eq_true_of_le h]
  simp only []
  cases e2:R.nw[n-H.length]? with
  | some r=>rfl
  | none =>
   show hpG (upL R.up (Qc4 0 H)) n=none;rw [Qp4,Qdc]
   cases e3:QaW R.up n with
   | some x=>exact absurd (vM _ (QbD e3)) (by simp;omega)
   | none=>first|(simp;done)|(simp;omega)
 .rw [if_neg h,Qga (by omega)]
  show hpG (upL R.up (Qc4 0 H)) n=_;rw [Qp4,Qdc];rw [if_pos (Nat.zero_le _),Nat.sub_zero]
  all_goals (cases QaW R.up n<;>rfl)
def Qzd (H:List Row):List (Nat × Option Row)->Bool
 | []=>true
 | p::l=>(match H[p.1]? with|some r=>r.own|none=>false)&&(match p.2 with|some r=>r.own|none=>true)&&Qzd H l
def QxM:List Row->Bool
 | []=>true
 | r::l=>r.own&&QxM l
def ltB (m:Rn) (k:Nat):Bool:=m.all fun p=>Nat.blt p.1 k
def QcV:List SV->Bool
 | []=>true
 | s::l=>match s.flat with
  | true=>QcV l
  | false=>false
theorem QpO:∀ {l:List SV} {k:Nat} {s:SV},QcV l=true->l[k]?=some s->s.flat=true
 | a::l,0,s,h,e=>by
  injection e with e;subst e
  unfold QcV at h;split at h
  .assumption
  .cases h
 | a::l,k+1,s,h,e=>by
  unfold QcV at h;split at h
  .exact QpO (l:=l) (k:=k) h (by simpa using e)
  .cases h
def frS (c es:Nat) (cells:List SV) (s:SV):SV:=match s with
 | .sl i o n=>(match Nat.beq i c with
  | true=>(match Nat.beq o 0 with
   | true=> .fz es n cells
   | false=> .sl i o n)
  | false=> .sl i o n)
 | s=>s
def frA (c es:Nat) (cells:List SV) (x:AV):AV:=match x with
 | .s x=> .s (frS c es cells x)
 | .agg l=> .agg (l.map (frS c es cells))
def frT (c es:Nat) (cells:List SV) (x:TV):TV:=match x with
 | .unk=> .unk
 | .a x=> .a (frA c es cells x)
 | .tup l=> .tup (l.map (frA c es cells))
def QBr (c es:Nat) (cells:List SV):Tm->Tm
 | []=> []
 | p::l=>(p.1,frT c es cells p.2)::QBr c es cells l
def frR (c es:Nat) (cells:List SV) (r:Option Row):Option Row:=match r with
 | some r=>some ⟨r.own,r.es,r.cells.map (frS c es cells)⟩
 | none=>none
def Qz1 (c es:Nat) (cells:List SV):Hl->Hl
 | []=> []
 | p::l=>(p.1,frR c es cells p.2)::Qz1 c es cells l
def QG1 (c es:Nat) (cells:List SV) (σ:St):St:=⟨QBr c es cells σ.tm,(c,none)::Qz1 c es cells σ.h,σ.ids⟩
def frN (ρ:Nm) (c:Nat) (cells:List SV):Nm:=⟨ρ.nm,fun L k=>ρ.fr L k\/(ρ c=some (.at L)/\k=cells)⟩
theorem QkG (ρ:Nm) (c:Nat) (cells:List SV):Ext ρ (frN ρ c cells):=⟨fun _ _ h=>h,fun _ _ h=> .inl h⟩
theorem Qzj {ρ:Nm} {c es:Nat} {cells:List SV} (vS:∀ L,ρ c=some (.at L)->L.es=es) (h0:ρ c=some .empty->cells= []) {s:SV} {v:Value} (h:VS ρ s v):VS (frN ρ c cells) (frS c es cells s) v:=by
 have hx:=h.ext (QkG ρ c cells);unfold frS;split
 .rename_i i o n
  split
  .rename_i e1
   split
   .rename_i e2
    obtain rfl:=Nat.eq_of_beq_eq_true e1;obtain rfl:=Nat.eq_of_beq_eq_true e2;obtain ⟨A,cc,g1,g2,g3⟩:=h;refine ⟨A,cc,g1,g2,?_⟩;rcases g3 with ⟨L,g4,g5⟩|⟨g4,g5⟩
    .refine .inl ⟨L,.inr ⟨g4,rfl⟩,vS L g4,?_⟩
     rcases g5 with ⟨rfl,g6⟩|g5
     .exact .inl ⟨rfl,by simpa using g6⟩
     .exact .inr g5
    .exact .inr ⟨h0 g4,g5⟩
   .exact hx
  .exact hx
 .exact hx
theorem QCE {ρ:Nm} {c es:Nat} {cells:List SV} (vS:∀ L,ρ c=some (.at L)->L.es=es) (h0:ρ c=some .empty->cells= []) {x:AV} {v:Value} (h:VA ρ x v):VA (frN ρ c cells) (frA c es cells x) v:=by
 cases x with
 | s x=>exact Qzj vS h0 h
 | agg l =>
  obtain ⟨cs,rfl,h3⟩:=h
  exact ⟨cs,rfl,by simpa using h3.1,fun q s e=>by
   rw [List.getElem?_map] at e
   cases e0:l[q]? with
   | none=>rw [e0] at e;cases e
   | some s0 =>
    rw [e0] at e;injection e with e;subst e
    obtain ⟨v,h4,h5⟩:=h3.2 q _ e0
    exact ⟨v,h4,Qzj vS h0 h5⟩⟩
theorem Qzk {ρ:Nm} {c es:Nat} {cells:List SV} (vS:∀ L,ρ c=some (.at L)->L.es=es) (h0:ρ c=some .empty->cells= []) {x:TV} {v:Value} (h:VT ρ x v):VT (frN ρ c cells) (frT c es cells x) v:=by
 cases x with
 | unk=>exact trivial
 | a x=>exact QCE vS h0 h
 | tup l =>
  obtain ⟨cs,rfl,h3⟩:=h
  exact ⟨cs,rfl,by simpa using h3.1,fun q s e=>by
   rw [List.getElem?_map] at e
   cases e0:l[q]? with
   | none=>rw [e0] at e;cases e
   | some s0 =>
    rw [e0] at e;injection e with e;subst e
    obtain ⟨v,h4,h5⟩:=h3.2 q _ e0
    exact ⟨v,h4,QCE vS h0 h5⟩⟩
theorem Qji (c es:Nat) (cells:List SV) (t:Nat):∀ l:Tm,tmG (QBr c es cells l) t=frT c es cells (tmG l t)
 | []=>rfl
 | p::l=>by
  obtain ⟨k,x⟩:=p;show tmG ((k,frT c es cells x)::QBr c es cells l) t=_;rw [Qcd,Qcd];split
  .rfl
  .exact Qji c es cells t l
theorem QlY (c es:Nat) (cells:List SV) (n:Nat):∀ l:Hl,hpG (Qz1 c es cells l) n=frR c es cells (hpG l n)
 | []=>rfl
 | p::l=>by
  obtain ⟨k,x⟩:=p;show hpG ((k,frR c es cells x)::Qz1 c es cells l) n=_;rw [Qbs,Qbs];unfold Hp.set;split
  .rfl
  .exact QlY c es cells n l
theorem Qku {F:Fr} {ρ:Nm} {h:Hl} {w:World} (hc:Conc F ρ (hpG h) w) {c es:Nat} {cells:List SV} (hn:hpG h c=some ⟨true,es,cells⟩) (hf:QcV cells=true) :
  (∀ L,ρ c=some (.at L)->L.es=es)/\(ρ c=some .empty->cells= [])/\Conc F (frN ρ c cells) (hpG ((c,none)::Qz1 c es cells h)) w:=by
 have qG:=hc.rows c _ hn;have vS:∀ L,ρ c=some (.at L)->L.es=es:=fun L hL=>by unfold RowOk at qG;rw [hL] at qG;exact qG.1
 have h0:ρ c=some .empty->cells= []:=fun hL=>by unfold RowOk at qG;rw [hL] at qG;exact qG
 have key:∀ n r,hpG ((c,none)::Qz1 c es cells h) n=some r->n≠c/\∃ r0,hpG h n=some r0/\r=⟨r0.own,r0.es,r0.cells.map (frS c es cells)⟩:=fun n r hr=>by
  rw [Qbs] at hr;unfold Hp.set at hr;split at hr
  .cases hr
  .rename_i fY
   rw [QlY] at hr
   cases e:hpG h n with
   | none=>rw [e] at hr;cases hr
   | some r0=>rw [e] at hr;injection hr with hr;exact ⟨fY,r0,rfl,hr.symm⟩
 refine ⟨vS,h0,fun n r hr=>?_,fun n r m s Ln Lm h1 h2 h3 h4 h5 h6=>?_,fun n r L h1 h2 h3=>?_,hc.os,hc.tape,hc.output,hc.size,hc.block,fun L k hk=>?_⟩
 .obtain ⟨_,r0,g1,rfl⟩:=key n r hr
  exact QdH (ρ':=frN ρ c cells) (f:=frS c es cells) (hc.rows n r0 g1) rfl (fun s v=>Qzj vS h0) ⟨r0.own,r0.es,r0.cells.map (frS c es cells)⟩ rfl (fun x=>x) (fun k s hk=>Qgw _ _ k s hk) (by simp)
 .obtain ⟨_,r0,g1,rfl⟩:=key n r h1
  obtain ⟨_,s0,g2,rfl⟩:=key m s h3;exact hc.apart n r0 m s0 Ln Lm g1 h2 g2 h4 h5 h6
 .obtain ⟨_,r0,g1,rfl⟩:=key n r h1
  exact hc.mine n r0 L g1 h2 h3
 .rcases hk with hk|⟨hk,rfl⟩
  .obtain ⟨f1,f2,f3⟩:=hc.frz L k hk
   refine ⟨f1,fun n r Ln h1 h2 h3=>?_,f3⟩;obtain ⟨_,r0,g1,rfl⟩:=key n r h1;exact f2 n r0 Ln g1 h2 h3
  .refine ⟨?_,fun n r Ln h1 h2 h3=>?_,.inr (hc.mine c _ L hn rfl hk)⟩
   .unfold RowOk at qG
    rw [hk] at qG;obtain ⟨g1,g2,cs,t,fz,g3,g4,_,g6⟩:=qG;refine ⟨g2,cs,t,fz,g3,g4,fun j s hs=>?_⟩;obtain ⟨v,q1,q2⟩:=g6 j s hs;exact ⟨v,q1,q2.vf (QpO hf hs)⟩
   .obtain ⟨fY,r0,g1,rfl⟩:=key n r h1
    exact hc.apart n r0 c _ Ln L g1 h2 hn fY h3 hk
theorem QB6 {G:Gm} {F:Fr} {N:Nat} {σ:St} {ρ:Nm} {a:Act} {w:World} (hr:Rel G F N σ ρ a w) {c es:Nat} {cells:List SV} (hn:hpG σ.h c=some ⟨true,es,cells⟩) (hf:QcV cells=true):Rel G F N (QG1 c es cells σ) (frN ρ c cells) a w:=by
 obtain ⟨vS,h0,hc⟩:=Qku hr.conc hn hf;exact ⟨hr.defers,hr.tmps,fun t=>by show VT _ (tmG (QBr c es cells σ.tm) t) _;rw [Qji];exact Qzk vS h0 (hr.vals t),hc,hr.ids,hr.ext.trans (QkG ρ c cells),hr.dom⟩
inductive Fin (H:List Row) (Post:Res->Prop):St->TV->Prop
 | mk {σ:St} {v:TV} (R:Res) (m:Rn) (h1:Post R) (h2:TVm m v R.v) (h3:HlL m (hpG σ.h) (Qw7 R H)) (h4:(Qzd H R.up&&QxM R.nw&&idn m H.length&&ltB m (H.length+R.nw.length))=true):Fin H Post σ v
 | mv {σ:St} {v:TV} (R:Res) (m:Rn) (h1:Post R) (h2:TVm m v R.v) (h3:HlV m (hpG σ.h) (Qw7 R H)) (h4:(Qzd H R.up&&QxM R.nw&&idn m H.length&&ltB m (H.length+R.nw.length))=true):Fin H Post σ v
 | fr {σ:St} {v:TV} {c es:Nat} {cells:List SV} (hn:hpG σ.h c=some ⟨true,es,cells⟩) (hf:QcV cells=true) (h:Fin H Post (QG1 c es cells σ) (frT c es cells v)):Fin H Post σ v
def QG0 (T:Tys) (H:List Row) (Post:Res->Prop) (res:List ResultVar):Exit->St->Prop
 | .normal,σ=>Qn1 T σ res fun l=>Fin H Post σ (Qba l)
 | .ret,σ=>Qn1 T σ res fun l=>Fin H Post σ (Qba l)
 | _,_=>False
theorem Qfc {H:List Row}:∀ {l:List (Nat × Option Row)},Qzd H l=true->∀ p∈l,(∃ r,H[p.1]?=some r/\r.own=true)/\∀ r,p.2=some r->r.own=true
 | [],_,p,hp=>by cases hp
 | q::l,h,p,hp=>by
  unfold Qzd at h;rw [Bool.and_eq_true,Bool.and_eq_true] at h;rcases List.mem_cons.1 hp with rfl|hp
  .refine ⟨?_,fun r hr=>?_⟩
   .have:=h.1.1
    split at this
    .rename_i r hr;exact ⟨r,hr,this⟩
    .cases this
   .have:=h.1.2;rw [hr] at this;exact this
  .exact Qfc h.2 p hp
theorem Qe0:∀ {l:List Row},QxM l=true->∀ r∈l,r.own=true
 | [],_,r,hr=>by cases hr
 | q::l,h,r,hr=>by
  unfold QxM at h;rw [Bool.and_eq_true] at h;rcases List.mem_cons.1 hr with rfl|hr
  .exact h.1
  .exact Qe0 h.2 r hr
theorem Qw8 {H:List Row} {Post:Res->Prop} {σ:St} {x:TV} (h:Fin H Post σ x):∀ {G:Gm} {F:Fr} {N:Nat} {ρ1:Nm} {a:Act} {w:World} {v:Value},G.k=H.length->Rel G F N σ ρ1 a w->VT ρ1 x v ->
  ∃ (R:Res) (ρ':Nm),Post R/\Ext G.ρ0 ρ'/\(∀ n,H.length+R.nw.length<=n->ρ' n=none)/\VT ρ' R.v v/\Conc F ρ' (R.app H) w /\
   (∀ p∈R.up,∃ r,H[p.1]?=some r/\r.own=true)/\(∀ r∈R.nw,r.own=true)/\(∀ p∈R.up,∀ r,p.2=some r->r.own=true):=by
 induction h with
 | mk R m g1 g2 g3 g4 =>
  intro G F N ρ1 a w v hk hr hv;rw [Bool.and_eq_true,Bool.and_eq_true,Bool.and_eq_true] at g4;obtain ⟨⟨⟨g5,g6⟩,g7⟩,g8⟩:=g4;have vM:=Qfc g5;refine ⟨R,Qgv m ρ1,g1,Qea g7 hk hr.dom hr.ext,fun n hn=>?_,QgR hv g2,?_,fun p hp=>(vM p hp).1,Qe0 g6,fun p hp=>(vM p hp).2⟩
  .rw [Qa5]
   cases e:QaW m n with
   | none=>rfl
   | some x =>
    have:=List.all_eq_true.1 g8 _ (QbD e);simp at this;omega
  .rw [<- Qd5 R H (fun p hp=>by obtain ⟨r,hr,_⟩:=(vM p hp).1;exact (List.getElem?_eq_some_iff.1 hr).1)]
   exact QfL hr.conc (QlX g3)
 | mv R m g1 g2 g3 g4 =>
  intro G F N ρ1 a w v hk hr hv;rw [Bool.and_eq_true,Bool.and_eq_true,Bool.and_eq_true] at g4;obtain ⟨⟨⟨g5,g6⟩,g7⟩,g8⟩:=g4;have vM:=Qfc g5;refine ⟨R,Qgv m ρ1,g1,Qea g7 hk hr.dom hr.ext,fun n hn=>?_,QgR hv g2,?_,fun p hp=>(vM p hp).1,Qe0 g6,fun p hp=>(vM p hp).2⟩
  .rw [Qa5]
   cases e:QaW m n with
   | none=>rfl
   | some x =>
    have:=List.all_eq_true.1 g8 _ (QbD e);simp at this;omega
  .rw [<- Qd5 R H (fun p hp=>by obtain ⟨r,hr,_⟩:=(vM p hp).1;exact (List.getElem?_eq_some_iff.1 hr).1)]
   exact Qet hr.conc (QpZ g3)
 | fr hn hf h ih =>
  intro G F N ρ1 a w v hk hr hv;obtain ⟨vS,h0,_⟩:=Qku hr.conc hn hf;exact ih hk (QB6 hr hn hf) (Qzk vS h0 hv)
theorem QlT {P : Program} (hm : P.follows .mixedOrders = true) {T : Tys} (hT : QaU P T) {f : FuncId} {fn : Func} {c : Code} {args : List AV} {H : List Row} {Post : Res -> Prop} (N : Nat) (res : List ResultVar) (hf : P.funcs[f]? = some fn) (hn : (fn.name == "runtime.NumGoroutine") = false)
  (hb:fn.body=some c) (hN:fn.ntmps=N) (hres:fn.results.toList=res) (gF:(Nat.ble args.length N&&Nat.ble H.length 1000)=true) (h:vc P T N H.length c ⟨Qkg 0 args,Qc4 0 H,[0]⟩ (QG0 T H Post res)):Fn P f args H Post:=by
 rw [Bool.and_eq_true] at gF;have GD:=Nat.le_of_ble_eq_true gF.1;have jI:=Nat.le_of_ble_eq_true gF.2;refine ⟨⟨fn,hf,hn,by rw [hb];rfl⟩,fun ρ w vs hdom hargs hc=>?_⟩;have hvl:vs.size=args.length:=by have:=hargs.1;simpa using this.symm
 refine calls_of_wp hf hb (wp_mono (Quz hm hT (G:=⟨ρ,H.length⟩) (F:=⟨w,QgX H ρ,ρ.fr⟩) (N:=N) rfl c _ _ ρ _ w h ⟨rfl,by simp [hN];omega,fun t=>?_,?_,fun n hn=>?_,Ext.refl _,hdom⟩) fun e a' w' hq=>?_)
 .rw [QiL]
  by_cases ht:t<args.length
  .rw [if_pos (Nat.zero_le _),Nat.sub_zero]
   obtain ⟨v,h1,h2⟩:=hargs.2 t _ (List.getElem?_eq_getElem ht);rw [List.getElem?_eq_getElem ht];have JM:vs[t]?=some v:=by simpa using h1
   have:(vs++Array.replicate (fn.ntmps-vs.size) undef).getD t undef=v:=by
    rw [Array.getD_eq_getD_getElem?,Array.getElem?_append_left (by omega),JM];rfl
   rw [this];exact h2
  .rw [if_pos (Nat.zero_le _),Nat.sub_zero,List.getElem?_eq_none (by omega)];exact trivial
 .have:hpG (Qc4 0 H)=Hs H:=by funext n;rw [Qdc];simp [Hs]
  rw [this];exact hc
 .have:n<H.length:=by
   rcases Nat.lt_or_ge n H.length with h|h
   .exact h
   .exact absurd (hdom n h) hn
  have:n / Qei=0:=Nat.div_eq_of_lt (by unfold Qei;omega);rw [this];simp
 .obtain ⟨σ,ρ1,hr,hq⟩:=hq
  have done:Qn1 T σ res (fun l=>Fin H Post σ (Qba l))->bodyPost P fn (fun e w'=>∃ R v ρ',Post R/\e= .returned v/\Ext ρ ρ'/\(∀ n,H.length+R.nw.length<=n->ρ' n=none)/\VT ρ' R.v v/\Conc ⟨w,QgX H ρ,ρ.fr⟩ ρ' (R.app H) w' /\
    (∀ p∈R.up,∃ r,H[p.1]?=some r/\r.own=true)/\(∀ r∈R.nw,r.own=true)/\(∀ p∈R.up,∀ r,p.2=some r->r.own=true)) .ret a' w':=by
   intro hq;obtain ⟨l,vs',h1,h2,_,h4⟩:=Qmh hT hr res _ hq
   have gX:(results fn a'.tmps).run P w'= .ok (if h:vs'.toArray.size=1 then vs'.toArray[0] else .tuple vs'.toArray) w':=by
    rw [<- hres] at h4;rw [Qnl,Array.mapM_eq_mapM_toList];simp only [Sem.run_bind,Sem.run_map,h4,Result.andThen_ok,Sem.run_pure]
   have hvt:VT ρ1 (Qba l) (if h:vs'.toArray.size=1 then vs'.toArray[0] else .tuple vs'.toArray):=by
    rcases l with _|⟨x,_|⟨y,l⟩⟩
    .have:vs'= []:=by have:=h2.1;simpa using this.symm
     subst this;exact ⟨#[],rfl,h2⟩
    .obtain ⟨v,q1,q2⟩:=h2.2 0 x rfl
     have hl:vs'.length=1:=h2.1.symm;obtain ⟨_,rfl⟩:=List.length_eq_one_iff.1 hl;injection q1 with q1;subst q1
     exact q2
    .have hl:vs'.length=l.length+2:=h2.1.symm
     rw [dif_neg (by simp;omega)];exact ⟨vs'.toArray,rfl,h2⟩
   obtain ⟨R,ρ',g1,g2,g3,g4,g5,g6,g7,g8⟩:=Qw8 h1 (G:=⟨ρ,H.length⟩) rfl hr hvt;exact ⟨hr.defers,_,gX,R,_,ρ',g1,rfl,g2,g3,g4,g5,g6,g7,g8⟩
  cases e with
  | normal=>exact done hq
  | ret=>exact done hq
  | exit i=>exact hq.elim
  | goto i=>exact hq.elim
  | panic c=>exact hq.elim
  | outgrown=>exact hq.elim
end Go.Proofs.YtflaceijiphfdaaGreat
