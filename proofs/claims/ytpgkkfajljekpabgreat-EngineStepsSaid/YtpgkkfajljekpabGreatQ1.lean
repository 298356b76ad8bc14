import Derived.WalkKit
import Derived.WalkSpells
import Derived.WalkLawsBesides
import Derived.Deep.Draws
import Derived.BigQuiet
import Derived.Lib.Hide
import Derived.WideShapes
import Derived.OpenShut
import Derived.Orders
import Derived.Scope
import Derived.RowKit3
import Derived.Below
import Derived.Deep.AppendSrc
import Derived.Laws.CopyRow
import Derived.Laws.Slices
import Derived.Laws.Rows
import Derived.Laws.Shifts
import Derived.KernelRfl
import Derived.Laws.StructEq
import Derived.Laws.Small
import Derived.Laws.Unary
import Derived.Laws.Strings
import Derived.Laws.Strings2
import Derived.Laws.Concat
import Derived.Laws.MakeOwn
import Derived.Laws.Tables
import Derived.Laws.BytesString
import Derived.Laws.BytesArg
set_option linter.unusedSimpArgs false
set_option linter.unusedVariables false
set_option maxHeartbeats 0
set_option maxRecDepth 100000
namespace Go.Proofs.YtpgkkfajljekpabGreat
open Go.RowKit
def ws (xs:List Nat):List Value:=xs.map fun (x:Nat)=> .int .u32 x
def ys (xs:List Nat):List Value:=xs.map fun (x:Nat)=> .int .u8 x
def zs (xs:List Int):List Value:=xs.map fun (x:Int)=> .int .i64 x
@[simp] theorem ws_length (xs:List Nat):(ws xs).length=xs.length:=by simp [ws]
@[simp] theorem ys_length (xs:List Nat):(ys xs).length=xs.length:=by simp [ys]
@[simp] theorem zs_length (xs:List Int):(zs xs).length=xs.length:=by simp [zs]
def Wd (xs:List Nat):Prop:=∀ x∈xs,x<4294967296
theorem Wd.set {xs:List Nat} (h:Wd xs) (k x:Nat) (hx:x<4294967296):Wd (xs.set k x):=fun y hy=>by
 rcases List.mem_or_eq_of_mem_set hy with h1|h1
 .exact h y h1
 .omega
def Rd (w:World) (B:Nat) (A:Option Addr) (cs:List Value):Prop :=
 0<cs.length->∃ b off,A=some ⟨b,off,none⟩/\b<B/\∀ j,j<cs.length->w.cell? ⟨b,off+j,none⟩=cs[j]?
section
variable {w w':World} {B B' C:Nat} {A:Option Addr} {cs:List Value}
theorem Rd.nil:Rd w B A []:=fun h=>absurd h (by simp)
theorem Rd.keep (h:Rd w B A cs) (hk:∀ p:Addr,p.block<B->w'.cell? p=w.cell? p):Rd w' B A cs:=fun hn=>by
 obtain ⟨b,off,e,hb,hc⟩:=h hn;exact ⟨b,off,e,hb,fun j hj=>(hk _ hb).trans (hc j hj)⟩
theorem Rd.alloc (h:Rd w B A cs) (hB:B<=w.heap.size) (o:Obj):Rd (w.alloc o) B A cs:=h.keep fun p hp=>World.cell?_alloc_lt w o p (by omega)
theorem Rd.part (h:Rd w B A cs) (k n c:Nat) (hk:k+n<=cs.length) (hc:cs.length<=c):Rd w B (if c=k then A else A.map (·.add k)) ((cs.drop k).take n):=fun hn=>by
 have hl:((cs.drop k).take n).length=n:=by simp;omega
 rw [hl] at hn;obtain ⟨b,off,rfl,hb,_⟩:=h (by omega);rw [if_neg (by omega)];refine ⟨b,off+k,?_,hb,fun j hj=>?_⟩
 .by_cases hk0:k=0
  .simp [hk0,Addr.add]
  .simp [Addr.add,hk0]
 .grind
end
section
variable {w w':World} {B C:Nat} {e:TypeId} {s n c:Nat} {A:Option Addr} {v:Value} {cs:List Value}
end
theorem Rd.new (w:World) (cs:List Value) (t:TypeId) (fr:Nat × Nat):Rd (w.alloc (.cells cs.toArray t fr)) (w.heap.size+1) (some ⟨w.heap.size,0,none⟩) cs:=fun _ =>
 ⟨w.heap.size,0,rfl,Nat.lt_succ_self _,fun j _=>by rw [Nat.zero_add,World.cell?_alloc_mark];simp⟩
end Go.Proofs.YtpgkkfajljekpabGreat
namespace Go.Proofs.YtpgkkfajljekpabGreat
open Go.RowKit
theorem QwT {w:World} {a:Addr} {v:Value} (h:w.cell? a=some v):a.block<w.heap.size:=by
 rcases Nat.lt_or_ge a.block w.heap.size with h1|h1
 .exact h1
 .simp [World.cell?,Array.getElem?_eq_none h1] at h
def RowIn (k:IntKind) (w:World) (a:Option Addr) (len cap:Nat) (zs:List Int):Prop :=
 (a=none/\len=0/\cap=0/\zs= []) \/
 ∃ x,a=some x/\len<=cap/\cap<=maxLen/\zs.length=cap/\(∀ i,i<zs.length->w.cell? (x.add i)=some (.int k (zs.getD i 0)))/\∀ n∈zs,(Lit.int k n).wf=true
theorem RowIn.rd {k:IntKind} {w:World} {a:Option Addr} {len cap:Nat} {us:List Int} (h:RowIn k w a len cap us) :
  (us.take len).length=len/\Rd w w.heap.size a ((us.take len).map fun (x:Int)=> .int k x)/\∀ n∈us.take len,(Lit.int k n).wf=true:=by
 rcases h with ⟨rfl,rfl,rfl,rfl⟩|⟨x,rfl,hl,_,hz,hc,hw⟩
 .exact ⟨rfl,Rd.nil,fun n hn=>by simp at hn⟩
 .have gF:(us.take len).length=len:=by simp;omega
  refine ⟨gF,fun hn=>?_,fun n hn=>hw n (List.mem_of_mem_take hn)⟩;rw [List.length_map,gF] at hn;have h0:=hc 0 (by omega);obtain ⟨b,off,spot⟩:=x;have hs:spot=none:=by simpa [Addr.add] using World.cell?_spot h0
  subst hs;refine ⟨b,off,rfl,QwT h0,fun j hj=>?_⟩;rw [List.length_map,gF] at hj;have:=hc j (by omega);rw [show (⟨b,off,none⟩:Addr).add j=⟨b,off+j,none⟩ by by_cases h:j=0<;>simp [Addr.add,h]] at this;rw [this];have hju:j<us.length:=by omega
  simp [hj,hju]
theorem RowIn.cap {k:IntKind} {w:World} {a:Option Addr} {len cap:Nat} {us:List Int} (h:RowIn k w a len cap us):len<=cap:=by
 rcases h with ⟨_,rfl,rfl,_⟩|⟨x,_,hl,_⟩<;>omega
theorem wf_u64 {n:Int} (h:(Lit.int .u64 n).wf=true):∃ m:Nat,n=m/\m<18446744073709551616:=by
 simp [Lit.wf,IntKind.min,IntKind.max,IntKind.signed,IntKind.bits] at h;exact ⟨n.toNat,by omega,by omega⟩
end Go.Proofs.YtpgkkfajljekpabGreat
namespace Go.Proofs.YtpgkkfajljekpabGreat
open Go Go.RowKit
inductive SV where
 | unk
 | bool (b:Bool)
 | int (k:IntKind) (n:Int)
 | str (s:ByteArray)
 | nil
 | ptr (i o:Nat)
 | nilsl
 | sl (i o n:Nat)
 | fn (f:Fn) (cap:List (Nat × Nat))
 | fz (es n:Nat) (cells:List SV)
def SV.flat:SV->Bool
 | .ptr _ _| .sl _ _ _| .fn _ _| .fz _ _ _=>false
 | _=>true
inductive AV where
 | s (x:SV)
 | agg (l:List SV)
inductive TV where
 | unk
 | a (x:AV)
 | tup (l:List AV)
structure Loc where
 (b δ tot es:Nat)
inductive PL where
 | empty
 | at (L:Loc)
structure Nm where
 nm:Nat->Option PL
 fr:Loc->List SV->Prop
instance:CoeFun Nm fun _=>Nat->Option PL:=⟨Nm.nm⟩
structure Row where
 (own:Bool) (es:Nat) (cells:List SV)
abbrev Hp:=Nat->Option Row
def VS (ρ:Nm):SV->Value->Prop
 | .unk,_=>True
 | .bool b,v=>v= .bool b
 | .int k n,v=>v= .int k n
 | .str s,v=>v= .string s
 | .nil,v=>v= .pointer none
 | .ptr i o,v=>∃ L,ρ i=some (.at L)/\v= .pointer (some ⟨L.b,L.δ+o,none⟩)
 | .nilsl,v=>v= .slice none 0 0
 | .sl i o n,v=>∃ A c,v= .slice A n c/\n<=c /\
   ((∃ L,ρ i=some (.at L)/\((A=some ⟨L.b,L.δ+o,none⟩/\L.δ+o+c*L.es<=L.tot)\/c=0))\/(ρ i=some .empty/\c=0))
 | .fn f cap,v=>∃ vs:Array Value,v= .func f #[] vs/\vs.size=cap.length /\
   ∀ (k:Nat) (p:Nat × Nat),cap[k]?=some p->∃ L,ρ p.1=some (.at L)/\vs[k]?=some (Value.pointer (some ⟨L.b,L.δ+p.2,none⟩))
 | .fz es n cells,v=>∃ A c,v= .slice A n c/\n<=c/\((∃ L,ρ.fr L cells/\L.es=es/\((A=some ⟨L.b,L.δ,none⟩/\L.δ+c*L.es<=L.tot)\/c=0))\/(cells= []/\c=0))
def VSs (ρ:Nm) (l:List SV) (cs:List Value):Prop:=l.length=cs.length/\∀ (k:Nat) s,l[k]?=some s->∃ v,cs[k]?=some v/\VS ρ s v
def VA (ρ:Nm):AV->Value->Prop
 | .s x,v=>VS ρ x v
 | .agg l,v=>∃ cs,v= .agg cs/\VSs ρ l cs.toList
def VAs (ρ:Nm) (l:List AV) (cs:List Value):Prop:=l.length=cs.length/\∀ (k:Nat) s,l[k]?=some s->∃ v,cs[k]?=some v/\VA ρ s v
def VT (ρ:Nm):TV->Value->Prop
 | .unk,_=>True
 | .a x,v=>VA ρ x v
 | .tup l,v=>∃ vs,v= .tuple vs/\VAs ρ l vs.toList
structure Ext (ρ ρ':Nm):Prop where
 nm:∀ i p,ρ i=some p->ρ' i=some p
 fr:∀ L c,ρ.fr L c->ρ'.fr L c
instance {ρ ρ':Nm}:CoeFun (Ext ρ ρ') fun _=>∀ i p,ρ i=some p->ρ' i=some p:=⟨Ext.nm⟩
theorem Ext.refl (ρ:Nm):Ext ρ ρ:=⟨fun _ _ h=>h,fun _ _ h=>h⟩
theorem Ext.trans {a b c:Nm} (h:Ext a b) (k:Ext b c):Ext a c:=⟨fun i p hi=>k.nm i p (h.nm i p hi),fun L c h1=>k.fr L c (h.fr L c h1)⟩
theorem VS.ext {ρ ρ':Nm} (h:Ext ρ ρ') {s:SV} {v:Value} (hv:VS ρ s v):VS ρ' s v:=by
 cases s<;>simp only [VS] at hv |- <;>try exact hv
 case ptr i o=>obtain ⟨L,hL,e⟩:=hv;exact ⟨L,h _ _ hL,e⟩
 case sl i o n =>
  obtain ⟨A,c,e,hc,h1|h1⟩:=hv
  .obtain ⟨L,hL,h2⟩:=h1;exact ⟨A,c,e,hc,.inl ⟨L,h _ _ hL,h2⟩⟩
  .exact ⟨A,c,e,hc,.inr ⟨h _ _ h1.1,h1.2⟩⟩
 case fn f cap =>
  obtain ⟨vs,e,hn,hk⟩:=hv;exact ⟨vs,e,hn,fun k p hp=>by obtain ⟨L,hL,e⟩:=hk k p hp;exact ⟨L,h _ _ hL,e⟩⟩
 case fz es n cells =>
  obtain ⟨A,c,e,hc,h1⟩:=hv;refine ⟨A,c,e,hc,?_⟩;rcases h1 with ⟨L,h2,h3⟩|h1
  .exact .inl ⟨L,h.fr _ _ h2,h3⟩
  .grind
theorem VSs.ext {ρ ρ':Nm} (h:Ext ρ ρ') {l:List SV} {cs:List Value} (hv:VSs ρ l cs):VSs ρ' l cs :=
 ⟨hv.1,fun k s hs=>by obtain ⟨v,h1,h2⟩:=hv.2 k s hs;exact ⟨v,h1,h2.ext h⟩⟩
theorem VA.ext {ρ ρ':Nm} (h:Ext ρ ρ') {s:AV} {v:Value} (hv:VA ρ s v):VA ρ' s v:=by
 cases s with
 | s x=>exact VS.ext h hv
 | agg l=>obtain ⟨cs,e,hc⟩:=hv;exact ⟨cs,e,hc.ext h⟩
theorem VAs.ext {ρ ρ':Nm} (h:Ext ρ ρ') {l:List AV} {cs:List Value} (hv:VAs ρ l cs):VAs ρ' l cs :=
 ⟨hv.1,fun k s hs=>by obtain ⟨v,h1,h2⟩:=hv.2 k s hs;exact ⟨v,h1,h2.ext h⟩⟩
theorem VT.ext {ρ ρ':Nm} (h:Ext ρ ρ') {s:TV} {v:Value} (hv:VT ρ s v):VT ρ' s v:=by
 cases s with
 | unk=>exact trivial
 | a x=>exact VA.ext h hv
 | tup l=>obtain ⟨cs,e,hc⟩:=hv;exact ⟨cs,e,hc.ext h⟩
def RowOk (ρ:Nm) (w:World) (n:Nat) (r:Row):Prop :=
 match ρ n with
 | none=>False
 | some .empty=>r.cells= []
 | some (.at L)=>L.es=r.es/\L.δ+r.cells.length<=L.tot/\∃ c t fz,w.heap[L.b]?=some (.cells c t fz)/\c.size=L.tot/\(r.own=true->fz=(0,0)) /\
   ∀ k s,r.cells[k]?=some s->∃ v,c[L.δ+k]?=some v/\VS ρ s v
def VF (s:SV) (v:Value):Prop:=match s with
 | .unk=>True
 | .bool b=>v= .bool b
 | .int k n=>v= .int k n
 | .str s=>v= .string s
 | .nil=>v= .pointer none
 | .nilsl=>v= .slice none 0 0
 | _=>False
theorem VF.vs {s:SV} {v:Value} (h:VF s v) (ρ:Nm):VS ρ s v:=by
 cases s<;>first|exact h|exact h.elim
theorem VS.vf {ρ:Nm} {s:SV} {v:Value} (hf:s.flat=true) (h:VS ρ s v):VF s v:=by
 cases s<;>first|exact h|(simp [SV.flat] at hf)
def FzOk (w:World) (L:Loc) (cells:List SV):Prop :=
 L.δ+cells.length<=L.tot/\∃ c t fz,w.heap[L.b]?=some (.cells c t fz)/\c.size=L.tot/\∀ k s,cells[k]?=some s->∃ v,c[L.δ+k]?=some v/\VF s v
theorem FzOk.lt {w:World} {L:Loc} {cells:List SV} (h:FzOk w L cells):L.b<w.heap.size:=by grind [Array.getElem?_eq_some_iff,FzOk]
theorem FzOk.of_block {w w':World} {L:Loc} {cells:List SV} (h:FzOk w L cells) (hb:w'.heap[L.b]?=w.heap[L.b]?):FzOk w' L cells:=by grind [FzOk]
structure Fr where
 w0:World
 O:Nat->Prop
 f0:Loc->List SV->Prop
structure Conc (F:Fr) (ρ:Nm) (hp:Hp) (w:World):Prop where
 rows:∀ n r,hp n=some r->RowOk ρ w n r
 apart:∀ n r m s Ln Lm,hp n=some r->r.own=true->hp m=some s->n≠m->ρ n=some (.at Ln)->ρ m=some (.at Lm)->Ln.b≠Lm.b
 mine:∀ n r L,hp n=some r->r.own=true->ρ n=some (.at L)->F.O L.b\/F.w0.heap.size<=L.b
 os:w.os=F.w0.os
 tape:w.tape=F.w0.tape
 output:w.output=F.w0.output
 size:F.w0.heap.size<=w.heap.size
 block:∀ b,b<F.w0.heap.size->¬ F.O b->w.heap[b]?=F.w0.heap[b]?
 frz:∀ L c,ρ.fr L c->FzOk w L c/\(∀ n r Ln,hp n=some r->r.own=true->ρ n=some (.at Ln)->Ln.b≠L.b)/\(F.f0 L c\/F.O L.b\/F.w0.heap.size<=L.b)
theorem RowOk.ext {ρ ρ':Nm} (h:Ext ρ ρ') {w:World} {n:Nat} {r:Row} (hr:RowOk ρ w n r):RowOk ρ' w n r:=by
 unfold RowOk at hr |-
 cases e:ρ n with
 | none=>grind
 | some p =>
  rw [e] at hr;rw [h n p e]
  cases p with
  | empty=>exact hr
  | «at» L =>
   obtain ⟨h1,h0,c,t,fz,h2,h3,h4,h5⟩:=hr;exact ⟨h1,h0,c,t,fz,h2,h3,h4,fun k s hs=>by obtain ⟨v,hv,hw⟩:=h5 k s hs;exact ⟨v,hv,hw.ext h⟩⟩
theorem RowOk.lt {ρ:Nm} {w:World} {n:Nat} {r:Row} {L:Loc} (hr:RowOk ρ w n r) (e:ρ n=some (.at L)):L.b<w.heap.size:=by grind [RowOk,Array.getElem?_eq_some_iff]
theorem RowOk.of_block {ρ:Nm} {w w':World} {n:Nat} {r:Row} (hr:RowOk ρ w n r) (h:∀ L,ρ n=some (.at L)->w'.heap[L.b]?=w.heap[L.b]?):RowOk ρ w' n r:=by grind [RowOk]
theorem Conc.same {F:Fr} {ρ:Nm} {hp:Hp} {w w':World} (h:Conc F ρ hp w) (h1:w'.heap=w.heap) (h2:w'.os=w.os) (h3:w'.tape=w.tape) (h4:w'.output=w.output):Conc F ρ hp w' :=
 ⟨fun n r hr=>(h.rows n r hr).of_block (fun L _=>by rw [h1]),h.apart,h.mine,h2.trans h.os,h3.trans h.tape,h4.trans h.output,by rw [h1];exact h.size,fun b hb ho=>by rw [h1];exact h.block b hb ho,fun L c hf=>⟨(h.frz L c hf).1.of_block (by rw [h1]),(h.frz L c hf).2⟩⟩
theorem Conc.drew {F:Fr} {ρ:Nm} {hp:Hp} {w:World} (h:Conc F ρ hp w):Conc F ρ hp w.drew:=h.same rfl rfl rfl rfl
theorem Conc.ext {F:Fr} {ρ ρ':Nm} (h:Ext ρ ρ') (he:ρ'.fr=ρ.fr) {hp:Hp} {w:World} (hc:Conc F ρ hp w):Conc F ρ' hp w:=by
 have key:∀ n r L,hp n=some r->ρ' n=some (.at L)->ρ n=some (.at L):=fun n r L hn hL=>by
  have:=hc.rows n r hn;unfold RowOk at this
  cases e:ρ n with
  | none=>grind
  | some p=>rw [<- hL];exact (h n p e).symm
 exact ⟨fun n r hr=>(hc.rows n r hr).ext h,fun n r m s Ln Lm h1 h2 h3 h4 h5 h6=>hc.apart n r m s Ln Lm h1 h2 h3 h4 (key _ _ _ h1 h5) (key _ _ _ h3 h6),
  fun n r L h1 h2 h3=>hc.mine n r L h1 h2 (key _ _ _ h1 h3),hc.os,hc.tape,hc.output,hc.size,hc.block,
  fun L c hf=>by rw [he] at hf;obtain ⟨f1,f2,f3⟩:=hc.frz L c hf;exact ⟨f1,fun n r Ln h1 h2 h3=>f2 n r Ln h1 h2 (key _ _ _ h1 h3),f3⟩⟩
theorem Conc.less {F:Fr} {ρ:Nm} {hp qC:Hp} {w:World} (hc:Conc F ρ hp w) (h:∀ n r,qC n=some r->hp n=some r):Conc F ρ qC w :=
 ⟨fun n r hr=>hc.rows n r (h n r hr),fun n r m s Ln Lm h1 h2 h3=>hc.apart n r m s Ln Lm (h _ _ h1) h2 (h _ _ h3),fun n r L h1=>hc.mine n r L (h _ _ h1),hc.os,hc.tape,hc.output,hc.size,hc.block,
  fun L c hf=>by obtain ⟨f1,f2,f3⟩:=hc.frz L c hf;exact ⟨f1,fun n r Ln h1=>f2 n r Ln (h _ _ h1),f3⟩⟩
def Hp.set (hp:Hp) (n:Nat) (r:Option Row):Hp:=fun m=>if m=n then r else hp m
def Nm.set (ρ:Nm) (n:Nat) (p:PL):Nm:=⟨fun m=>if m=n then some p else ρ m,ρ.fr⟩
theorem Nm.set_ext {ρ:Nm} {n:Nat} (h:ρ n=none) (p:PL):Ext ρ (Nm.set ρ n p):=⟨fun i q hi=>by
 unfold Nm.set;simp only [];split
 .grind
 .exact hi,fun _ _ h=>h⟩
theorem Nm.set_same (ρ:Nm) (n:Nat) (p:PL):Nm.set ρ n p n=some p:=by simp [Nm.set]
theorem Conc.dom {F:Fr} {ρ:Nm} {hp:Hp} {w:World} (hc:Conc F ρ hp w) {n:Nat} (h:ρ n=none):hp n=none:=by
 cases e:hp n with
 | none=>rfl
 | some r=>have:=hc.rows n r e;unfold RowOk at this;rw [h] at this;exact this.elim
theorem Conc.new {F:Fr} {ρ:Nm} {hp:Hp} {w:World} (hc:Conc F ρ hp w) {n:Nat} (hn:ρ n=none) (es:Nat) (cells:List SV) (c:Array Value) (t:TypeId) (hl:cells.length<=c.size)
  (hv:∀ (k:Nat) s,cells[k]?=some s->∃ v,c[k]?=some v/\VS ρ s v) :
  Ext ρ (Nm.set ρ n (.at ⟨w.heap.size,0,c.size,es⟩))/\Conc F (Nm.set ρ n (.at ⟨w.heap.size,0,c.size,es⟩)) (Hp.set hp n (some ⟨true,es,cells⟩)) (w.alloc (.cells c t)):=by
 have hx:=Nm.set_ext hn (.at ⟨w.heap.size,0,c.size,es⟩);have hd:=hc.dom hn;refine ⟨hx,?_⟩
 have old:∀ m r L,hp m=some r->Nm.set ρ n (.at ⟨w.heap.size,0,c.size,es⟩) m=some (.at L)->L.b<w.heap.size:=fun m r L hm hL=>by
  have h1:=(hc.ext hx rfl).rows m r hm;exact h1.lt hL
 refine ⟨fun m r hr=>?_,fun m r k s Ln Lm h1 h2 h3 h4 h5 h6=>?_,fun m r L h1 h2 h3=>?_,hc.os,hc.tape,hc.output,?_,fun b hb ho=>?_,fun L c' hf=>?_⟩
 .unfold Hp.set at hr
  split at hr
  .rename_i e;subst e;injection hr with hr;subst hr
   unfold RowOk;rw [Nm.set_same];refine ⟨rfl,by simpa using hl,c,t,(0,0),heap_alloc_new w _,rfl,fun _=>rfl,fun k s hs=>?_⟩;obtain ⟨v,h1,h2⟩:=hv k s hs;exact ⟨v,by simpa using h1,h2.ext hx⟩
  .exact ((hc.rows m r hr).ext hx).of_block fun L hL=>Below.heap_alloc _ _ _ (old m r L hr hL)
 .unfold Hp.set at h1 h3
  split at h1
  .rename_i e;subst e
   split at h3
   .grind
   .rw [Nm.set_same] at h5;injection h5 with h5;injection h5 with h5;subst h5
    have:=old k s Lm h3 h6;simp only [];omega
  .split at h3
   .rename_i e;subst e
    rw [Nm.set_same] at h6;injection h6 with h6;injection h6 with h6;subst h6
    have:=old m r Ln h1 h5;simp only [];omega
   .exact (hc.ext hx rfl).apart m r k s Ln Lm h1 h2 h3 h4 h5 h6
 .unfold Hp.set at h1
  split at h1
  .rename_i e;subst e
   rw [Nm.set_same] at h3;injection h3 with h3;injection h3 with h3;subst h3
   exact .inr hc.size
  .exact (hc.ext hx rfl).mine m r L h1 h2 h3
 .have:=hc.size;simp;omega
 .have:=hc.size
  rw [Below.heap_alloc _ _ _ (by omega)];exact hc.block b hb ho
 .obtain ⟨f1,_,f3⟩:=(hc.ext hx rfl).frz L c' hf
  have flt:=f1.lt;refine ⟨f1.of_block (Below.heap_alloc _ _ _ flt),fun m r Ln h1 h2 h3=>?_,f3⟩;unfold Hp.set at h1;split at h1
  .rename_i e;subst e
   rw [Nm.set_same] at h3;injection h3 with h3;injection h3 with h3;subst h3
   simp only [];omega
  .grind
theorem Conc.newEmpty {F:Fr} {ρ:Nm} {hp:Hp} {w:World} (hc:Conc F ρ hp w) {n:Nat} (hn:ρ n=none) (es:Nat) :
  Ext ρ (Nm.set ρ n .empty)/\Conc F (Nm.set ρ n .empty) (Hp.set hp n (some ⟨true,es,[]⟩)) w:=by
 have hx:=Nm.set_ext hn .empty;have hd:=hc.dom hn;refine ⟨hx,?_⟩;have hc':=hc.ext hx rfl;refine ⟨fun m r hr=>?_,fun m r k s Ln Lm h1 h2 h3 h4 h5 h6=>?_,fun m r L h1 h2 h3=>?_,hc.os,hc.tape,hc.output,hc.size,hc.block,fun L c' hf=>?_⟩
 .unfold Hp.set at hr
  split at hr
  .rename_i e;subst e;injection hr with hr;subst hr
   unfold RowOk;rw [Nm.set_same]
  .exact hc'.rows m r hr
 .unfold Hp.set at h1 h3
  split at h1
  .simp_all [Nm.set_same,Hp,Nm.set,Hp.set]
  .split at h3
   .simp_all [Nm.set_same,Hp,Nm.set,Hp.set]
   .exact hc'.apart m r k s Ln Lm h1 h2 h3 h4 h5 h6
 .unfold Hp.set at h1
  split at h1
  .simp_all [Nm.set_same,Hp,Nm.set,Hp.set]
  .exact hc'.mine m r L h1 h2 h3
 .obtain ⟨f1,_,f3⟩:=hc'.frz L c' hf
  refine ⟨f1,fun m r Ln h1 h2 h3=>?_,f3⟩;unfold Hp.set at h1;split at h1
  .simp_all [Nm.set_same,Hp,Nm.set,Hp.set]
  .grind
theorem Conc.write {F:Fr} {ρ:Nm} {hp:Hp} {w w':World} (hc:Conc F ρ hp w) {n:Nat} {r:Row} {L:Loc} (hr:hp n=some r) (ho:r.own=true) (hL:ρ n=some (.at L))
  {c':Array Value} {t:TypeId} (cells:List SV) (h0:w'.heap[L.b]?=some (.cells c' t (0,0))) (qA:c'.size=L.tot) (hll:L.δ+cells.length<=L.tot)
  (hv:∀ (k:Nat) s,cells[k]?=some s->∃ v,c'[L.δ+k]?=some v/\VS ρ s v)
  (h1:∀ b,b≠L.b->w'.heap[b]?=w.heap[b]?) (h2:w'.heap.size=w.heap.size) (h3:w'.os=w.os) (h4:w'.tape=w.tape) (h5:w'.output=w.output) :
  Conc F ρ (Hp.set hp n (some { r with cells:=cells })) w':=by
 have hr0:=hc.rows n r hr;refine ⟨fun m s hs=>?_,fun m s k u Ln Lm e1 e2 e3 e4 e5 e6=>?_,fun m s M e1 e2 e3=>?_,h3.trans hc.os,h4.trans hc.tape,h5.trans hc.output,by rw [h2];exact hc.size,fun b hb qH=>?_,fun M c2 hf=>?_⟩
 .unfold Hp.set at hs
  split at hs
  .rename_i e;subst e;injection hs with hs;subst hs
   unfold RowOk at hr0 |-;rw [hL] at hr0 |-;exact ⟨hr0.1,hll,c',t,(0,0),h0,qA,fun _=>rfl,hv⟩
  .rename_i fQ
   refine (hc.rows m s hs).of_block fun M hM=>h1 _ ?_
   exact fun e=>hc.apart n r m s L M hr ho hs (fun e=>fQ e.symm) hL hM e.symm
 .unfold Hp.set at e1 e3
  split at e1
  .rename_i e;subst e;injection e1 with e1;subst e1
   split at e3
   .grind
   .exact hc.apart m r k u Ln Lm hr ho e3 e4 e5 e6
  .split at e3
   .rename_i e;subst e
    exact hc.apart m s k r Ln Lm e1 e2 hr e4 e5 e6
   .exact hc.apart m s k u Ln Lm e1 e2 e3 e4 e5 e6
 .unfold Hp.set at e1
  split at e1
  .rename_i e;subst e;exact hc.mine m r M hr ho e3
  .exact hc.mine m s M e1 e2 e3
 .have ZI:b≠L.b:=by
   intro e;rcases hc.mine n r L hr ho hL with h|h
   .grind
   .omega
  rw [h1 b ZI];exact hc.block b hb qH
 .obtain ⟨f1,f2,f3⟩:=hc.frz M c2 hf
  refine ⟨f1.of_block (h1 _ (fun e=>f2 n r L hr ho hL e.symm)),fun m s Ln e1 e2 e3=>?_,f3⟩;unfold Hp.set at e1;split at e1
  .grind
  .grind
theorem Conc.grow {F:Fr} {ρ:Nm} {hp:Hp} {w w':World} (hc:Conc F ρ hp w) {n m:Nat} {r:Row} {L:Loc} (hm:ρ m=none) (hr:hp n=some r) (ho:r.own=true) (hL:ρ n=some (.at L))
  {c':Array Value} {t:TypeId} (cells:List SV) (h0:w'.heap[L.b]?=some (.cells c' t (0,0))) (qA:c'.size=L.tot) (hll:L.δ+cells.length<=L.tot)
  (hv:∀ (k:Nat) s,cells[k]?=some s->∃ v,c'[L.δ+k]?=some v/\VS ρ s v)
  (h1:∀ b,b≠L.b->w'.heap[b]?=w.heap[b]?) (h2:w'.heap.size=w.heap.size) (h3:w'.os=w.os) (h4:w'.tape=w.tape) (h5:w'.output=w.output) :
  Ext ρ (Nm.set ρ m (.at L))/\Conc F (Nm.set ρ m (.at L)) (Hp.set (Hp.set hp n none) m (some { r with cells:=cells })) w':=by
 have hx:=Nm.set_ext hm (.at L);refine ⟨hx,?_⟩;have hd:=hc.dom hm;have hmn:m≠n:=by rintro rfl;rw [hm] at hL;cases hL
 have hw:=(hc.ext hx rfl).write hr ho (hx _ _ hL) cells h0 qA hll (fun k s hs=>by obtain ⟨v,a,b⟩:=hv k s hs;exact ⟨v,a,b.ext hx⟩) h1 h2 h3 h4 h5;have uG:Hp.set hp n (some { r with cells:=cells }) n=some { r with cells:=cells }:=by simp [Hp.set]
 have YD:=hx _ _ hL;refine ⟨fun k s hs=>?_,fun k s j u Ln Lm e1 e2 e3 e4 e5 e6=>?_,fun k s M e1 e2 e3=>?_,hw.os,hw.tape,hw.output,hw.size,hw.block,fun M c2 hf=>?_⟩
 .unfold Hp.set at hs
  split at hs
  .rename_i e;subst e;injection hs with hs;subst hs
   have:=hw.rows n _ uG;unfold RowOk at this |-;rw [YD] at this;rw [Nm.set_same];exact this
  .split at hs
   .cases hs
   .rename_i yR jA;exact hw.rows k s (by simp [Hp.set,jA,hs])
 .unfold Hp.set at e1 e3
  split at e1
  .rename_i e;subst e;injection e1 with e1;subst e1
   rw [Nm.set_same] at e5;injection e5 with e5;injection e5 with e5;subst e5
   split at e3
   .grind
   .split at e3
    .cases e3
    .rename_i hj1 KZ
     exact hw.apart n _ j u L Lm uG ho (by simp [Hp.set,KZ,e3]) (fun e=>KZ e.symm) YD e6
  .split at e1
   .cases e1
   .rename_i yR jA
    split at e3
    .rename_i e;subst e;injection e3 with e3;subst e3
     rw [Nm.set_same] at e6;injection e6 with e6;injection e6 with e6;subst e6
     exact hw.apart k s n _ Ln L (by simp [Hp.set,jA,e1]) e2 uG jA e5 YD
    .split at e3
     .cases e3
     .rename_i hj1 KZ
      exact hw.apart k s j u Ln Lm (by simp [Hp.set,jA,e1]) e2 (by simp [Hp.set,KZ,e3]) e4 e5 e6
 .unfold Hp.set at e1
  split at e1
  .rename_i e;subst e;injection e1 with e1;subst e1
   rw [Nm.set_same] at e3;injection e3 with e3;injection e3 with e3;subst e3
   exact hw.mine n _ L uG ho YD
  .split at e1
   .cases e1
   .rename_i yR jA
    exact hw.mine k s M (by simp [Hp.set,jA,e1]) e2 e3
 .obtain ⟨f1,f2,f3⟩:=hw.frz M c2 hf
  refine ⟨f1,fun k s Ln e1 e2 e3=>?_,f3⟩;unfold Hp.set at e1;split at e1
  .rename_i e;subst e;injection e1 with e1;subst e1
   rw [Nm.set_same] at e3;injection e3 with e3;injection e3 with e3;subst e3
   exact f2 n _ L uG ho YD
  .split at e1
   .cases e1
   .rename_i yR jA
    exact f2 k s Ln (by simp [Hp.set,jA,e1]) e2 e3
def QaX {α:Type}:List (Nat × α)->Nat->Option α
 | [],_=>none
 | p::l,n=>match Nat.beq n p.1 with
  | true=>some p.2
  | false=>QaX l n
structure Ef where
 v:TV
 up:List (Nat × Option Row)
 nw:List (Nat × Row)
def Ef.app (e:Ef) (hp:Hp):Hp:=fun n =>
 match QaX e.nw n with
 | some r=>some r
 | none=>match QaX e.up n with
  | some r=>r
  | none=>hp n
def Qaq:Nat:=64
def QAm (n0:Nat) (fp:List (Nat × Row)) (e:Ef):Prop:=(∀ p∈e.nw,n0<=p.1/\p.1<n0+Qaq)/\∀ p∈e.up,∃ q∈fp,q.1=p.1
def SemOp (P:Program) (o:Oper) (tv:Operand->TV) (n0:Nat) (fp:List (Nat × Row)) (E:Ef->Prop):Prop :=
 ∀ (F:Fr) (ρ:Nm) (hp:Hp) (a:Act) (w:World) (Q:Exit->Act->World->Prop) (K:Act->World->Prop),
  (∀ x∈o.op.operands,VT ρ (tv x) (a.eval x))->Conc F ρ hp w->(∀ p∈fp,hp p.1=some p.2)->(∀ n,n0<=n->n<n0+Qaq->ρ n=none) ->
  (∀ e ρ' v w',E e->Ext ρ ρ'->(∀ n,¬ (n0<=n/\n<n0+Qaq)->ρ' n=ρ n)->VT ρ' e.v v->Conc F ρ' (e.app hp) w'->K (a.put o.dst v) w') ->
  o.wp P a w K Q
theorem Ef.app_none (v:TV) (hp:Hp):Ef.app ⟨v,[],[]⟩ hp=hp:=rfl
theorem SemOp.read {P:Program} {o:Oper} {tv:Operand->TV} {n0:Nat} {fp:List (Nat × Row)} {v:TV}
  (h:∀ F ρ hp (a:Act) w,(∀ x∈o.op.operands,VT ρ (tv x) (a.eval x))->Conc F ρ hp w->(∀ p∈fp,hp p.1=some p.2)->∃ u,VT ρ v u/\(execOp a.eval o).run P w= .ok (.value u) w) :
  SemOp P o tv n0 fp (. =⟨v,[],[]⟩):=by
 intro F ρ hp a w Q K h1 h2 h3 _ hK;obtain ⟨u,hu,hr⟩:=h F ρ hp a w h1 h2 h3;unfold Oper.wp;rw [hr,Oper.upon_value];exact hK _ ρ u w rfl (Ext.refl _) (fun _ _=>rfl) hu (by rw [Ef.app_none];exact h2)
theorem SemOp.mk {P:Program} {o:Oper} {tv:Operand->TV} {n0:Nat} {fp:List (Nat × Row)} {v:TV} {es:Nat} {cells:List SV}
  (h:∀ F ρ hp (a:Act) w,(∀ x∈o.op.operands,VT ρ (tv x) (a.eval x))->Conc F ρ hp w->(∀ p∈fp,hp p.1=some p.2) ->
   ∃ (u:Value) (c:Array Value) (t:TypeId) (w1:World),cells.length<=c.size/\(∀ (k:Nat) s,cells[k]?=some s->∃ v,c[k]?=some v/\VS ρ s v)/\(∀ ρ',Ext ρ ρ'->ρ' n0=some (.at ⟨w.heap.size,0,c.size,es⟩)->VT ρ' v u) /\
    w1.heap=w.heap/\w1.os=w.os/\w1.tape=w.tape/\w1.output=w.output/\(execOp a.eval o).run P w= .ok (.value u) (w1.alloc (.cells c t))) :
  SemOp P o tv n0 fp (. =⟨v,[],[(n0,⟨true,es,cells⟩)]⟩):=by
 intro F ρ hp a w Q K h1 h2 h3 h4 hK;obtain ⟨u,c,t,w1,hl,hc,hu,e1,e2,e3,e4,hr⟩:=h F ρ hp a w h1 h2 h3;have hn:ρ n0=none:=h4 n0 (Nat.le_refl _) (by unfold Qaq;omega);have h2':=h2.same e1 e2 e3 e4;obtain ⟨hx,vI⟩:=h2'.new hn es cells c t hl hc;rw [e1] at hx vI;unfold Oper.wp;rw [hr,Oper.upon_value];refine hK _ _ u _ rfl hx (fun n fQ=>?_) (hu _ hx (Nm.set_same _ _ _)) ?_
 .unfold Nm.set;simp only [];rw [if_neg];rintro rfl;exact fQ ⟨Nat.le_refl _,by unfold Qaq;omega⟩
 .have e:Ef.app ⟨v,[],[(n0,⟨true,es,cells⟩)]⟩ hp=Hp.set hp n0 (some ⟨true,es,cells⟩):=by
   funext m
   unfold Ef.app Hp.set QaX
   cases hb:Nat.beq m n0 with
   | true=>simp_all
   | false=>rw [if_neg (Nat.ne_of_beq_eq_false hb)];rfl
  rw [e];exact vI
variable {P:Program} {o:Oper} {tv:Operand->TV} {n0:Nat}
theorem QuO (x:Operand) (ho:o.op= .move x):SemOp P o tv n0 [] (. =⟨tv x,[],[]⟩) :=
 SemOp.read fun F ρ hp a w h1 _ _=>⟨a.eval x,h1 x (by rw [ho];simp [Op.operands]),by unfold execOp;rw [ho];rfl⟩
theorem QnW (x:Operand) (ho:o.op= .assign x):SemOp P o tv n0 [] (. =⟨tv x,[],[]⟩) :=
 SemOp.read fun F ρ hp a w h1 _ _=>⟨a.eval x,h1 x (by rw [ho];simp [Op.operands]),by unfold execOp;rw [ho];rfl⟩
theorem QmS (c x y:Operand) (b:Bool) (ho:o.op= .pick c x y) (hc:tv c= .a (.s (.bool b))):SemOp P o tv n0 [] (. =⟨if b then tv x else tv y,[],[]⟩) :=
 SemOp.read fun F ρ hp a w h1 _ _=>by
  have h2:=h1 c (by rw [ho];simp [Op.operands]);rw [hc] at h2;have h3:a.eval c= .bool b:=h2;refine ⟨if b then a.eval x else a.eval y,?_,?_⟩
  .cases b
   .exact h1 y (by rw [ho];simp [Op.operands])
   .exact h1 x (by rw [ho];simp [Op.operands])
  .unfold execOp;rw [ho];simp [h3,asBool]
def QHJ (op:BinOp) (k:IntKind) (x y:Int):Option SV :=
 match op with
 | .add=>some (.int k (k.wrap (x+y)))
 | .sub=>some (.int k (k.wrap (x-y)))
 | .mul=>some (.int k (k.wrap (x*y)))
 | .and=>some (.int k (bits .and k x y))
 | .or=>some (.int k (bits .or k x y))
 | .xor=>some (.int k (bits .xor k x y))
 | .andNot=>some (.int k (bits .andNot k x y))
 | .eql=>some (.bool (x==y))
 | .neq=>some (.bool (x !=y))
 | .lss=>some (.bool (x<y))
 | .leq=>some (.bool (x<=y))
 | .gtr=>some (.bool (x>y))
 | .geq=>some (.bool (x>=y))
 | _=>none
theorem Qcp (op:BinOp) (t:TypeId) (x y:Operand) (k:IntKind) (n:Int) (v:Value):eqGuard op t x y (.int k n) v=pure ():=by cases op<;>rfl
theorem QaW {ρ:Nm} {a:Act} {x:Operand} {s:SV} (h1:∀ z∈o.op.operands,VT ρ (tv z) (a.eval z)) (hm:x∈o.op.operands) (hx:tv x= .a (.s s)):VS ρ s (a.eval x):=by
 have:=h1 x hm;rw [hx] at this;exact this
theorem QuK (op:BinOp) (t:TypeId) (x y:Operand) (t2:TypeId) (k:IntKind) (m n:Int) (s:SV) (ho:o.op= .binOp op t x y t2) (hx:tv x= .a (.s (.int k m))) (hy:tv y= .a (.s (.int k n)))
  (hs:QHJ op k m n=some s):SemOp P o tv n0 [] (. =⟨.a (.s s),[],[]⟩) :=
 SemOp.read fun F ρ hp a w h1 _ _=>by
  have h2:a.eval x= .int k m:=QaW h1 (by rw [ho];simp [Op.operands]) hx;have h3:a.eval y= .int k n:=QaW h1 (by rw [ho];simp [Op.operands]) hy;unfold execOp;rw [ho];simp only [h2,h3,Qcp];cases op<;>simp only [QHJ,Option.some.injEq,reduceCtorEq] at hs<;>subst hs
  case add=>exact ⟨_,rfl,by simp [binOp,Op.intArith]⟩
  case sub=>exact ⟨_,rfl,by simp [binOp,Op.intArith]⟩
  case mul=>exact ⟨_,rfl,by simp [binOp,Op.intArith]⟩
  case and=>exact ⟨_,rfl,by simp [binOp,intBits_and]⟩
  case or=>exact ⟨_,rfl,by simp [binOp,intBits_or]⟩
  case xor=>exact ⟨_,rfl,by simp [binOp,intBits_xor]⟩
  case andNot=>exact ⟨_,rfl,by simp [binOp,intBits_andNot]⟩
  all_goals exact ⟨_,rfl,by simp [binOp,Op.intCmp]⟩
theorem Qzi (t:TypeId) (x y:Operand) (t2:TypeId) (k:IntKind) (m n:Int) (ho:o.op= .binOp .quo t x y t2) (hx:tv x= .a (.s (.int k m))) (hy:tv y= .a (.s (.int k n)))
  (hn:n≠0):SemOp P o tv n0 [] (. =⟨.a (.s (.int k (k.wrap (m.tdiv n)))),[],[]⟩) :=
 SemOp.read fun F ρ hp a w h1 _ _=>by
  have h2:a.eval x= .int k m:=QaW h1 (by rw [ho];simp [Op.operands]) hx;have h3:a.eval y= .int k n:=QaW h1 (by rw [ho];simp [Op.operands]) hy;unfold execOp;rw [ho];simp only [h2,h3,Qcp];exact ⟨_,rfl,by simp [binOp,Op.intDiv,hn]⟩
theorem Qzn (t:TypeId) (x y:Operand) (t2:TypeId) (k:IntKind) (m n:Int) (ho:o.op= .binOp .rem t x y t2) (hx:tv x= .a (.s (.int k m))) (hy:tv y= .a (.s (.int k n)))
  (hn:n≠0):SemOp P o tv n0 [] (. =⟨.a (.s (.int k (m.tmod n))),[],[]⟩) :=
 SemOp.read fun F ρ hp a w h1 _ _=>by
  have h2:a.eval x= .int k m:=QaW h1 (by rw [ho];simp [Op.operands]) hx;have h3:a.eval y= .int k n:=QaW h1 (by rw [ho];simp [Op.operands]) hy;unfold execOp;rw [ho];simp only [h2,h3,Qcp];exact ⟨_,rfl,by simp [binOp,Op.intDiv,hn]⟩
theorem Qzo (t:TypeId) (x y:Operand) (t2:TypeId) (k k':IntKind) (m n:Int) (ho:o.op= .binOp .shl t x y t2) (hx:tv x= .a (.s (.int k m))) (hy:tv y= .a (.s (.int k' n)))
  (hn:0<=n):SemOp P o tv n0 [] (. =⟨.a (.s (.int k (k.wrap (m*2^min n.toNat k.bits)))),[],[]⟩) :=
 SemOp.read fun F ρ hp a w h1 _ _=>by
  have h2:a.eval x= .int k m:=QaW h1 (by rw [ho];simp [Op.operands]) hx;have h3:a.eval y= .int k' n:=QaW h1 (by rw [ho];simp [Op.operands]) hy;unfold execOp;rw [ho];simp only [h2,h3,Qcp];exact ⟨_,rfl,by simp [binOp,Op.shift,show ¬ n<0 by omega]⟩
theorem Qzp (t:TypeId) (x y:Operand) (t2:TypeId) (k k':IntKind) (m n:Int) (ho:o.op= .binOp .shr t x y t2) (hx:tv x= .a (.s (.int k m))) (hy:tv y= .a (.s (.int k' n)))
  (hn:0<=n):SemOp P o tv n0 [] (. =⟨.a (.s (.int k (m / 2^min n.toNat k.bits))),[],[]⟩) :=
 SemOp.read fun F ρ hp a w h1 _ _=>by
  have h2:a.eval x= .int k m:=QaW h1 (by rw [ho];simp [Op.operands]) hx;have h3:a.eval y= .int k' n:=QaW h1 (by rw [ho];simp [Op.operands]) hy;unfold execOp;rw [ho];simp only [h2,h3,Qcp];refine ⟨_,rfl,?_⟩;have:m.fdiv (2^min n.toNat k.bits)=m / 2^min n.toNat k.bits:=Int.fdiv_eq_ediv_of_nonneg _ (by exact_mod_cast Nat.zero_le _);simp [binOp,Op.shift,show ¬ n<0 by omega,this]
def QHS (op:BinOp) (x y:ByteArray):Option SV :=
 match op with
 | .eql=>some (.bool (x.toList==y.toList))
 | .neq=>some (.bool !(x.toList==y.toList))
 | _=>none
theorem QuQ (op:BinOp) (t:TypeId) (x y:Operand) (t2:TypeId) (m n:ByteArray) (s:SV) (ho:o.op= .binOp op t x y t2) (hx:tv x= .a (.s (.str m))) (hy:tv y= .a (.s (.str n)))
  (hs:QHS op m n=some s):SemOp P o tv n0 [] (. =⟨.a (.s s),[],[]⟩) :=
 SemOp.read fun F ρ hp a w h1 _ _=>by
  have h2:a.eval x= .string m:=QaW h1 (by rw [ho];simp [Op.operands]) hx;have h3:a.eval y= .string n:=QaW h1 (by rw [ho];simp [Op.operands]) hy;unfold execOp;rw [ho];simp only [h2,h3,eqGuard_at_string];cases op<;>simp only [QHS,Option.some.injEq,reduceCtorEq] at hs<;>subst hs
  all_goals exact ⟨_,rfl,by simp [binOp,Op.stringOp]⟩
theorem QuP (t:TypeId) (x y:Operand) (t2:TypeId) (m n:ByteArray) (ho:o.op= .binOp .add t x y t2) (hx:tv x= .a (.s (.str m))) (hy:tv y= .a (.s (.str n)))
  (hs:m.size+n.size<=9223372036854775807):SemOp P o tv n0 [] (. =⟨.a (.s (.str (m++n))),[],[]⟩) :=
 SemOp.read fun F ρ hp a w h1 _ _=>by
  have h2:a.eval x= .string m:=QaW h1 (by rw [ho];simp [Op.operands]) hx;have h3:a.eval y= .string n:=QaW h1 (by rw [ho];simp [Op.operands]) hy;unfold execOp;rw [ho];simp only [h2,h3,eqGuard_at_string];have:¬ ((9223372036854775807:Int)<(m.size:Int)+n.size):=by omega
  exact ⟨_,rfl,by simp [binOp,Op.stringOp,this]⟩
def QHC (op:BinOp) (x y:Bool):Option SV :=
 match op with
 | .eql=>some (.bool (x==y))
 | .neq=>some (.bool !(x==y))
 | _=>none
theorem QmR (op:BinOp) (t:TypeId) (x y:Operand) (t2:TypeId) (m n:Bool) (s:SV) (ho:o.op= .binOp op t x y t2) (hx:tv x= .a (.s (.bool m))) (hy:tv y= .a (.s (.bool n)))
  (ht:P.underlying t=some .bool) (hs:QHC op m n=some s):SemOp P o tv n0 [] (. =⟨.a (.s s),[],[]⟩) :=
 SemOp.read fun F ρ hp a w h1 _ _=>by
  have h2:a.eval x= .bool m:=QaW h1 (by rw [ho];simp [Op.operands]) hx;have h3:a.eval y= .bool n:=QaW h1 (by rw [ho];simp [Op.operands]) hy;unfold execOp;rw [ho];simp only [h2,h3,eqGuard_at_bool];cases op<;>simp only [QHC,Option.some.injEq,reduceCtorEq] at hs<;>subst hs
  .exact ⟨_,rfl,by simp [run_eql_bool w t m n ht]⟩
  .exact ⟨_,rfl,by simp [run_neq_bool w t m n ht]⟩
def iun (op:UnOp) (k:IntKind) (x:Int):Option SV :=
 match op with
 | .neg=>some (.int k (k.wrap (0-x)))
 | .xor=>some (.int k (bits .xor k (if k.signed then -1 else k.max) x))
 | _=>none
theorem QrU (op:UnOp) (t:TypeId) (x:Operand) (k:IntKind) (m:Int) (s:SV) (ho:o.op= .unOp op t x) (hx:tv x= .a (.s (.int k m)))
  (hs:iun op k m=some s):SemOp P o tv n0 [] (. =⟨.a (.s s),[],[]⟩) :=
 SemOp.read fun F ρ hp a w h1 _ _=>by
  have h2:a.eval x= .int k m:=QaW h1 (by rw [ho];simp [Op.operands]) hx;unfold execOp;rw [ho];simp only [h2];cases op<;>simp only [iun,Option.some.injEq,reduceCtorEq] at hs<;>subst hs
  .exact ⟨_,rfl,by simp [Op.unary,Op.intArith]⟩
  .exact ⟨_,rfl,by simp [Op.unary,intBits_xor]⟩
theorem Qzm (t:TypeId) (x:Operand) (b:Bool) (ho:o.op= .unOp .not t x) (hx:tv x= .a (.s (.bool b))):SemOp P o tv n0 [] (. =⟨.a (.s (.bool !b)),[],[]⟩) :=
 SemOp.read fun F ρ hp a w h1 _ _=>by
  have h2:a.eval x= .bool b:=QaW h1 (by rw [ho];simp [Op.operands]) hx;unfold execOp;rw [ho];simp only [h2];exact ⟨_,rfl,by simp [Op.unary]⟩
inductive TKind where
 | int (k:IntKind)|bool|str|ptr (e:TypeId)|slice (e:TypeId)|struct (fs:List (Nat × TypeId))|array (n:Nat) (e:TypeId)|other
structure Ty where
 (size bytes:Nat) (zero:List SV) (kind:TKind)
def TKind.agg:TKind->Bool
 | .struct _| .array _ _=>true
 | _=>false
def Ql1:Value->SV
 | .bool b=> .bool b
 | .int k n=> .int k n
 | .string s=> .str s
 | .pointer none=> .nil
 | .slice none 0 0=> .nilsl
 | _=> .unk
theorem Qoz (ρ:Nm) (v:Value):VS ρ (Ql1 v) v:=by
 unfold Ql1;split<;>simp [VS]
def QFu:Value->TV
 | .agg cs=> .a (.agg (cs.toList.map Ql1))
 | .tuple _=> .unk
 | v=> .a (.s (Ql1 v))
theorem QfW (ρ:Nm) (cs:List Value):VSs ρ (cs.map Ql1) cs:=⟨by simp,fun k s hs=>by
 rw [List.getElem?_map] at hs
 cases e:cs[k]? with
 | none=>grind
 | some v=>grind [Qoz,VSs,Ql1]⟩
theorem QwC (ρ:Nm) (v:Value):VT ρ (QFu v) v:=by
 unfold QFu;split
 .exact ⟨_,rfl,QfW ρ _⟩
 .exact trivial
 .exact Qoz ρ v
def Qex:TypeDesc->TKind->Prop
 | .int k,.int k'=>k=k'
 | .bool,.bool=>True
 | .string,.str=>True
 | .pointer e,.ptr e'=>e=e'
 | .slice e,.slice e'=>e=e'
 | .struct fields,.struct fs=>fields.toList.map (fun f=>(f.offset,f.type))=fs
 | .array n e,.array n' e'=>n=n'/\e=e'
 | .int _,_| .bool,_| .string,_| .pointer _,_| .slice _,_| .struct _,_| .array _ _,_=>False
 | _,.other=>True
 | _,_=>False
def TyOk (P:Program) (t:TypeId) (y:Ty):Prop :=
 ∃ d i z,P.underlying t=some d/\P.info? t=some i/\i.size=y.size/\i.bytes=y.bytes/\Qex d y.kind/\i.zero=some z/\z.cells.toList.map Ql1=y.zero/\y.zero.length=y.size
abbrev Tys:=TypeId->Option Ty
def QaU (P:Program) (T:Tys):Prop:=∀ t y,T t=some y->TyOk P t y
theorem TyOk.agg {P:Program} {t:TypeId} {y:Ty} (h:TyOk P t y) (w:World):(isAgg t).run P w= .ok y.kind.agg w:=by
 obtain ⟨d,_,_,h1,_,_,_,h5,_⟩:=h;unfold isAgg;rw [Sem.run_bind,run_underlying h1];revert h5;cases d<;>cases y.kind<;>simp [Qex,TKind.agg,Sem.run,pure]
theorem TyOk.sizeOf {P:Program} {t:TypeId} {y:Ty} (h:TyOk P t y) (w:World):(sizeOf t).run P w= .ok y.size w:=by
 obtain ⟨_,_,_,_,h2,h3,_⟩:=h;simp [Go.sizeOf,typeInfo,h2,h3]
theorem TyOk.zeroValue {P:Program} {t:TypeId} {y:Ty} (h:TyOk P t y) (w:World):∃ z:Value,(zeroValue t).run P w= .ok z w/\∀ ρ,VSs ρ y.zero z.cells.toList:=by
 obtain ⟨_,_,z,_,h2,_,_,_,h6,h7,_⟩:=h;refine ⟨z,by simp [Go.zeroValue,typeInfo,h2,h6],fun ρ=>?_⟩;rw [<- h7];exact QfW ρ _
theorem TyOk.sl {P:Program} {t e:TypeId} {y:Ty} (h:TyOk P t y) (hk:y.kind= .slice e):P.underlying t=some (.slice e):=by
 obtain ⟨d,_,_,h1,_,_,_,h5,_⟩:=h;rw [hk] at h5;cases d<;>simp [Qex] at h5
 subst h5;exact h1
theorem TyOk.arr {P:Program} {t e:TypeId} {n:Nat} {y:Ty} (h:TyOk P t y) (hk:y.kind= .array n e):P.underlying t=some (.array n e):=by
 obtain ⟨d,_,_,h1,_,_,_,h5,_⟩:=h;rw [hk] at h5;cases d<;>simp [Qex] at h5
 obtain ⟨rfl,rfl⟩:=h5;exact h1
theorem TyOk.str {P:Program} {t:TypeId} {y:Ty} (h:TyOk P t y) (hk:y.kind= .str):P.underlying t=some .string:=by
 obtain ⟨d,_,_,h1,_,_,_,h5,_⟩:=h;rw [hk] at h5;cases d<;>simp [Qex] at h5
 exact h1
theorem TyOk.bool {P:Program} {t:TypeId} {y:Ty} (h:TyOk P t y) (hk:y.kind= .bool):P.underlying t=some .bool:=by
 obtain ⟨d,_,_,h1,_,_,_,h5,_⟩:=h;rw [hk] at h5;cases d<;>simp [Qex] at h5
 exact h1
theorem TyOk.int {P:Program} {t:TypeId} {y:Ty} {k:IntKind} (h:TyOk P t y) (hk:y.kind= .int k):P.underlying t=some (.int k):=by
 obtain ⟨d,_,_,h1,_,_,_,h5,_⟩:=h;rw [hk] at h5;cases d<;>simp [Qex] at h5
 subst h5;exact h1
theorem TyOk.struct {P:Program} {t:TypeId} {y:Ty} {fs:List (Nat × TypeId)} (h:TyOk P t y) (hk:y.kind= .struct fs):∃ fields:Array Field,P.underlying t=some (.struct fields)/\fields.toList.map (fun f=>(f.offset,f.type))=fs:=by
 obtain ⟨d,_,_,h1,_,_,_,h5,_⟩:=h;rw [hk] at h5;cases d<;>simp [Qex] at h5
 exact ⟨_,h1,by simpa using h5⟩
def seg (cells:List SV) (o n:Nat):List SV:=(cells.drop o).take n
variable {P:Program} {o:Oper} {tv:Operand->TV} {n0:Nat}
theorem QhK {F:Fr} {ρ:Nm} {hp:Hp} {w:World} {i:Nat} {r:Row} {L:Loc} (hc:Conc F ρ hp w) (hr:hp i=some r) (hL:ρ i=some (.at L)) :
  L.es=r.es/\L.δ+r.cells.length<=L.tot/\∃ c t fz,w.heap[L.b]?=some (.cells c t fz)/\c.size=L.tot/\(r.own=true->fz=(0,0))/\∀ (k:Nat) s,r.cells[k]?=some s->∃ v,c[L.δ+k]?=some v/\VS ρ s v:=by
 have:=hc.rows i r hr;unfold RowOk at this;rw [hL] at this;exact this
theorem Qgf {F:Fr} {ρ:Nm} {hp:Hp} {w:World} {i:Nat} {r:Row} {L:Loc} (hc:Conc F ρ hp w) (hr:hp i=some r) (hL:ρ i=some (.at L)) {k:Nat} {s:SV} (hs:r.cells[k]?=some s) :
  ∃ v,w.cell? ⟨L.b,L.δ+k,none⟩=some v/\VS ρ s v:=by
 obtain ⟨_,_,_,_,_,h1,_,_,h2⟩:=QhK hc hr hL;obtain ⟨v,h3,h4⟩:=h2 k s hs;exact ⟨v,by simp [World.cell?,h1,h3],h4⟩
theorem Qg0 {F:Fr} {ρ:Nm} {hp:Hp} {w:World} {i:Nat} {r:Row} {L:Loc} (hc:Conc F ρ hp w) (hr:hp i=some r) (hL:ρ i=some (.at L)) (k:Nat) (l:List SV)
  (hs:∀ (j:Nat) s,l[j]?=some s->r.cells[k+j]?=some s) :
  ∃ vs:List Value,VSs ρ l vs/\(loadCells ⟨L.b,L.δ+k,none⟩ l.length).run P w= .ok vs.toArray w:=by
 have:∀ j,∃ v,j<l.length->(w.cell? ⟨L.b,L.δ+k+j,none⟩=some v/\∀ s,l[j]?=some s->VS ρ s v):=fun j=>by
  by_cases hj:j<l.length
  .obtain ⟨v,h1,h2⟩:=Qgf hc hr hL (hs j _ (List.getElem?_eq_getElem hj))
   refine ⟨v,fun _=>⟨by rw [Nat.add_assoc];exact h1,fun s e=>?_⟩⟩;rw [List.getElem?_eq_getElem hj] at e;injection e with e;subst e;exact h2
  .exact ⟨default,fun h=>absurd h hj⟩
 obtain ⟨f,hf⟩:=Classical.axiomOfChoice this;refine ⟨(List.range l.length).map f,⟨by simp,fun j s e=>?_⟩,?_⟩
 .grind
 .exact run_loadCells w _ _ f fun j hj=>by rw [Addr.add_lit];exact (hf j hj).1
theorem QuM {T:Tys} (hT:QaU P T) (t:TypeId) (x:Operand) (y:Ty) (i k:Nat) (r:Row) (s:SV) (ho:o.op= .load t x) (hx:tv x= .a (.s (.ptr i k))) (hy:T t=some y) (hk:y.kind.agg=false) (hs:r.cells[k]?=some s) :
  SemOp P o tv n0 [(i,r)] (. =⟨.a (.s s),[],[]⟩) :=
 SemOp.read fun F ρ hp a w h1 hc hf=>by
  obtain ⟨_,hL,h2⟩:=QaW h1 (by rw [ho];simp [Op.operands]) hx;have hr:=hf (i,r) (by simp);obtain ⟨v,h3,h4⟩:=Qgf hc hr hL hs;refine ⟨v,h4,?_⟩;unfold execOp;rw [ho];simp [h2,Instr.loadAt,Instr.sureAddr,loadVar,(hT t y hy).agg w,hk,load,Sem.run,h3,pure]
theorem QlG {T:Tys} (hT:QaU P T) (t:TypeId) (x:Operand) (y:Ty) (i k:Nat) (r:Row) (l:List SV) (ho:o.op= .load t x) (hx:tv x= .a (.s (.ptr i k))) (hy:T t=some y) (hk:y.kind.agg=true) (hn:l.length=y.size)
  (hs:∀ (j:Nat) s,l[j]?=some s->r.cells[k+j]?=some s) :
  SemOp P o tv n0 [(i,r)] (. =⟨.a (.agg l),[],[]⟩) :=
 SemOp.read fun F ρ hp a w h1 hc hf=>by
  obtain ⟨_,hL,h2⟩:=QaW h1 (by rw [ho];simp [Op.operands]) hx;have hr:=hf (i,r) (by simp);obtain ⟨vs,h3,h4⟩:=Qg0 (P:=P) hc hr hL k l hs;rw [hn] at h4;refine ⟨.agg vs.toArray,⟨_,rfl,h3⟩,?_⟩;unfold execOp;rw [ho];simp [h2,Instr.loadAt,Instr.sureAddr,loadVar,(hT t y hy).agg w,hk,(hT t y hy).sizeOf w,h4]
def SV.known:SV->Bool
 | .unk=>false
 | _=>true
def Qat:List SV->Bool
 | []=>true
 | s::l=>match s.known with
  | true=>Qat l
  | false=>false
theorem Qfw {l:List SV} (h:Qat l=true):∀ s∈l,s.known=true:=by
 induction l with
 | nil=>grind
 | cons a l ih=>grind [Qat]
theorem VS.one {ρ:Nm} {s:SV} {v:Value} (h:VS ρ s v) (hk:s.known=true):v.oneCell'=true:=by
 cases s<;>simp only [VS,SV.known,Bool.false_eq_true] at h hk
 case bool=>subst h;rfl
 case int=>subst h;rfl
 case str=>subst h;rfl
 case nil=>subst h;rfl
 case ptr=>obtain ⟨_,_,rfl⟩:=h;rfl
 case nilsl=>subst h;rfl
 case sl=>obtain ⟨_,_,rfl,_⟩:=h;rfl
 case fn=>obtain ⟨_,rfl,_⟩:=h;rfl
 case fz=>obtain ⟨_,_,rfl,_⟩:=h;rfl
def AV.cells:AV->List SV
 | .s x=> [x]
 | .agg l=>l
theorem VA.cells {ρ:Nm} {x:AV} {v:Value} (h:VA ρ x v) (hk:Qat x.cells=true):VSs ρ x.cells v.cells.toList:=by
 cases x with
 | s x =>
  have h1:=VS.one h (Qfw hk x (by simp [AV.cells]));have h2:v.cells= #[v]:=by cases v<;>simp_all [Value.cells,Value.oneCell']
  rw [h2];exact ⟨rfl,fun k s e=>by grind [AV.cells,VA,Qat,VSs]⟩
 | agg l=>obtain ⟨_,rfl,hc⟩:=h;exact hc
theorem VSs.one {ρ:Nm} {l:List SV} {vs:List Value} (h:VSs ρ l vs) (hk:Qat l=true):∀ v∈vs,v.oneCell'=true:=by
 intro v hv;obtain ⟨k,UB,rfl⟩:=List.getElem_of_mem hv;have hl:k<l.length:=by rw [h.1];exact UB
 obtain ⟨_,h1,h2⟩:=h.2 k _ (List.getElem?_eq_getElem hl);rw [List.getElem?_eq_getElem UB] at h1;injection h1 with h1;subst h1
 exact h2.one (Qfw hk _ (List.getElem_mem hl))
def QaC:List SV->Nat->List SV->List SV
 | c,_,[]=>c
 | c,k,s::l=>QaC (c.set k s) (k+1) l
theorem Qbz (c:List SV) (k:Nat) (l:List SV):(QaC c k l).length=c.length:=by
 induction l generalizing c k with
 | nil=>rfl
 | cons s l ih=>grind [QaC]
theorem Qbj (c:List SV) (k:Nat) (l:List SV) (j:Nat) (hl:k+l.length<=c.length) :
  (QaC c k l)[j]?=if k<=j/\j<k+l.length then l[j-k]? else c[j]?:=by
 induction l generalizing c k with
 | nil=>grind [QaC]
 | cons s l ih =>
  simp only [List.length_cons] at hl;rw [QaC,ih _ _ (by simp;omega)]
  by_cases h1:k+1<=j/\j<k+1+l.length
  .grind
  .rw [if_neg h1]
   by_cases h2:j=k
   .grind
   .grind
variable {P:Program} {o:Oper} {tv:Operand->TV} {n0:Nat}
theorem Qt1 {α:Type} (n m:Nat) (x:α):QaX [(m,x)] n=if n=m then some x else none:=by grind [QaX,Nat.beq,Nat.eq_of_beq_eq_true,Nat.ne_of_beq_eq_false]
theorem QoJ (v:TV) (i:Nat) (r:Option Row) (hp:Hp):Ef.app ⟨v,[(i,r)],[]⟩ hp=Hp.set hp i r:=by
 funext m
 show (match QaX [(i,r)] m with|some r=>r|none=>hp m)=_;rw [Qt1];unfold Hp.set
 by_cases h:m=i<;>simp [h]
theorem QlD {cur:List Value} {k m j:Nat} {vs:List Value} (hm:vs.length=m) (hk:k+m<=cur.length) :
  (cur.take k++vs++cur.drop (k+m))[j]?=if k<=j/\j<k+m then vs[j-k]? else cur[j]?:=by
 subst hm;have WI:(cur.take k).length=k:=by simp;omega
 by_cases h1:j<k
 .grind
 .grind
theorem QrX {T:Tys} (hT:QaU P T) (t:TypeId) (x z:Operand) (y:Ty) (i k:Nat) (r:Row) (u:AV) (ho:o.op= .store t x z) (hx:tv x= .a (.s (.ptr i k))) (hz:tv z= .a u) (hy:T t=some y)
  (hn:u.cells.length=y.size) (wD:Qat u.cells=true) (jS:r.own=true) (HX:k+u.cells.length<=r.cells.length) :
  SemOp P o tv n0 [(i,r)] (. =⟨.unk,[(i,some { r with cells:=QaC r.cells k u.cells })],[]⟩):=by
 intro F ρ hp a w Q K h1 hc hf jB hK;obtain ⟨L,hL,h2⟩:=QaW h1 (by rw [ho];simp [Op.operands]) hx;have h3:=h1 z (by rw [ho];simp [Op.operands]);rw [hz] at h3;have h4:=VA.cells h3 wD;have hr:=hf (i,r) (by simp);obtain ⟨_,gK,c,ct,_,e1,_,e3,_⟩:=QhK hc hr hL;simp only [] at gK hr;have e3:=e3 jS;subst e3;have gF:(a.eval z).cells.toList.length=u.cells.length:=h4.1.symm;have fC:=run_storeCells_at P L.b (L.δ+k) ct (a.eval z).cells.toList 0 c w e1 (by rw [gF];omega) (h4.one wD)
 have hw:(execOp a.eval o).run P w= .ok .skip (w.setRow L.b (c.toList.take (L.δ+k)++(a.eval z).cells.toList++c.toList.drop (L.δ+k+u.cells.length)).toArray):=by
  unfold execOp;rw [ho];have qA:(a.eval z).cells.size=y.size:=by rw [<- hn,<- gF];simp
  simp only [Nat.add_zero,gF] at fC;simp [h2,Instr.storeAt,Instr.sureAddr,storeVar,(hT t y hy).sizeOf w,qA,fC]
 unfold Oper.wp;rw [hw,Oper.upon_skip];refine hK _ ρ undef _ rfl (Ext.refl _) (fun _ _=>rfl) trivial ?_;rw [QoJ];refine hc.write hr jS hL (c':=_) (t:=ct) (QaC r.cells k u.cells) (setRow_heap w L.b c _ ct _ e1) (by simp only [List.size_toArray,List.length_append,List.length_take,List.length_drop,gF,Array.length_toList];omega) (by simp only [Qbz];exact gK) (fun j s hs=>?_) (fun b hb=>setRow_other _ _ _ _ hb) (by simp) rfl rfl rfl;rw [Qbj _ _ _ _ HX] at hs;simp only [List.getElem?_toArray];rw [QlD gF (by simp;omega)];split at hs
 .rename_i hj
  rw [if_pos (by omega),show L.δ+j-(L.δ+k)=j-k by omega];exact h4.2 _ _ hs
 .grind
variable {P:Program} {o:Oper} {tv:Operand->TV} {n0:Nat}
theorem QrQ {T:Tys} (hT:QaU P T) (t:TypeId) (y:Ty) (ho:o.op= .alloc t) (hy:T t=some y) :
  SemOp P o tv n0 [] (. =⟨.a (.s (.ptr n0 0)),[],[(n0,⟨true,1,y.zero⟩)]⟩) :=
 SemOp.mk fun F ρ hp a w _ _ _=>by
  obtain ⟨z,h1,h2⟩:=(hT t y hy).zeroValue w;refine ⟨.pointer (some ⟨w.heap.size,0,none⟩),z.cells,t,w,?_,?_,?_,rfl,rfl,rfl,rfl,?_⟩
  .have:=(h2 ρ).1;simp at this;omega
  .intro k s hs;obtain ⟨v,h3,h4⟩:=(h2 ρ).2 k s hs;exact ⟨v,by simpa using h3,h4⟩
  .intro ρ' _ hn;exact ⟨_,hn,rfl⟩
  .unfold execOp;rw [ho]
   simp [Instr.alloc,h1,newVar,newRow]
theorem Qzh (t:TypeId) (x:Operand) (u:AV) (ho:o.op= .box t x) (hx:tv x= .a u) (hk:Qat u.cells=true) :
  SemOp P o tv n0 [] (. =⟨.a (.s (.ptr n0 0)),[],[(n0,⟨true,1,u.cells⟩)]⟩) :=
 SemOp.mk fun F ρ hp a w h1 _ _=>by
  have h2:=h1 x (by rw [ho];simp [Op.operands]);rw [hx] at h2;have h3:=VA.cells h2 hk;refine ⟨.pointer (some ⟨w.heap.size,0,none⟩),(a.eval x).cells,t,w,?_,?_,?_,rfl,rfl,rfl,rfl,?_⟩
  .have:=h3.1;simp at this;omega
  .intro k s hs;obtain ⟨v,h4,h5⟩:=h3.2 k s hs;exact ⟨v,by simpa using h4,h5⟩
  .intro ρ' _ hn;exact ⟨_,hn,rfl⟩
  .unfold execOp;rw [ho]
   simp [Instr.box,newVar,newRow]
def Qb0 (place:Nat->Option (Nat × Nat)):List SV->List (Nat × List SV)->Option (List SV)
 | c,[]=>some c
 | c,p::rest=>match place p.1 with
  | none=>none
  | some q=>match Nat.beq p.2.length q.2 with
   | false=>none
   | true=>match Nat.ble (q.1+p.2.length) c.length with
    | false=>none
    | true=>Qb0 place (QaC c q.1 p.2) rest
def VPs (ρ:Nm) (l:List (Nat × List SV)) (vs:List (Nat × Value)):Prop:=l.length=vs.length/\∀ (k:Nat) p,l[k]?=some p->∃ v,vs[k]?=some (p.1,v)/\VSs ρ p.2 v.cells.toList
theorem QtQ (off:Nat) (cs:Array Value) (l:List Value) (n:Nat) :
  ((l.zipIdx n).foldl (fun cs (p:Value × Nat)=>cs.setIfInBounds (off+p.2) p.1) cs).size=cs.size /\
  ∀ j,off+n+l.length<=cs.size->((l.zipIdx n).foldl (fun cs (p:Value × Nat)=>cs.setIfInBounds (off+p.2) p.1) cs)[j]?=if off+n<=j/\j<off+n+l.length then l[j-(off+n)]? else cs[j]?:=by
 induction l generalizing n cs with
 | nil=>refine ⟨rfl,fun j _=>?_⟩;rw [if_neg (by simp)];rfl
 | cons v l ih =>
  simp only [List.zipIdx_cons,List.foldl_cons];obtain ⟨h1,h2⟩:=ih (cs.setIfInBounds (off+n) v) (n+1);refine ⟨by simpa using h1,fun j hj=>?_⟩;simp only [List.length_cons] at hj;rw [h2 j (by simp;omega)]
  by_cases e1:off+(n+1)<=j/\j<off+(n+1)+l.length
  .grind
  .rw [if_neg e1]
   by_cases e2:j=off+n
   .grind
   .grind
theorem QF1 (off:Nat) (cs:Array Value) (l:Array Value) :
  (l.zipIdx.foldl (fun cs (p:Value × Nat)=>cs.setIfInBounds (off+p.2) p.1) cs)=(l.toList.zipIdx.foldl (fun cs (p:Value × Nat)=>cs.setIfInBounds (off+p.2) p.1) cs):=by
 rw [<- Array.foldl_toList,Array.toList_zipIdx]
theorem Qk7 (place:Nat->Option (Nat × Nat)) (ρ:Nm):∀ (l:List (Nat × List SV)) (vs:List (Nat × Value)) (c:List SV) (cs:Array Value) (r:List SV),
  VPs ρ l vs->VSs ρ c cs.toList->Qb0 place c l=some r->∃ rs,Instr.fill place cs vs=some rs/\VSs ρ r rs.toList:=by
 intro l
 induction l with
 | nil =>
  intro vs c cs r h1 h2 h3;injection h3 with h3;subst h3
  have:vs= []:=by have:=h1.1;simpa using this.symm
  subst this;exact ⟨cs,rfl,h2⟩
 | cons p l ih =>
  intro vs c cs r h1 h2 h3
  cases vs with
  | nil=>have:=h1.1;simp at this
  | cons v vs =>
   obtain ⟨u,h4,h5⟩:=h1.2 0 p rfl;injection h4 with h4;subst h4
   unfold Qb0 at h3
   cases e1:place p.1 with
   | none=>grind
   | some q =>
    rw [e1] at h3;simp only [] at h3
    cases e2:Nat.beq p.2.length q.2 with
    | false=>grind
    | true =>
     rw [e2] at h3;simp only [] at h3
     cases e3:Nat.ble (q.1+p.2.length) c.length with
     | false=>grind
     | true =>
      rw [e3] at h3;simp only [] at h3;have e2:=Nat.eq_of_beq_eq_true e2;have e3:=Nat.le_of_ble_eq_true e3;have hul:u.cells.size=p.2.length:=by have:=h5.1;simp at this;omega
      have gK:cs.size=c.length:=by have:=h2.1;simp at this;omega
      unfold Instr.fill;rw [e1];simp only [];rw [if_neg (by simp;omega)];refine ih vs _ _ r ⟨by have:=h1.1;simpa using this,fun k x hx=>h1.2 (k+1) x hx⟩ ?_ h3;rw [QF1];obtain ⟨g1,g2⟩:=QtQ q.1 cs u.cells.toList 0;refine ⟨by simp [Qbz,g1,gK],fun k s hs=>?_⟩;rw [Qbj _ _ _ _ e3] at hs;rw [Array.getElem?_toList,g2 k (by simp;omega)];simp only [Nat.add_zero,Array.length_toList,hul];split at hs
      .grind [VPs,VSs,Qb0]
      .grind [VPs,VSs,Qb0]
def Qd4 (tv:Operand->TV):List (Nat × Operand)->Option (List (Nat × List SV))
 | []=>some []
 | p::l=>match tv p.2 with
  | .a u=>match Qat u.cells with
   | true=>match Qd4 tv l with
    | some r=>some ((p.1,u.cells)::r)
    | none=>none
   | false=>none
  | _=>none
theorem QmG {ρ:Nm} {a:Act}:∀ (l:List (Nat × Operand)) (r:List (Nat × List SV)),Qd4 tv l=some r->(∀ x∈l.map (·.2),VT ρ (tv x) (a.eval x))->VPs ρ r (l.map fun p=>(p.1,a.eval p.2)):=by
 intro l
 induction l with
 | nil=>intro r h _;injection h with h;subst h;exact ⟨rfl,fun k p e=>by cases e⟩
 | cons p l ih =>
  intro r h hv;unfold Qd4 at h;have hp:=hv p.2 (by simp)
  cases e1:tv p.2 with
  | unk=>grind
  | tup _=>grind
  | a u =>
   rw [e1] at h hp;simp only [] at h
   cases e2:Qat u.cells with
   | false=>grind
   | true =>
    rw [e2] at h;simp only [] at h
    cases e3:Qd4 tv l with
    | none=>grind
    | some q =>
     rw [e3] at h;injection h with h;subst h
     obtain ⟨g1,_⟩:=ih q e3 (fun x hx=>hv x (by simp at hx |-;exact .inr hx));refine ⟨by simp [g1],fun k x hx=>?_⟩
     cases k with
     | zero=>simp at hx;subst hx;exact ⟨_,rfl,VA.cells hp e2⟩
     | succ k=>grind
def QdA (T:Tys):List (Nat × TypeId)->Option (List (Nat × Nat))
 | []=>some []
 | p::l=>match T p.2 with
  | some y=>match QdA T l with
   | some r=>some ((p.1,y.size)::r)
   | none=>none
  | none=>none
theorem Qrm {T:Tys} (hT:QaU P T):∀ (fields:List Field) (r:List (Nat × Nat)),QdA T (fields.map fun f=>(f.offset,f.type))=some r ->
  fields.mapM (fun f=>(P.info? f.type).map fun i=>(f.offset,i.size))=some r:=by
 intro fields
 induction fields with
 | nil=>intro r h;injection h with h;subst h;rfl
 | cons f l ih =>
  intro r h;unfold QdA at h;simp only [List.map_cons] at h
  cases e1:T f.type with
  | none=>grind
  | some y =>
   rw [e1] at h;simp only [] at h
   cases e2:QdA T (l.map fun f=>(f.offset,f.type)) with
   | none=>grind
   | some q =>
    rw [e2] at h;injection h with h;subst h
    obtain ⟨_,i,_,_,h2,h3,_⟩:=hT _ _ e1;simp [List.mapM_cons,h2,h3,ih q e2]
theorem Qs7 {T:Tys} (hT:QaU P T) (t:TypeId) (y:Ty) (ρ:Nm) (ps:List (Nat × List SV)) (vs:List (Nat × Value)) (l:List SV) (hy:T t=some y) (hv:VPs ρ ps vs)
  (hb:(∃ fs pl,y.kind= .struct fs/\QdA T fs=some pl/\Qb0 (fun i=>pl[i]?) y.zero ps=some l)\/(∃ n e ye,y.kind= .array n e/\T e=some ye/\Qb0 (fun i=>some (i*ye.size,ye.size)) y.zero ps=some l)) :
  ∃ cs,P.built t vs=some cs/\VSs ρ l cs.toList:=by
 obtain ⟨_,_,z,_,h2,_,_,_,h6,h7,_⟩:=hT t y hy;have hz:VSs ρ y.zero z.cells.toList:=by rw [<- h7];exact QfW ρ _
 rcases hb with ⟨fs,pl,hk,hp,hf⟩|⟨n,e,ye,hk,he,hf⟩
 .obtain ⟨_,g1,g2⟩:=(hT t y hy).struct hk
  subst g2;obtain ⟨cs,g3,g4⟩:=Qk7 _ ρ ps vs _ z.cells l hv hz hf;refine ⟨cs,?_,g4⟩;unfold Program.built;simp only [h2,g1,h6,Qrm hT _ _ hp];rw [<- g3];congr 1
  funext x;simp
 .obtain ⟨cs,g3,g4⟩:=Qk7 _ ρ ps vs _ z.cells l hv hz hf
  refine ⟨cs,?_,g4⟩;obtain ⟨_,_,_,_,k2,k3,_⟩:=hT e ye he;unfold Program.built;simp only [h2,(hT t y hy).arr hk,h6,k2,k3];exact g3
theorem Qj7 {T:Tys} (hT:QaU P T) (t:TypeId) (parts:Array (Nat × Operand)) (y:Ty) (ps:List (Nat × List SV)) (l:List SV) (ho:o.op= .build t parts) (hy:T t=some y) (vY:Qd4 tv parts.toList=some ps)
  (hb:(∃ fs pl,y.kind= .struct fs/\QdA T fs=some pl/\Qb0 (fun i=>pl[i]?) y.zero ps=some l)\/(∃ n e ye,y.kind= .array n e/\T e=some ye/\Qb0 (fun i=>some (i*ye.size,ye.size)) y.zero ps=some l)) :
  SemOp P o tv n0 [] (. =⟨.a (.agg l),[],[]⟩) :=
 SemOp.read fun F ρ hp a w h1 _ _=>by
  have hv:=QmG (ρ:=ρ) (a:=a) _ _ vY (fun x hx=>h1 x (by rw [ho];simpa [Op.operands] using hx));obtain ⟨cs,h2,h3⟩:=Qs7 hT t y ρ ps _ l hy hv hb;refine ⟨.agg cs,⟨cs,rfl,h3⟩,?_⟩;unfold execOp;rw [ho];have h4:(Instr.build t (parts.map fun (i,x)=>(i,a.eval x))).run P w= .ok (.agg cs) w:=run_build w t _ cs (by simpa using h2);simp only [Sem.run_bind,h4,Result.andThen_ok];rfl
variable {P:Program} {o:Oper} {tv:Operand->TV} {n0:Nat}
theorem QiH {T:Tys} (hT:QaU P T) (t:TypeId) (x:Operand) (f:Nat) (y yf:Ty) (fs:List (Nat × TypeId)) (p:Nat × TypeId) (i k:Nat) (ho:o.op= .fieldAddr t x f) (hx:tv x= .a (.s (.ptr i k))) (hy:T t=some y) (hk:y.kind= .struct fs)
  (hf:fs[f]?=some p) (VN:T p.2=some yf) (hs:Nat.beq yf.size 0=false):SemOp P o tv n0 [] (. =⟨.a (.s (.ptr i (k+p.1))),[],[]⟩) :=
 SemOp.read fun F ρ hp a w h1 hc _=>by
  obtain ⟨L,hL,h2⟩:=QaW h1 (by rw [ho];simp [Op.operands]) hx;obtain ⟨fields,h3,h4⟩:=(hT t y hy).struct hk;subst h4;rw [List.getElem?_map] at hf
  cases e:fields.toList[f]? with
  | none=>grind
  | some fd =>
   rw [e] at hf;injection hf with hf;subst hf
   have e':fields[f]?=some fd:=by simpa using e
   have hs:=Nat.ne_of_beq_eq_false hs;refine ⟨.pointer (some ⟨L.b,L.δ+(k+fd.offset),none⟩),⟨L,hL,rfl⟩,?_⟩;unfold execOp;rw [ho];simp [h2,Instr.fieldAt,Instr.sureAddr,run_underlying h3,e',fieldPlace,(hT _ _ VN).sizeOf w,hs,Addr.add_lit,Nat.add_assoc]
theorem QiI {T:Tys} (hT:QaU P T) (t e:TypeId) (x ix:Operand) (y ye:Ty) (i k n:Nat) (q:IntKind) (z:Int) (ho:o.op= .indexAddr t x ix) (hx:tv x= .a (.s (.sl i k n))) (yD:tv ix= .a (.s (.int q z))) (hy:T t=some y) (hk:y.kind= .slice e)
  (he:T e=some ye) (h0:0<=z) (hn:z<n):SemOp P o tv n0 [] (. =⟨.a (.s (.ptr i (k+z.toNat * ye.size))),[],[]⟩) :=
 SemOp.read fun F ρ hp a w h1 hc _=>by
  obtain ⟨_,_,h2,_,h4⟩:=QaW h1 (by rw [ho];simp [Op.operands]) hx;have h5:a.eval ix= .int q z:=QaW h1 (by rw [ho];simp [Op.operands]) yD;have hu:=(hT t y hy).sl hk;rcases h4 with ⟨L,hL,⟨rfl,_⟩|h6⟩|⟨_,h6⟩
  .refine ⟨.pointer (some ⟨L.b,L.δ+(k+z.toNat * ye.size),none⟩),⟨L,hL,rfl⟩,?_⟩
   unfold execOp;rw [ho];have e1:(asIntOf (.int q z)).run P w= .ok (q,z) w:=rfl;simp [h2,h5,Instr.indexAt,e1,run_underlying hu,h0,hn,(hT _ _ he).sizeOf w,Addr.add_lit,Nat.add_assoc]
  .omega
  .omega
theorem Qho {T:Tys} (hT:QaU P T) (t e:TypeId) (x ix:Operand) (y ye:Ty) (i k n:Nat) (q:IntKind) (z:Int) (ho:o.op= .indexAddr t x ix) (hx:tv x= .a (.s (.ptr i k))) (yD:tv ix= .a (.s (.int q z))) (hy:T t=some y) (hk:y.kind= .array n e)
  (he:T e=some ye) (h0:0<=z) (hn:z<n):SemOp P o tv n0 [] (. =⟨.a (.s (.ptr i (k+z.toNat * ye.size))),[],[]⟩) :=
 SemOp.read fun F ρ hp a w h1 hc _=>by
  obtain ⟨L,hL,h2⟩:=QaW h1 (by rw [ho];simp [Op.operands]) hx;have h5:a.eval ix= .int q z:=QaW h1 (by rw [ho];simp [Op.operands]) yD;have hu:=(hT t y hy).arr hk;refine ⟨.pointer (some ⟨L.b,L.δ+(k+z.toNat * ye.size),none⟩),⟨L,hL,rfl⟩,?_⟩;unfold execOp;rw [ho];have e1:(asIntOf (.int q z)).run P w= .ok (q,z) w:=rfl;simp [h2,h5,Instr.indexAt,Instr.sureAddr,e1,run_underlying hu,h0,hn,(hT _ _ he).sizeOf w,Addr.add_lit,Nat.add_assoc]
theorem QnZ {T:Tys} (hT:QaU P T) (t:TypeId) (x ix:Operand) (y:Ty) (s:ByteArray) (q:IntKind) (z:Int) (b:UInt8) (ho:o.op= .index t x ix) (hx:tv x= .a (.s (.str s))) (yD:tv ix= .a (.s (.int q z))) (hy:T t=some y) (hk:y.kind= .str)
  (h0:0<=z) (hb:s[z.toNat]?=some b):SemOp P o tv n0 [] (. =⟨.a (.s (.int .u8 b.toNat)),[],[]⟩) :=
 SemOp.read fun F ρ hp a w h1 hc _=>by
  have h2:a.eval x= .string s:=QaW h1 (by rw [ho];simp [Op.operands]) hx;have h5:a.eval ix= .int q z:=QaW h1 (by rw [ho];simp [Op.operands]) yD;have hu:=(hT t y hy).str hk;refine ⟨.int .u8 b.toNat,rfl,?_⟩;unfold execOp;rw [ho];have e1:(asIntOf (.int q z)).run P w= .ok (q,z) w:=rfl;simp [h2,h5,Instr.index,e1,run_underlying hu,h0,hb]
def Qiy (y:Ty) (l:List SV) (off:Nat):Option AV :=
 match y.kind.agg with
 | true=>some (.agg (seg l off y.size))
 | false=>match l[off]? with
  | some s=>some (.s s)
  | none=>none
theorem Qwf {ρ:Nm} {l:List SV} {cs:Array Value} (h:VSs ρ l cs.toList) (off n:Nat):VSs ρ (seg l off n) (cs.extract off (off+n)).toList:=by grind [seg,Array.getElem?_extract,Array.getElem?_eq_some_iff,VSs]
theorem Qrk {T:Tys} (hT:QaU P T) {t:TypeId} {y:Ty} (hy:T t=some y) {ρ:Nm} {l:List SV} {cs:Array Value} (h:VSs ρ l cs.toList) {off:Nat} {u:AV} (hp:Qiy y l off=some u) (w:World) :
  ∃ v,(part t cs off).run P w= .ok v w/\VA ρ u v:=by
 unfold Qiy at hp
 cases e:y.kind.agg with
 | true =>
  rw [e] at hp;injection hp with hp;subst hp
  refine ⟨.agg (cs.extract off (off+y.size)),?_,⟨_,rfl,Qwf h off y.size⟩⟩;simp [part,(hT t y hy).agg w,e,(hT t y hy).sizeOf w]
 | false =>
  rw [e] at hp;simp only [] at hp
  cases e2:l[off]? with
  | none=>grind
  | some s =>
   rw [e2] at hp;injection hp with hp;subst hp
   obtain ⟨v,h1,h2⟩:=h.2 _ s e2;have VP:cs[off]?=some v:=by simpa using h1
   exact ⟨v,by simp [part,(hT t y hy).agg w,e,VP],h2⟩
theorem Qmi {ρ:Nm} {a:Act} {x:Operand} {u:AV} (h1:∀ z∈o.op.operands,VT ρ (tv z) (a.eval z)) (hm:x∈o.op.operands) (hx:tv x= .a u):VA ρ u (a.eval x):=by
 have:=h1 x hm;rw [hx] at this;exact this
theorem QrT {T:Tys} (hT:QaU P T) (t:TypeId) (x:Operand) (f:Nat) (y yf:Ty) (fs:List (Nat × TypeId)) (p:Nat × TypeId) (l:List SV) (u:AV) (ho:o.op= .field t x f) (hx:tv x= .a (.agg l)) (hy:T t=some y) (hk:y.kind= .struct fs)
  (hf:fs[f]?=some p) (VN:T p.2=some yf) (hu:Qiy yf l p.1=some u):SemOp P o tv n0 [] (. =⟨.a u,[],[]⟩) :=
 SemOp.read fun F ρ hp a w h1 hc _=>by
  obtain ⟨_,h2,h6⟩:=Qmi h1 (by rw [ho];simp [Op.operands]) hx;obtain ⟨fields,h3,h4⟩:=(hT t y hy).struct hk;subst h4;rw [List.getElem?_map] at hf
  cases e:fields.toList[f]? with
  | none=>grind
  | some fd =>
   rw [e] at hf;injection hf with hf;subst hf
   have e':fields[f]?=some fd:=by simpa using e
   obtain ⟨v,h7,h8⟩:=Qrk hT VN h6 hu w;refine ⟨v,h8,?_⟩;unfold execOp;rw [ho];simp [h2,Instr.field,run_underlying h3,e',asAgg,h7]
theorem QnY {T:Tys} (hT:QaU P T) (t e:TypeId) (x ix:Operand) (y ye:Ty) (l:List SV) (n:Nat) (u:AV) (q:IntKind) (z:Int) (ho:o.op= .index t x ix) (hx:tv x= .a (.agg l)) (yD:tv ix= .a (.s (.int q z))) (hy:T t=some y) (hk:y.kind= .array n e)
  (he:T e=some ye) (h0:0<=z) (hn:z<n) (hu:Qiy ye l (z.toNat * ye.size)=some u):SemOp P o tv n0 [] (. =⟨.a u,[],[]⟩) :=
 SemOp.read fun F ρ hp a w h1 hc _=>by
  obtain ⟨_,h2,h6⟩:=Qmi h1 (by rw [ho];simp [Op.operands]) hx;have h5:a.eval ix= .int q z:=QaW h1 (by rw [ho];simp [Op.operands]) yD;have hut:=(hT t y hy).arr hk;obtain ⟨v,h7,h8⟩:=Qrk hT he h6 hu w;refine ⟨v,h8,?_⟩;unfold execOp;rw [ho];have e1:(asIntOf (.int q z)).run P w= .ok (q,z) w:=rfl;simp [h2,h5,Instr.index,e1,run_underlying hut,h0,hn,(hT _ _ he).sizeOf w,h7]
theorem QlF (x:Operand) (k:Nat) (l:List AV) (u:AV) (ho:o.op= .extract x k) (hx:tv x= .tup l) (hu:l[k]?=some u):SemOp P o tv n0 [] (. =⟨.a u,[],[]⟩) :=
 SemOp.read fun F ρ hp a w h1 hc _=>by
  have h2:=h1 x (by rw [ho];simp [Op.operands]);rw [hx] at h2;obtain ⟨vs,h3,h4⟩:=h2;obtain ⟨v,h5,h6⟩:=h4.2 k u hu;have h5':vs[k]?=some v:=by simpa using h5
  refine ⟨v,h6,?_⟩;unfold execOp;rw [ho];simp [h3,Instr.extract,h5']
theorem Qka (x:Operand) (i k:Nat) (ho:o.op= .nilCheck x) (hx:tv x= .a (.s (.ptr i k))):SemOp P o tv n0 [] (. =⟨.a (.s (.ptr i k)),[],[]⟩) :=
 SemOp.read fun F ρ hp a w h1 hc _=>by
  have h2:=QaW h1 (by rw [ho];simp [Op.operands]) hx;obtain ⟨L,hL,h3⟩:=h2;refine ⟨a.eval x,⟨L,hL,h3⟩,?_⟩;unfold execOp;rw [ho];simp [h3]
theorem QiJ (x:Operand) (f:FuncId) (cap:List (Nat × Nat)) (ho:o.op= .nilCheck x) (hx:tv x= .a (.s (.fn (.func f) cap))):SemOp P o tv n0 [] (. =⟨.a (.s (.fn (.func f) cap)),[],[]⟩) :=
 SemOp.read fun F ρ hp a w h1 hc _=>by
  have h2:=QaW h1 (by rw [ho];simp [Op.operands]) hx;obtain ⟨vs,h3,h4⟩:=h2;refine ⟨a.eval x,⟨vs,h3,h4⟩,?_⟩;unfold execOp;rw [ho];simp [h3]
theorem QrS {T:Tys} (hT:QaU P T) (s d:TypeId) (x:Operand) (ys yd:Ty) (k q:IntKind) (z:Int) (ho:o.op= .convert s d x) (hx:tv x= .a (.s (.int q z))) (hs:T s=some ys) (hd:T d=some yd) (hk:yd.kind= .int k) :
  SemOp P o tv n0 [] (. =⟨.a (.s (.int k (k.wrap z))),[],[]⟩) :=
 SemOp.read fun F ρ hp a w h1 hc _=>by
  have h2:a.eval x= .int q z:=QaW h1 (by rw [ho];simp [Op.operands]) hx;obtain ⟨_,_,_,h3,_⟩:=hT s ys hs;have h4:=(hT d yd hd).int hk;refine ⟨.int k (k.wrap z),rfl,?_⟩;unfold execOp;rw [ho];simp [h2,run_convert_int w s d q z (by rw [h3];rfl) (by rw [h4];simp [Program.intKind,h4]),Program.intKind,h4]
theorem QlE {T:Tys} (hT:QaU P T) (s d:TypeId) (x:Operand) (ys yd:Ty) (z:ByteArray) (ho:o.op= .convert s d x) (hx:tv x= .a (.s (.str z))) (hs:T s=some ys) (hd:T d=some yd) (hk:yd.kind= .str) :
  SemOp P o tv n0 [] (. =⟨.a (.s (.str z)),[],[]⟩) :=
 SemOp.read fun F ρ hp a w h1 hc _=>by
  have h2:a.eval x= .string z:=QaW h1 (by rw [ho];simp [Op.operands]) hx;obtain ⟨ds,_,_,h3,_⟩:=hT s ys hs;have h4:=(hT d yd hd).str hk;refine ⟨.string z,rfl,?_⟩;unfold execOp;rw [ho];simp only [h2,convert,Sem.run_bind,run_underlying h3,run_underlying h4,Result.andThen_ok];cases ds<;>rfl
theorem Qzj {T:Tys} (hT:QaU P T) (c:Call) (t e:TypeId) (x:Operand) (y:Ty) (i k n:Nat) (ho:o.op= .call c) (fF:c.callee= .builtin .len) (qL:c.args= #[x]) (fM:c.argTypes= #[t]) (hx:tv x= .a (.s (.sl i k n))) (hy:T t=some y) (hk:y.kind= .slice e) :
  SemOp P o tv n0 [] (. =⟨.a (.s (.int .i64 n)),[],[]⟩) :=
 SemOp.read fun F ρ hp a w h1 hc _=>by
  obtain ⟨_,_,h2,_⟩:=QaW h1 (by rw [ho];simp [Op.operands,Call.operands,qL,fF]) hx;have hu:=(hT t y hy).sl hk;refine ⟨.int .i64 n,rfl,?_⟩;unfold execOp;rw [ho];simp [resolve,fF,qL,fM,invoke,builtin,Builtin.len_,h2,run_underlying hu,goInt]
theorem QrV {T:Tys} (hT:QaU P T) (c:Call) (t e:TypeId) (x:Operand) (y:Ty) (k n:Nat) (fc:List SV) (ho:o.op= .call c) (fF:c.callee= .builtin .len) (qL:c.args= #[x]) (fM:c.argTypes= #[t]) (hx:tv x= .a (.s (.fz k n fc))) (hy:T t=some y) (hk:y.kind= .slice e) :
  SemOp P o tv n0 [] (. =⟨.a (.s (.int .i64 n)),[],[]⟩) :=
 SemOp.read fun F ρ hp a w h1 hc _=>by
  obtain ⟨_,_,h2,_⟩:=QaW h1 (by rw [ho];simp [Op.operands,Call.operands,qL,fF]) hx;have hu:=(hT t y hy).sl hk;refine ⟨.int .i64 n,rfl,?_⟩;unfold execOp;rw [ho];simp [resolve,fF,qL,fM,invoke,builtin,Builtin.len_,h2,run_underlying hu,goInt]
theorem Qn0 {T:Tys} (hT:QaU P T) (c:Call) (t e:TypeId) (x:Operand) (y:Ty) (ho:o.op= .call c) (fF:c.callee= .builtin .len) (qL:c.args= #[x]) (fM:c.argTypes= #[t]) (hx:tv x= .a (.s .nilsl)) (hy:T t=some y) (hk:y.kind= .slice e) :
  SemOp P o tv n0 [] (. =⟨.a (.s (.int .i64 0)),[],[]⟩) :=
 SemOp.read fun F ρ hp a w h1 hc _=>by
  have h2:a.eval x= .slice none 0 0:=QaW h1 (by rw [ho];simp [Op.operands,Call.operands,qL,fF]) hx;have hu:=(hT t y hy).sl hk;refine ⟨.int .i64 0,rfl,?_⟩;unfold execOp;rw [ho];simp [resolve,fF,qL,fM,invoke,builtin,Builtin.len_,h2,run_underlying hu,goInt]
theorem QuL {T:Tys} (hT:QaU P T) (c:Call) (t:TypeId) (x:Operand) (y:Ty) (s:ByteArray) (ho:o.op= .call c) (fF:c.callee= .builtin .len) (qL:c.args= #[x]) (fM:c.argTypes= #[t]) (hx:tv x= .a (.s (.str s))) (hy:T t=some y) (hk:y.kind= .str) :
  SemOp P o tv n0 [] (. =⟨.a (.s (.int .i64 s.size)),[],[]⟩) :=
 SemOp.read fun F ρ hp a w h1 hc _=>by
  have h2:a.eval x= .string s:=QaW h1 (by rw [ho];simp [Op.operands,Call.operands,qL,fF]) hx;have hu:=(hT t y hy).str hk;refine ⟨.int .i64 s.size,rfl,?_⟩;unfold execOp;rw [ho];simp [resolve,fF,qL,fM,invoke,builtin,Builtin.len_,h2,run_underlying hu,goInt]
def QAC (x y:Int):Int:=if y<x then y else x
def Qot:Int->List Int->Int
 | x,[]=>x
 | x,y::l=>Qot (QAC x y) l
theorem Qzc (k:IntKind) (w:World):∀ (l:List Int) (x:Int),((l.map (Value.int k)).foldlM Builtin.min2 (.int k x)).run P w= .ok (.int k (Qot x l)) w:=by
 intro l
 induction l with
 | nil=>intro x;rfl
 | cons y l ih =>
  intro x;simp only [List.map_cons,List.foldlM_cons,Builtin.min2,Sem.run_bind];exact ih _
def QGi (x y:Int):Int:=if x<y then y else x
def QAB:Int->List Int->Int
 | x,[]=>x
 | x,y::l=>QAB (QGi x y) l
theorem Qzb (k:IntKind) (w:World):∀ (l:List Int) (x:Int),((l.map (Value.int k)).foldlM Builtin.max2 (.int k x)).run P w= .ok (.int k (QAB x l)) w:=by
 intro l
 induction l with
 | nil=>intro x;rfl
 | cons y l ih =>
  intro x;simp only [List.map_cons,List.foldlM_cons,Builtin.max2,Sem.run_bind];exact ih _
def Qjz (tv:Operand->TV) (k:IntKind):List Operand->Option (List Int)
 | []=>some []
 | x::l=>match tv x with
  | .a (.s (.int q z))=>if q=k then (match Qjz tv k l with|some r=>some (z::r)|none=>none) else none
  | _=>none
theorem QqG {ρ:Nm} {a:Act} (k:IntKind):∀ (l:List Operand) (r:List Int),Qjz tv k l=some r->(∀ x∈l,VT ρ (tv x) (a.eval x))->l.map a.eval=r.map (Value.int k):=by
 intro l
 induction l with
 | nil=>intro r h _;injection h with h;subst h;rfl
 | cons x l ih =>
  intro r h hv;unfold Qjz at h;have hx:=hv x (by simp);split at h
  .rename_i q z e
   rw [e] at hx;split at h
   .rename_i hq;subst hq
    split at h
    .rename_i r' e2
     injection h with h;subst h
     simp only [List.map_cons];rw [ih r' e2 (fun y hy=>hv y (by simp [hy]))];congr 1
    .cases h
   .cases h
  .cases h
theorem Qzl (c:Call) (k:IntKind) (x:Operand) (l:List Operand) (z:Int) (r:List Int) (ho:o.op= .call c) (fF:c.callee= .builtin .min) (qL:c.args.toList=x::l) (hx:Qjz tv k (x::l)=some (z::r)) :
  SemOp P o tv n0 [] (. =⟨.a (.s (.int k (Qot z r))),[],[]⟩) :=
 SemOp.read fun F ρ hp a w h1 hc _=>by
  have h2:=QqG (ρ:=ρ) (a:=a) k _ _ hx (fun y hy=>h1 y (by rw [ho];simp only [Op.operands,Call.operands,fF];rw [<- qL] at hy;simpa using hy));have h3:(c.args.map a.eval).toList= .int k z::r.map (Value.int k):=by rw [Array.toList_map,qL,h2];rfl
  refine ⟨.int k (Qot z r),rfl,?_⟩;unfold execOp;rw [ho];simp only [resolve,fF,invoke,builtin,Builtin.min_,h3,Qzc,Sem.run_bind,Result.andThen_ok,Sem.run_pure]
theorem Qzk (c:Call) (k:IntKind) (x:Operand) (l:List Operand) (z:Int) (r:List Int) (ho:o.op= .call c) (fF:c.callee= .builtin .max) (qL:c.args.toList=x::l) (hx:Qjz tv k (x::l)=some (z::r)) :
  SemOp P o tv n0 [] (. =⟨.a (.s (.int k (QAB z r))),[],[]⟩) :=
 SemOp.read fun F ρ hp a w h1 hc _=>by
  have h2:=QqG (ρ:=ρ) (a:=a) k _ _ hx (fun y hy=>h1 y (by rw [ho];simp only [Op.operands,Call.operands,fF];rw [<- qL] at hy;simpa using hy));have h3:(c.args.map a.eval).toList= .int k z::r.map (Value.int k):=by rw [Array.toList_map,qL,h2];rfl
  refine ⟨.int k (QAB z r),rfl,?_⟩;unfold execOp;rw [ho];simp only [resolve,fF,invoke,builtin,Builtin.max_,h3,Qzb,Sem.run_bind,Result.andThen_ok,Sem.run_pure]
def Qnd (tv:Operand->TV):List Operand->Option (List (Nat × Nat))
 | []=>some []
 | x::l=>match tv x with
  | .a (.s (.ptr i k))=>(match Qnd tv l with|some r=>some ((i,k)::r)|none=>none)
  | _=>none
theorem QwR {ρ:Nm} {a:Act}:∀ (l:List Operand) (r:List (Nat × Nat)),Qnd tv l=some r->(∀ x∈l,VT ρ (tv x) (a.eval x)) ->
  l.length=r.length/\∀ (k:Nat) (p:Nat × Nat),r[k]?=some p->∃ L,ρ p.1=some (.at L)/\(l.map a.eval)[k]?=some (Value.pointer (some ⟨L.b,L.δ+p.2,none⟩)):=by
 intro l
 induction l with
 | nil=>intro r h _;injection h with h;subst h;exact ⟨rfl,fun k p e=>by cases e⟩
 | cons x l ih =>
  intro r h hv;unfold Qnd at h;have hx:=hv x (by simp);split at h
  .rename_i i k e
   rw [e] at hx;split at h
   .rename_i r' e2
    injection h with h;subst h
    obtain ⟨g1,_⟩:=ih r' e2 (fun y hy=>hv y (by simp [hy]));refine ⟨by simp [g1],fun j p hj=>?_⟩
    cases j with
    | zero=>simp at hj;subst hj;obtain ⟨L,hL,h3⟩:=hx;exact ⟨L,hL,by simp [h3]⟩
    | succ j=>grind
   .cases h
  .cases h
theorem Qj9 (f:Fn) (cs:Array Operand) (cap:List (Nat × Nat)) (ho:o.op= .makeFunc f #[] cs) (hc:Qnd tv cs.toList=some cap):SemOp P o tv n0 [] (. =⟨.a (.s (.fn f cap)),[],[]⟩) :=
 SemOp.read fun F ρ hp a w h1 _ _=>by
  obtain ⟨g1,_⟩:=QwR (ρ:=ρ) (a:=a) _ _ hc (fun x hx=>h1 x (by rw [ho];simp only [Op.operands];simpa using hx));refine ⟨.func f #[] (cs.map a.eval),⟨_,rfl,by simpa using g1,fun k p hp=>?_⟩,?_⟩
  .grind
  .unfold execOp;rw [ho]
   simp [Instr.makeFunc]
variable {P:Program} {o:Oper} {tv:Operand->TV} {n0:Nat}
def QkL (tv:Operand->TV) (d:Int):Option Operand->Option Int
 | none=>some d
 | some x=>match tv x with
  | .a (.s (.int _ z))=>some z
  | _=>none
theorem QBd {ρ:Nm} {a:Act} {d:Int} {x:Option Operand} {z:Int} (h:QkL tv d x=some z) (hv:∀ y,x=some y->VT ρ (tv y) (a.eval y)) :
  (x=none/\z=d)\/∃ y k,x=some y/\a.eval y= .int k z:=by
 cases x with
 | none=>injection h with h;exact .inl ⟨rfl,h.symm⟩
 | some y =>
  have hy:=hv y rfl;simp only [QkL] at h;split at h
  .rename_i k q e
   injection h with h;subst h
   rw [e] at hy;exact .inr ⟨y,_,rfl,hy⟩
  .cases h
theorem Qfk (b:Bool) (len cap:Nat) (lo hi:Option Value) (l h:Int) (w:World) (hl:lo=none/\l=0\/∃ k,lo=some (.int k l)) (hh:hi=none/\h=len\/∃ k,hi=some (.int k h)) (h0:0<=l) (h1:l<=h) (h2:h<=cap) :
  (Instr.sliceBounds b len cap lo hi none).run P w= .ok (l.toNat,h.toNat,cap) w:=by
 have eh:(h.toNat:Int)=h:=Int.toNat_of_nonneg (by omega);rcases hl with ⟨rfl,rfl⟩|⟨k,rfl⟩<;>rcases hh with ⟨rfl,rfl⟩|⟨k',rfl⟩
 .simp [Instr.sliceBounds]
 .simp [Instr.sliceBounds,run_sliceBound,h2,(by omega:0<=h)]
 .simp [Instr.sliceBounds,run_sliceBound,h0,h1]
 .simp [Instr.sliceBounds,run_sliceBound,h0,h1,h2,eh,(by omega:0<=h)]
theorem Qfg {ρ:Nm} {a:Act} {d:Int} {x:Option Operand} {z:Int} (h:QkL tv d x=some z) (hv:∀ y,x=some y->VT ρ (tv y) (a.eval y)):x.map a.eval=none/\z=d\/∃ k,x.map a.eval=some (.int k z):=by
 rcases QBd h hv with ⟨rfl,rfl⟩|⟨y,k,rfl,e⟩
 .grind
 .grind
theorem Qn1 {T:Tys} (hT:QaU P T) (t:TypeId) (x:Operand) (lo hi:Option Operand) (y:Ty) (s:ByteArray) (l h:Int) (ho:o.op= .slice t x lo hi none) (hx:tv x= .a (.s (.str s))) (hy:T t=some y) (hk:y.kind= .str)
  (hl:QkL tv 0 lo=some l) (hh:QkL tv s.size hi=some h) (h0:0<=l) (h1:l<=h) (h2:h<=s.size):SemOp P o tv n0 [] (. =⟨.a (.s (.str (s.extract l.toNat h.toNat))),[],[]⟩) :=
 SemOp.read fun F ρ hp a w g1 hc _=>by
  have e2:a.eval x= .string s:=QaW g1 (by rw [ho];simp [Op.operands]) hx;have b1:=Qfg (ρ:=ρ) (a:=a) hl (fun z hz=>g1 z (by rw [ho];subst hz;simp [Op.operands]));have b2:=Qfg (ρ:=ρ) (a:=a) hh (fun z hz=>g1 z (by rw [ho];subst hz;simp [Op.operands]));have hu:=(hT t y hy).str hk;refine ⟨.string (s.extract l.toNat h.toNat),rfl,?_⟩;unfold execOp;rw [ho];simp only [e2,Option.map_none,Sem.run_bind,run_sliceAt_string w t _ _ _ _ hu];simp [Instr.slice,run_underlying hu,Qfk (P:=P) false s.size s.size _ _ l h w b1 b2 h0 h1 h2]
theorem QrW {T:Tys} (hT:QaU P T) (t e:TypeId) (x:Operand) (lo hi:Option Operand) (y ye:Ty) (i k n:Nat) (r:Row) (l h:Int) (ho:o.op= .slice t x lo hi none) (hx:tv x= .a (.s (.sl i k n))) (hy:T t=some y) (hk:y.kind= .slice e) (he:T e=some ye)
  (vW:r.es=ye.size) (hl:QkL tv 0 lo=some l) (hh:QkL tv n hi=some h) (h0:0<=l) (h1:l<=h) (h2:h<=n):SemOp P o tv n0 [(i,r)] (. =⟨.a (.s (.sl i (k+l.toNat * ye.size) (h-l).toNat)),[],[]⟩) :=
 SemOp.read fun F ρ hp a w g1 hc hf=>by
  obtain ⟨A,c,e2,_,e3⟩:=QaW g1 (by rw [ho];simp [Op.operands]) hx;have b1:=Qfg (ρ:=ρ) (a:=a) hl (fun z hz=>g1 z (by rw [ho];subst hz;simp [Op.operands]));have b2:=Qfg (ρ:=ρ) (a:=a) hh (fun z hz=>g1 z (by rw [ho];subst hz;simp [Op.operands]));have hu:=(hT t y hy).sl hk;have hr:=hf (i,r) (by simp);refine ⟨.slice (if c=l.toNat then A else A.map (·.add (l.toNat * ye.size))) (h.toNat-l.toNat) (c-l.toNat),⟨_,_,by rw [show (h-l).toNat=h.toNat-l.toNat by omega],by omega,?_⟩,?_⟩
  .rcases e3 with ⟨L,hL,⟨rfl,hb⟩|h6⟩|⟨h5,h6⟩
   .have JV:=(QhK hc hr hL).1
    refine .inl ⟨L,hL,?_⟩
    by_cases gK:c=l.toNat
    .omega
    .refine .inl ⟨by rw [if_neg gK];simp [Addr.add_lit,Nat.add_assoc],?_⟩
     rw [JV,vW] at hb |-;have:l.toNat * ye.size+(c-l.toNat)*ye.size=c*ye.size:=by rw [<- Nat.add_mul];congr 1;omega
     omega
   .grind
   .grind
  .unfold execOp;rw [ho]
   have YV:P.underlying t=some (.slice (P.elem t)):=by simp [Program.elem,hu]
   simp only [e2,Option.map_none,Sem.run_bind,run_sliceAt_slice w t _ _ _ _ YV];simp [Instr.slice,run_underlying hu,Qfk (P:=P) true n c _ _ l h w b1 b2 h0 h1 (by omega),(hT _ _ he).sizeOf w]
theorem Qkc {T:Tys} (hT:QaU P T) (t e:TypeId) (x:Operand) (lo hi:Option Operand) (y ye:Ty) (ho:o.op= .slice t x lo hi none) (hx:tv x= .a (.s .nilsl)) (hy:T t=some y) (hk:y.kind= .slice e) (he:T e=some ye)
  (hl:QkL tv 0 lo=some 0) (hh:QkL tv 0 hi=some 0):SemOp P o tv n0 [] (. =⟨.a (.s .nilsl),[],[]⟩) :=
 SemOp.read fun F ρ hp a w g1 hc hf=>by
  have e2:a.eval x= .slice none 0 0:=QaW g1 (by rw [ho];simp [Op.operands]) hx;have b1:=Qfg (ρ:=ρ) (a:=a) hl (fun z hz=>g1 z (by rw [ho];subst hz;simp [Op.operands]));have b2:=Qfg (ρ:=ρ) (a:=a) hh (fun z hz=>g1 z (by rw [ho];subst hz;simp [Op.operands]));have hu:=(hT t y hy).sl hk;refine ⟨.slice none 0 0,rfl,?_⟩;unfold execOp;rw [ho];have YV:P.underlying t=some (.slice (P.elem t)):=by simp [Program.elem,hu]
  simp only [e2,Option.map_none,Sem.run_bind,run_sliceAt_slice w t _ _ _ _ YV];simp [Instr.slice,run_underlying hu,Qfk (P:=P) true 0 0 _ _ 0 0 w b1 b2 (by omega) (by omega) (by omega),(hT _ _ he).sizeOf w]
def QcA (s:ByteArray):List SV:=s.data.toList.map fun b=>SV.int .u8 b.toNat
theorem Qfx (l:List UInt8):Qat (l.map fun b=>SV.int .u8 b.toNat)=true:=by
 induction l with
 | nil=>rfl
 | cons a l ih=>unfold Qat;exact ih
def QEG (tv:Operand->TV) (x:Operand) (es:Nat) (fp:List (Nat × Row)) (m:Nat) (l:List SV):Prop :=
 (tv x= .a (.s .nilsl)/\fp= []/\m=0/\l= []) \/
 (∃ j k r,tv x= .a (.s (.sl j k m))/\fp= [(j,r)]/\l.length=m*es/\Qat l=true/\∀ (q:Nat) s,l[q]?=some s->r.cells[k+q]?=some s) \/
 (∃ s,tv x= .a (.s (.str s))/\fp= []/\m=s.size/\l=QcA s/\es=1)
theorem Qwj {F:Fr} {ρ:Nm} {hp:Hp} {w:World} {x:Operand} {es m:Nat} {fp:List (Nat × Row)} {l:List SV} {tx:TypeId} {v:Value} (hs:QEG tv x es fp m l) (hv:VT ρ (tv x) v) (hc:Conc F ρ hp w) (hf:∀ p∈fp,hp p.1=some p.2)
  (jA:(∃ s,tv x= .a (.s (.str s)))->P.underlying tx=some .string) (yE:(¬ ∃ s,tv x= .a (.s (.str s)))->∃ e',P.underlying tx=some (.slice e')) :
  ∃ news,VSs ρ l news/\Src P es tx v m news w/\l.length=m*es/\Qat l=true:=by
 rcases hs with ⟨h1,rfl,rfl,rfl⟩|⟨j,k,r,h1,rfl,h2,h3,h4⟩|⟨s,h1,rfl,rfl,rfl,rfl⟩
 .rw [h1] at hv
  have hv:v= .slice none 0 0:=hv;subst hv;obtain ⟨e',hk⟩:=yE (by rintro ⟨s,hs⟩;rw [h1] at hs;cases hs);exact ⟨[],⟨rfl,fun k s e=>by cases e⟩,Src.ofNil w hk 0,by simp,rfl⟩
 .rw [h1] at hv
  obtain ⟨A,c,rfl,_,e3⟩:=hv;obtain ⟨e',hk⟩:=yE (by rintro ⟨s,hs⟩;rw [h1] at hs;cases hs)
  have nil:m=0->∃ news,VSs ρ l news/\Src P es tx (.slice A m c) m news w/\l.length=m*es/\Qat l=true:=by
   rintro rfl;have:l= []:=by rw [Nat.zero_mul] at h2;exact List.eq_nil_of_length_eq_zero h2
   subst this
   cases A with
   | none=>exact ⟨[],⟨rfl,fun k s e=>by cases e⟩,Src.ofNil w hk c,by simp,rfl⟩
   | some a=>exact ⟨[],⟨rfl,fun k s e=>by cases e⟩,Src.ofSlice w hk a 0 c [] (by simp) (fun j u e=>by cases e) (fun u hu=>by cases hu),by simp,rfl⟩
  rcases e3 with ⟨L,hL,⟨rfl,hb⟩|h6⟩|⟨h5,h6⟩
  .have hr:=hf (j,r) (by simp)
   have:∀ q,∃ v,q<l.length->(w.cell? ⟨L.b,L.δ+k+q,none⟩=some v/\∀ s,l[q]?=some s->VS ρ s v):=fun q=>by
    by_cases hq:q<l.length
    .obtain ⟨v,g1,g2⟩:=Qgf hc hr hL (h4 q _ (List.getElem?_eq_getElem hq))
     refine ⟨v,fun _=>⟨by rw [Nat.add_assoc];exact g1,fun s e=>?_⟩⟩;rw [List.getElem?_eq_getElem hq] at e;injection e with e;subst e;exact g2
    .exact ⟨default,fun h=>absurd h hq⟩
   obtain ⟨f,hf'⟩:=Classical.axiomOfChoice this;have hV:VSs ρ l ((List.range l.length).map f):=⟨by simp,fun q s e=>by grind⟩;refine ⟨_,hV,Src.ofSlice w hk ⟨L.b,L.δ+k,none⟩ m c _ (by simpa using h2) (fun q u e=>?_) (hV.one h3),h2,h3⟩;have hq:q<l.length:=by have:=(List.getElem?_eq_some_iff.1 e).1;simpa using this
   simp [hq] at e;subst e;rw [Addr.add_lit];exact (hf' q hq).1
  .grind
  .grind
 .rw [h1] at hv
  have hv:v= .string s:=hv;subst hv;refine ⟨byteCells s,?_,Src.ofString w (jA ⟨s,h1⟩) s,?_,Qfx _⟩
  .refine ⟨by simp [QcA,byteCells],fun k x e=>?_⟩
   unfold QcA at e;unfold byteCells;rw [List.getElem?_map] at e |-
   cases e2:s.data.toList[k]? with
   | none=>grind
   | some b=>rw [e2] at e;injection e with e;subst e;exact ⟨_,rfl,rfl⟩
  .rw [Nat.mul_one]
   show (s.data.toList.map fun b=>SV.int .u8 b.toNat).length=s.data.size;rw [List.length_map,Array.length_toList]
theorem Qg5 (w:World) (t tx ty e:TypeId) (i:TypeInfo) (ht:P.underlying t=some (.slice e)) (hi:P.info? e=some i) (b off sLen sCap:Nat) (x:Value) (n:Nat) (news:List Value) (hs:Src P i.size tx x n news w)
  (yW:sLen+n<=sCap) (cur:Array Value) (ct:TypeId) (hg:w.heap[b]?=some (.cells cur ct (0,0))) (HX:off+sLen*i.size+news.length<=cur.size) :
  (Builtin.append_ #[t,tx] ty #[.slice (some ⟨b,off,none⟩) sLen sCap,x]).run P w =
   .ok (.slice (some ⟨b,off,none⟩) (sLen+n) sCap) (w.setRow b (cur.toList.take (off+sLen*i.size)++news++cur.toList.drop (off+sLen*i.size+news.length)).toArray):=by
 have gN:=run_storeCells_at P b (off+sLen*i.size) ct news 0 cur w hg (by simpa using HX) hs.one;simp only [Nat.add_zero] at gN;rcases hs.kind with ⟨e',hk⟩|hk<;>simp [Builtin.append_,run_underlying ht,run_underlying hk,sizeOf,typeInfo,hi,hs.len,yW,hs.cells,Addr.add_lit,gN]
theorem Qc9 (w:World) (t tx ty e:TypeId) (i:TypeInfo) (ht:P.underlying t=some (.slice e)) (hi:P.info? e=some i) (A:Option Addr) (sCap:Nat) (x:Value) (hs:Src P i.size tx x 0 [] w) :
  (Builtin.append_ #[t,tx] ty #[.slice A 0 sCap,x]).run P w= .ok (.slice A 0 sCap) w:=by
 rcases hs.kind with ⟨e',hk⟩|hk<;>cases A<;>simp [Builtin.append_,run_underlying ht,run_underlying hk,sizeOf,typeInfo,hi,hs.len,hs.cells,storeCells]
variable {P:Program} {o:Oper} {tv:Operand->TV} {n0:Nat}
theorem Qbs (c:Call) (b:Builtin) (x y:Operand) (a:Act) (w w':World) (v:Value) (f:Array TypeId->TypeId->Array Value->Sem Value) (ho:o.op= .call c) (fF:c.callee= .builtin b) (qL:c.args= #[x,y])
  (hb:∀ ct ty k vs,builtin b ct ty k vs=(do pure (.value (<- f ct ty vs)))) (hr:(f c.argTypes o.type #[a.eval x,a.eval y]).run P w= .ok v w'):(execOp a.eval o).run P w= .ok (.value v) w':=by
 unfold execOp;rw [ho];simp [resolve,fF,qL,invoke,hb,hr]
theorem Qh4 (v:TV) (i n:Nat) (r:Row) (hp:Hp):Ef.app ⟨v,[(i,none)],[(n,r)]⟩ hp=Hp.set (Hp.set hp i none) n (some r):=by
 funext m
 show (match QaX [(n,r)] m with|some r=>some r|none=>match QaX [(i,(none:Option Row))] m with|some r=>r|none=>hp m)=_;rw [Qt1,Qt1];unfold Hp.set
 by_cases h1:m=n
 .simp [h1]
 .grind
theorem QoI (v:TV) (n:Nat) (r:Row) (hp:Hp):Ef.app ⟨v,[],[(n,r)]⟩ hp=Hp.set hp n (some r):=by
 funext m
 show (match QaX [(n,r)] m with|some r=>some r|none=>hp m)=_;rw [Qt1];unfold Hp.set
 by_cases h1:m=n<;>simp [h1]
theorem Nm.set_frame {ρ:Nm} {p:PL} (n:Nat) (fQ:¬ (n0<=n/\n<n0+Qaq)):Nm.set ρ n0 p n=ρ n:=by
 unfold Nm.set;simp only [];rw [if_neg];rintro rfl;exact fQ ⟨Nat.le_refl _,by unfold Qaq;omega⟩
theorem QiG {T:Tys} (hT:QaU P T) (c:Call) (t tx e:TypeId) (x y:Operand) (yt yx ye:Ty) (m:Nat) (fp:List (Nat × Row)) (l:List SV) (ho:o.op= .call c) (fF:c.callee= .builtin .append) (qL:c.args= #[x,y]) (fM:c.argTypes= #[t,tx])
  (hx:tv x= .a (.s .nilsl)) (vE:T t=some yt) (hk:yt.kind= .slice e) (wP:T e=some ye) (JC:T tx=some yx) (JA:(yx.kind= .str/\∃ s,tv y= .a (.s (.str s)))\/((∃ e',yx.kind= .slice e')/\¬ ∃ s,tv y= .a (.s (.str s))))
  (hs:QEG tv y ye.size fp m l) (hb:m*ye.bytes<=140737488355328) (hm:m<=9223372036854775807) :
  SemOp P o tv n0 fp (. =⟨.a (.s (.sl n0 0 m)),[],[(n0,⟨true,ye.size,l⟩)]⟩):=by
 intro F ρ hp a w Q K h1 hc hf jB hK;have e1:a.eval x= .slice none 0 0:=QaW h1 (by rw [ho];simp [Op.operands,Call.operands,qL,fF]) hx;have e2:=h1 y (by rw [ho];simp [Op.operands,Call.operands,qL,fF]);have hu:=(hT t yt vE).sl hk;obtain ⟨_,ie,z,_,k2,k3,k4,_,k6,k7,k8⟩:=hT e ye wP
 obtain ⟨news,hv,yX,gF,_⟩:=Qwj (P:=P) hs e2 hc hf (fun ⟨s,hs⟩=>by
  rcases JA with ⟨h,_⟩|⟨_,h⟩
  .exact (hT tx yx JC).str h
  .exact absurd ⟨s,hs⟩ h) (fun hn=>by
  rcases JA with ⟨_,h⟩|⟨⟨e',h⟩,_⟩
  .grind
  .exact ⟨e',(hT tx yx JC).sl h⟩)
 have hn:ρ n0=none:=jB n0 (Nat.le_refl _) (by unfold Qaq;omega);rw [<- k3] at yX;unfold Oper.wp;rcases Nat.eq_zero_or_pos m with rfl|uV
 .have WJ:l= []:=by rw [Nat.zero_mul] at gF;exact List.eq_nil_of_length_eq_zero gF
  subst WJ;have hn0:news= []:=by have:=hv.1;simpa using this.symm
  subst hn0;have hr:=Qc9 (P:=P) w t tx o.type e ie hu k2 none 0 (a.eval y) yX;rw [Qbs c .append x y a w w _ Builtin.append_ ho fF qL (fun _ _ _ _=>rfl) (by rw [fM,e1];exact hr),Oper.upon_value];obtain ⟨g1,g2⟩:=hc.newEmpty hn ye.size;refine hK _ _ _ _ rfl g1 (fun n fQ=>Nm.set_frame n fQ) ⟨none,0,rfl,Nat.le_refl _,.inr ⟨Nm.set_same _ _ _,rfl⟩⟩ ?_;rw [QoI];exact g2
 .have hr:=run_append_grow_src (P:=P) w t tx o.type e ie z hu k2 k6 none 0 0 [] (by simp [Builtin.firstCells]) (a.eval y) m news yX (by omega) (by omega) (by rw [k4];simpa using growslice_fits (old:=0) (need:=0+m) (by omega) (by simpa using hb))
  simp only [Nat.zero_add,List.nil_append] at hr;rw [Qbs c .append x y a w _ _ Builtin.append_ ho fF qL (fun _ _ _ _=>rfl) (by rw [fM,e1];exact hr),Oper.upon_value];have hvl:l.length=news.length:=hv.1;have HG:=grownCap_ge w m 0 e
  obtain ⟨g1,g2⟩:=hc.drew.new hn ye.size l (news.toArray++Builtin.zeroCells z.cells (grownCap w m 0 e-m)) e (by simp;omega) (fun k s hs=>by
   obtain ⟨v,q1,q2⟩:=hv.2 k s hs;have hk:k<news.length:=(List.getElem?_eq_some_iff.1 q1).1
   exact ⟨v,by rw [Array.getElem?_append_left (by simpa using hk)];simpa using q1,q2⟩)
  have VO:z.cells.size=ye.size:=by rw [<- k8,<- k7];simp
  refine hK _ _ _ _ rfl g1 (fun n fQ=>Nm.set_frame n fQ) ⟨_,_,rfl,HG,.inl ⟨_,Nm.set_same _ _ _,.inl ⟨rfl,?_⟩⟩⟩ ?_
  .simp only [Array.size_append,List.size_toArray,size_zeroCells,VO,Nat.zero_add]
   rw [<- hvl,gF,<- Nat.add_mul];exact Nat.mul_le_mul_right _ (by omega)
  .rw [QoI];exact g2
theorem QnV {T:Tys} (hT:QaU P T) (c:Call) (t tx e:TypeId) (x y:Operand) (yt yx ye:Ty) (i n m:Nat) (r:Row) (fp:List (Nat × Row)) (l:List SV) (ho:o.op= .call c) (fF:c.callee= .builtin .append) (qL:c.args= #[x,y]) (fM:c.argTypes= #[t,tx])
  (hx:tv x= .a (.s (.sl i 0 n))) (vE:T t=some yt) (hk:yt.kind= .slice e) (wP:T e=some ye) (JC:T tx=some yx) (JA:(yx.kind= .str/\∃ s,tv y= .a (.s (.str s)))\/((∃ e',yx.kind= .slice e')/\¬ ∃ s,tv y= .a (.s (.str s))))
  (hs:QEG tv y ye.size fp m l) (jS:r.own=true) (vW:r.es=ye.size) (uW:r.cells.length=n*ye.size) (hb:(n+m)*ye.bytes<=140737488355328) (hm:n+m<=9223372036854775807) :
  SemOp P o tv n0 ((i,r)::fp) (. =⟨.a (.s (.sl n0 0 (n+m))),[(i,none)],[(n0,⟨true,ye.size,r.cells++l⟩)]⟩):=by
 intro F ρ hp a w Q K h1 hc hf jB hK;obtain ⟨A,cc,e1,_,e3⟩:=QaW h1 (by rw [ho];simp [Op.operands,Call.operands,qL,fF]) hx;have e2:=h1 y (by rw [ho];simp [Op.operands,Call.operands,qL,fF]);have hu:=(hT t yt vE).sl hk;obtain ⟨_,ie,z,_,k2,k3,k4,_,k6,k7,k8⟩:=hT e ye wP
 obtain ⟨news,hv,yX,gF,_⟩:=Qwj (P:=P) hs e2 hc (fun p hp=>hf p (List.mem_cons_of_mem _ hp)) (fun ⟨s,hs⟩=>by
  rcases JA with ⟨h,_⟩|⟨_,h⟩
  .exact (hT tx yx JC).str h
  .exact absurd ⟨s,hs⟩ h) (fun hn=>by
  rcases JA with ⟨_,h⟩|⟨⟨e',h⟩,_⟩
  .grind
  .exact ⟨e',(hT tx yx JC).sl h⟩)
 have hn:ρ n0=none:=jB n0 (Nat.le_refl _) (by unfold Qaq;omega);have hr0:=hf (i,r) (by simp);simp only [] at hr0;rw [<- k3] at yX;have hvl:l.length=news.length:=hv.1;have VO:z.cells.size=ye.size:=by rw [<- k8,<- k7];simp
 have qB:i≠n0:=by rintro rfl;have:=hc.rows _ _ hr0;unfold RowOk at this;rw [hn] at this;exact this.elim
 unfold Oper.wp
 have fresh:∀ olds:List Value,VSs ρ r.cells olds->(Builtin.firstCells ie.size n (.slice A n cc)).run P w.drew= .ok olds.toArray w.drew->cc<n+m ->
   o.upon P a K Q ((execOp a.eval o).run P w):=by
  intro olds jR ZQ gU;have hr:=run_append_grow_src (P:=P) w t tx o.type e ie z hu k2 k6 A n cc olds ZQ (a.eval y) m news yX gU (by omega) (by rw [k4];exact growslice_fits gU hb);rw [Qbs c .append x y a w _ _ Builtin.append_ ho fF qL (fun _ _ _ _=>rfl) (by rw [fM,e1];exact hr),Oper.upon_value];have HG:=grownCap_ge w (n+m) cc e;have jF:r.cells.length=olds.length:=jR.1;have hless:Conc F ρ (Hp.set hp i none) w.drew:=hc.drew.less fun k s hs=>by unfold Hp.set at hs;split at hs;cases hs;exact hs
  obtain ⟨g1,g2⟩:=hless.new hn ye.size (r.cells++l) ((olds++news).toArray++Builtin.zeroCells z.cells (grownCap w (n+m) cc e-(n+m))) e (by simp;omega) (fun k s hs=>by
   by_cases hk:k<r.cells.length
   .rw [List.getElem?_append_left hk] at hs
    obtain ⟨v,q1,q2⟩:=jR.2 k s hs;exact ⟨v,by rw [Array.getElem?_append_left (by simp;omega)];simp;rw [List.getElem?_append_left (by omega)];exact q1,q2⟩
   .rw [List.getElem?_append_right (by omega)] at hs
    obtain ⟨v,q1,q2⟩:=hv.2 _ s hs;have jA:k-r.cells.length<news.length:=(List.getElem?_eq_some_iff.1 q1).1
    exact ⟨v,by rw [Array.getElem?_append_left (by simp;omega)];simp;rw [List.getElem?_append_right (by omega),<- jF];exact q1,q2⟩)
  refine hK _ _ _ _ rfl g1 (fun n fQ=>Nm.set_frame n fQ) ⟨_,_,rfl,HG,.inl ⟨_,Nm.set_same _ _ _,.inl ⟨rfl,?_⟩⟩⟩ ?_
  .simp only [Array.size_append,List.size_toArray,size_zeroCells,VO,Nat.zero_add,List.length_append]
   rw [<- hvl,gF,<- jF,uW,<- Nat.add_mul,<- Nat.add_mul];exact Nat.mul_le_mul_right _ (by omega)
  .rw [Qh4];exact g2
 have empty:cc=0->o.upon P a K Q ((execOp a.eval o).run P w):=by
  intro h6;have VD:n=0:=by omega
  have hr00:r.cells= []:=List.eq_nil_of_length_eq_zero (by rw [uW,VD,Nat.zero_mul]);rcases Nat.eq_zero_or_pos m with FW|uV
  .subst VD FW h6
   have WJ:l= []:=by rw [Nat.zero_mul] at gF;exact List.eq_nil_of_length_eq_zero gF
   subst WJ;have hn0':news= []:=by have:=hv.1;simpa using this.symm
   subst hn0';have hr:=Qc9 (P:=P) w t tx o.type e ie hu k2 A 0 (a.eval y) yX;rw [Qbs c .append x y a w w _ Builtin.append_ ho fF qL (fun _ _ _ _=>rfl) (by rw [fM,e1];exact hr),Oper.upon_value];have hless:Conc F ρ (Hp.set hp i none) w:=hc.less fun k s hs=>by unfold Hp.set at hs;split at hs;cases hs;exact hs
   obtain ⟨g1,g2⟩:=hless.newEmpty hn ye.size;refine hK _ _ _ _ rfl g1 (fun n fQ=>Nm.set_frame n fQ) ⟨A,0,rfl,Nat.le_refl _,.inr ⟨Nm.set_same _ _ _,rfl⟩⟩ ?_;rw [Qh4,hr00];exact g2
  .refine fresh [] (by rw [hr00];exact ⟨rfl,fun k s e=>by cases e⟩) ?_ (by omega)
   subst VD
   cases A with
   | none=>simp [Builtin.firstCells]
   | some b=>simp [Builtin.firstCells,loadCells,loadCellsFrom]
 rcases e3 with ⟨L,hL,⟨rfl,YJ⟩|h6⟩|⟨_,h6⟩
 .obtain ⟨JV,_,cur,ct,_,q1,q2,q3,_⟩:=QhK hc hr0 hL
  have q3:=q3 jS;subst q3
  by_cases yW:n+m<=cc
  .have hroomc:L.δ+n*ye.size+news.length<=cur.size:=by
    rw [q2,<- hvl,gF];rw [JV,vW] at YJ;have:(n+m)*ye.size<=cc*ye.size:=Nat.mul_le_mul_right _ yW;rw [Nat.add_mul] at this;omega
   have hr:=Qg5 (P:=P) w t tx o.type e ie hu k2 L.b (L.δ+0) n cc (a.eval y) m news yX yW cur ct q1 (by rw [k3];simpa using hroomc);rw [Qbs c .append x y a w _ _ Builtin.append_ ho fF qL (fun _ _ _ _=>rfl) (by rw [fM,e1];exact hr),Oper.upon_value];rw [k3,Nat.add_zero]
   obtain ⟨g1,g2⟩:=hc.grow hn hr0 jS hL (w':=w.setRow L.b (cur.toList.take (L.δ+n*ye.size)++news++cur.toList.drop (L.δ+n*ye.size+news.length)).toArray) (r.cells++l)
    (setRow_heap w L.b cur _ ct _ q1) (by simp only [List.size_toArray,List.length_append,List.length_take,List.length_drop,Array.length_toList];omega) (by rw [List.length_append,uW,hvl];omega) (fun k s hs=>by
     simp only [List.getElem?_toArray];rw [QlD rfl (by simp;omega)]
     by_cases hk:k<r.cells.length
     .grind
     .rw [List.getElem?_append_right (by omega)] at hs
      obtain ⟨v,p1,p2⟩:=hv.2 _ s hs;have jA:k-r.cells.length<news.length:=(List.getElem?_eq_some_iff.1 p1).1;rw [if_pos (by omega)]
      exact ⟨v,by rw [<- p1];congr 1;omega,p2⟩)
    (fun b hb=>setRow_other _ _ _ _ hb) (by simp) rfl rfl rfl
   refine hK _ _ _ _ rfl g1 (fun n fQ=>Nm.set_frame n fQ) ⟨_,cc,rfl,yW,.inl ⟨L,Nm.set_same _ _ _,.inl ⟨rfl,by simpa using YJ⟩⟩⟩ ?_;rw [Qh4];have:({ r with cells:=r.cells++l }:Row)=⟨true,ye.size,r.cells++l⟩:=by rw [<- jS,<- vW]
   rw [<- this];exact g2
  .obtain ⟨vs,g1,g2⟩:=Qg0 (P:=P) hc.drew hr0 hL 0 r.cells (fun j s e=>by simpa using e)
   refine fresh vs g1 ?_ (by omega);rw [uW] at g2;simp only [Builtin.firstCells,k3];exact g2
 .grind
 .grind
variable {P:Program} {o:Oper} {tv:Operand->TV} {n0:Nat}
theorem QuN {T:Tys} (hT:QaU P T) (t e:TypeId) (x y:Operand) (yt ye:Ty) (k1 k2:IntKind) (l c:Int) (ho:o.op= .makeSlice t x y) (hx:tv x= .a (.s (.int k1 l))) (hy:tv y= .a (.s (.int k2 c))) (vE:T t=some yt) (hk:yt.kind= .slice e) (wP:T e=some ye)
  (h0:0<=l) (h1:l<=c) (hb:ye.bytes*c<=140737488355328) (h63:c<=9223372036854775807) (cells:List SV) (gF:cells.length=l.toNat * ye.size) (hz:∀ (k:Nat) s,cells[k]?=some s->ye.zero[k%ye.size]?=some s) :
  SemOp P o tv n0 [] (. =⟨.a (.s (.sl n0 0 l.toNat)),[],[(n0,⟨true,ye.size,cells⟩)]⟩) :=
 SemOp.mk fun F ρ hp a w g1 _ _=>by
  have e1:a.eval x= .int k1 l:=QaW g1 (by rw [ho];simp [Op.operands]) hx;have e2:a.eval y= .int k2 c:=QaW g1 (by rw [ho];simp [Op.operands]) hy;have hu:=(hT t yt vE).sl hk;obtain ⟨_,ie,z,_,q2,q3,q4,_,q6,q7,q8⟩:=hT e ye wP;have hr:=run_make (P:=P) w t e ie z hu q2 q6 k1 k2 l c h0 h1 (by rw [q4];omega) h63;have VO:z.cells.size=ye.size:=by rw [<- q8,<- q7];simp
  refine ⟨.slice (some ⟨w.heap.size,0,none⟩) l.toNat c.toNat,madeCells z.cells (c.toNat * ie.size),e,w,?_,?_,?_,rfl,rfl,rfl,rfl,?_⟩
  rotate_left 3
  .unfold execOp;rw [ho]
   simp only [e1,e2,Sem.run_bind,hr,Result.andThen_ok];rfl
  .rw [size_madeCells,gF,q3];exact Nat.mul_le_mul_right _ (by omega)
  .intro k s hs
   have WI:k<cells.length:=(List.getElem?_eq_some_iff.1 hs).1;have uV:0<ye.size:=by grind
   have wV:=hz k s hs;obtain ⟨v,p1,p2⟩:=(QfW ρ z.cells.toList).2 _ s (by rw [q7];exact wV);refine ⟨v,?_,p2⟩
   have WH:k<c.toNat * ie.size:=by
    rw [q3];have:l.toNat * ye.size<=c.toNat * ye.size:=Nat.mul_le_mul_right _ (by omega);omega
   have p1':z.cells[k%ye.size]?=some v:=by simpa using p1
   unfold madeCells;rw [Array.getElem?_map,Array.getElem?_range,if_pos WH,Option.map_some,VO,getElem!_pos z.cells (k%ye.size) (by rw [VO];exact Nat.mod_lt _ uV)];rw [Array.getElem?_eq_getElem (by rw [VO];exact Nat.mod_lt _ uV)] at p1';exact p1'
  .intro ρ' _ hn
   refine ⟨_,_,rfl,by omega,.inl ⟨_,hn,.inl ⟨rfl,?_⟩⟩⟩;rw [size_madeCells,q3];simp
theorem Qhn {T:Tys} (hT:QaU P T) (t e:TypeId) (n:Nat) (parts:Array (Nat × Operand)) (yt ye:Ty) (ps:List (Nat × List SV)) (l:List SV) (ho:o.op= .buildSlice t n parts) (vE:T t=some yt) (hk:yt.kind= .slice e) (wP:T e=some ye) (vY:Qd4 tv parts.toList=some ps)
  (hn:Nat.ble (n*ye.size) 16777216=true) (hf:Qb0 (fun i=>some (i*ye.size,ye.size)) (List.replicate (n*ye.size) .unk) ps=some l) (hl:l.length=n*ye.size) :
  SemOp P o tv n0 [] (. =⟨.a (.s (.sl n0 0 n)),[],[(n0,⟨true,ye.size,l⟩)]⟩) :=
 SemOp.mk fun F ρ hp a w g1 _ _=>by
  have hv:=QmG (ρ:=ρ) (a:=a) _ _ vY (fun x hx=>g1 x (by rw [ho];simpa [Op.operands] using hx));have hu:=(hT t yt vE).sl hk;obtain ⟨_,_,z,_,q2,_,_,_,q6,_,_⟩:=hT e ye wP;have hn:=Nat.le_of_ble_eq_true hn
  have hgo:∀ zz:Array Value,∃ cs,Instr.fill (fun i=>some (i*ye.size,ye.size)) ((Array.range (n*ye.size)).map (zz[. %zz.size]!)) (parts.toList.map fun p=>(p.1,a.eval p.2))=some cs/\VSs ρ l cs.toList:=fun zz =>
   Qk7 _ ρ ps _ _ _ l hv ⟨by simp,fun k s hs=>by
    have hk:k<n*ye.size:=by have:=(List.getElem?_eq_some_iff.1 hs).1;simpa using this
    rw [List.getElem?_replicate,if_pos hk] at hs;injection hs with hs;subst hs
    exact ⟨_,List.getElem?_eq_getElem (by simpa using hk),trivial⟩⟩ hf
  obtain ⟨cs,f1,f2⟩:∃ cs,(Instr.buildSlice t n (parts.map fun (i,x)=>(i,a.eval x))).run P w= .ok (.slice (some ⟨w.heap.size,0,none⟩) n n) (w.alloc (.cells cs e))/\VSs ρ l cs.toList:=by
   by_cases h0:n*ye.size=0
   .obtain ⟨cs,f1,f2⟩:=hgo #[]
    refine ⟨cs,?_,f2⟩;have hp:(parts.map fun (i,x)=>(i,a.eval x)).toList=parts.toList.map fun p=>(p.1,a.eval p.2):=by simp
    rw [h0] at f1;simp [Instr.buildSlice,run_underlying hu,(hT e ye wP).sizeOf w,h0,newRow,-Array.toList_map];rw [hp];simp only [Array.range_zero',Array.map_empty] at f1 |-;rw [f1];simp
   .obtain ⟨cs,f1,f2⟩:=hgo z.cells
    refine ⟨cs,?_,f2⟩;have hp:(parts.map fun (i,x)=>(i,a.eval x)).toList=parts.toList.map fun p=>(p.1,a.eval p.2):=by simp
    have hz:(zeroValue e).run P w= .ok z w:=by simp [Go.zeroValue,typeInfo,q2,q6]
    have uG:¬ (16777216<n*ye.size):=by omega
    simp [Instr.buildSlice,run_underlying hu,(hT e ye wP).sizeOf w,h0,uG,hz,newRow,-Array.toList_map];rw [hp,f1];simp
  refine ⟨.slice (some ⟨w.heap.size,0,none⟩) n n,cs,e,w,?_,?_,?_,rfl,rfl,rfl,rfl,?_⟩
  rotate_left 3
  .unfold execOp;rw [ho]
   simp only [Sem.run_bind,f1,Result.andThen_ok];rfl
  .have:=f2.1;simp at this;omega
  .intro k s hs;obtain ⟨v,p1,p2⟩:=f2.2 k s hs;exact ⟨v,by simpa using p1,p2⟩
  .intro ρ' _ uG
   refine ⟨_,_,rfl,Nat.le_refl _,.inl ⟨_,uG,.inl ⟨rfl,?_⟩⟩⟩;have e9:cs.size=n*ye.size:=by rw [<- hl,f2.1,Array.length_toList]
   show 0+0+n*ye.size<=cs.size;omega
def QFt (tv:Operand->TV) (x:Operand) (es:Nat) (fp:List (Nat × Row)) (m q:Nat) (l:List SV):Prop :=
 (tv x= .a (.s .nilsl)/\fp= []/\m=0/\q=0/\l= []) \/
 (∃ j k r,tv x= .a (.s (.sl j k m))/\fp= [(j,r)]/\q<=m/\l.length=q*es/\Qat l=true/\∀ (p:Nat) s,l[p]?=some s->r.cells[k+p]?=some s) \/
 (∃ s,tv x= .a (.s (.str s))/\fp= []/\m=s.size/\q<=m/\l=(QcA s).take q/\es=1)
theorem Qca {l:List SV} (h:Qat l=true) (n:Nat):Qat (l.take n)=true:=by
 induction l generalizing n with
 | nil=>grind
 | cons a l ih =>
  cases n with
  | zero=>rfl
  | succ n=>grind [Qat]
theorem Qzv {F:Fr} {ρ:Nm} {hp:Hp} {w:World} {x:Operand} {es m q:Nat} {fp:List (Nat × Row)} {l:List SV} {v:Value} (hs:QFt tv x es fp m q l) (hv:VT ρ (tv x) v) (hc:Conc F ρ hp w) (hf:∀ p∈fp,hp p.1=some p.2) :
  ∃ news,VSs ρ l news/\(Builtin.lenOf v).run P w= .ok m w/\(Builtin.firstCells es q v).run P w= .ok news.toArray w/\l.length=q*es/\Qat l=true:=by
 rcases hs with ⟨h1,rfl,rfl,rfl,rfl⟩|⟨j,k,r,h1,rfl,hq,h2,h3,h4⟩|⟨s,h1,rfl,rfl,hq,rfl,rfl⟩
 .rw [h1] at hv
  have hv:v= .slice none 0 0:=hv;subst hv;exact ⟨[],⟨rfl,fun k s e=>by cases e⟩,rfl,rfl,by simp,rfl⟩
 .rw [h1] at hv
  obtain ⟨A,c,rfl,_,e3⟩:=hv
  have nil:m=0->∃ news,VSs ρ l news/\(Builtin.lenOf (.slice A m c)).run P w= .ok m w/\(Builtin.firstCells es q (.slice A m c)).run P w= .ok news.toArray w/\l.length=q*es/\Qat l=true:=by
   rintro rfl;obtain rfl:q=0:=by omega
   have:l= []:=by rw [Nat.zero_mul] at h2;exact List.eq_nil_of_length_eq_zero h2
   subst this;refine ⟨[],⟨rfl,fun k s e=>by cases e⟩,rfl,?_,by simp,rfl⟩;cases A<;>simp [Builtin.firstCells,loadCells,loadCellsFrom]
  rcases e3 with ⟨L,hL,⟨rfl,hb⟩|h6⟩|⟨h5,h6⟩
  .have hr:=hf (j,r) (by simp)
   obtain ⟨vs,g1,g2⟩:=Qg0 (P:=P) hc hr hL k l h4;exact ⟨vs,g1,rfl,by rw [h2] at g2;exact g2,h2,h3⟩
  .grind
  .grind
 .rw [h1] at hv
  have hv:v= .string s:=hv;subst hv;have YL:(QcA s).length=s.size:=by show (s.data.toList.map fun b=>SV.int .u8 b.toNat).length=s.data.size;rw [List.length_map,Array.length_toList]
  refine ⟨(byteCells s).take q,⟨by rw [List.length_take,List.length_take,YL,byteCells_length],fun k x e=>?_⟩,rfl,?_,by rw [List.length_take,YL];omega,Qca (Qfx _) q⟩
  .rw [List.getElem?_take] at e |-
   split at e
   .rename_i hkq
    rw [if_pos hkq];unfold QcA at e;unfold byteCells;rw [List.getElem?_map] at e |-
    cases e2:s.data.toList[k]? with
    | none=>grind
    | some b=>rw [e2] at e;injection e with e;subst e;exact ⟨_,rfl,rfl⟩
   .cases e
  .simp only [Builtin.firstCells,Sem.run_pure,byteCells]
   congr 1;apply Array.ext';simp
theorem QuJ {T:Tys} (hT:QaU P T) (c:Call) (t tx e:TypeId) (x y:Operand) (yt ye:Ty) (i k n m q:Nat) (r:Row) (fp:List (Nat × Row)) (l:List SV) (ho:o.op= .call c) (fF:c.callee= .builtin .copy) (qL:c.args= #[x,y]) (fM:c.argTypes= #[t,tx])
  (hx:tv x= .a (.s (.sl i k n))) (vE:T t=some yt) (hk:yt.kind= .slice e) (wP:T e=some ye)
  (hs:QFt tv y ye.size fp m q l) (hmn:q=min m n) (jS:r.own=true) (HX:k+l.length<=r.cells.length) :
  SemOp P o tv n0 ((i,r)::fp) (. =⟨.a (.s (.int .i64 q)),[(i,some { r with cells:=QaC r.cells k l })],[]⟩):=by
 intro F ρ hp a w Q K h1 hc hf jB hK;obtain ⟨A,cc,e1,_,e3⟩:=QaW h1 (by rw [ho];simp [Op.operands,Call.operands,qL,fF]) hx;have e2:=h1 y (by rw [ho];simp [Op.operands,Call.operands,qL,fF]);have hu:=(hT t yt vE).sl hk;obtain ⟨news,hv,qJ,ZQ,gF,wD⟩:=Qzv (P:=P) hs e2 hc (fun p hp=>hf p (List.mem_cons_of_mem _ hp));have hr0:=hf (i,r) (by simp);simp only [] at hr0;have hvl:l.length=news.length:=hv.1;have zQ:Nat.min m n=q:=hmn.symm;unfold Oper.wp
 have nothing:l= []->cc=0->o.upon P a K Q ((execOp a.eval o).run P w):=by
  rintro rfl h6;have hn0:n=0:=by omega
  have uG:news= []:=by simpa using hvl.symm
  subst uG
  have hr:(Builtin.copy_ c.argTypes o.type #[a.eval x,a.eval y]).run P w= .ok (.int .i64 q) w:=by
   rw [fM,e1];cases A<;>simp [Builtin.copy_,run_underlying hu,qJ,zQ,(hT e ye wP).sizeOf w,ZQ,storeCells,goInt]
  rw [Qbs c .copy x y a w w _ Builtin.copy_ ho fF qL (fun _ _ _ _=>rfl) hr,Oper.upon_value];refine hK _ ρ _ _ rfl (Ext.refl _) (fun _ _=>rfl) rfl ?_;rw [QoJ]
  have:Hp.set hp i (some { r with cells:=QaC r.cells k [] })=hp:=by
   funext z;unfold Hp.set;split
   .rename_i e;subst e;exact hr0.symm
   .rfl
  rw [this];exact hc
 rcases e3 with ⟨L,hL,⟨rfl,YJ⟩|h6⟩|⟨h5,h6⟩
 .obtain ⟨_,gK,cur,ct,_,q1,_,q3,q4⟩:=QhK hc hr0 hL
  have q3:=q3 jS;subst q3;have gN:=run_storeCells_at P L.b (L.δ+k) ct news 0 cur w q1 (by rw [<- hvl];omega) (hv.one wD);simp only [Nat.add_zero] at gN
  have hr:(Builtin.copy_ c.argTypes o.type #[a.eval x,a.eval y]).run P w= .ok (.int .i64 q) (w.setRow L.b (cur.toList.take (L.δ+k)++news++cur.toList.drop (L.δ+k+news.length)).toArray):=by
   rw [fM,e1];simp [Builtin.copy_,run_underlying hu,qJ,zQ,(hT e ye wP).sizeOf w,ZQ,gN,goInt]
  rw [Qbs c .copy x y a w _ _ Builtin.copy_ ho fF qL (fun _ _ _ _=>rfl) hr,Oper.upon_value];refine hK _ ρ _ _ rfl (Ext.refl _) (fun _ _=>rfl) rfl ?_;rw [QoJ];refine hc.write hr0 jS hL (c':=_) (t:=ct) (QaC r.cells k l) (setRow_heap w L.b cur _ ct _ q1) (by simp only [List.size_toArray,List.length_append,List.length_take,List.length_drop,<- hvl,Array.length_toList];omega) (by simp only [Qbz];exact gK) (fun j s hs=>?_) (fun b hb=>setRow_other _ _ _ _ hb) (by simp) rfl rfl rfl;rw [Qbj _ _ _ _ HX] at hs;simp only [List.getElem?_toArray];rw [QlD rfl (by simp;omega)];split at hs
  .rename_i hj
   rw [if_pos (by omega),show L.δ+j-(L.δ+k)=j-k by omega];exact hv.2 _ _ hs
  .rename_i hj
   rw [if_neg (by omega)];obtain ⟨v,h5,h6⟩:=q4 j s hs;exact ⟨v,by simpa using h5,h6⟩
 .exact nothing (List.eq_nil_of_length_eq_zero (by rw [gF,show q=0 by omega,Nat.zero_mul])) h6
 .exact nothing (List.eq_nil_of_length_eq_zero (by rw [gF,show q=0 by omega,Nat.zero_mul])) h6
def Qd8:List SV->Option (List Int)
 | []=>some []
 | .int .u8 n::l=>match Qd8 l with
  | some r=>some (n::r)
  | none=>none
 | _::_=>none
theorem Qkj {ρ:Nm}:∀ {l:List SV} {xs:List Int} {vs:List Value},Qd8 l=some xs->VSs ρ l vs->vs=xs.map (Value.int .u8)
 | [],xs,vs,h,hv=>by grind [List.eq_nil_of_length_eq_zero,Qd8,VSs]
 | s::l,xs,vs,h,hv=>by
  unfold Qd8 at h;split at h
  .grind
  .rename_i n l' e
   injection e with e1 e2;subst e1 e2
   split at h
   .rename_i r hr
    injection h with h;subst h
    cases vs with
    | nil=>have:=hv.1;simp at this
    | cons v vs =>
     obtain ⟨_,h1,h2⟩:=hv.2 0 _ rfl;injection h1 with h1;subst h1
     have h2:v= .int .u8 n:=h2;rw [h2,Qkj (vs:=vs) hr ⟨by have:=hv.1;simpa using this,fun k s hs=>hv.2 (k+1) s hs⟩];rfl
   .cases h
  .cases h
theorem QrR {T:Tys} (hT:QaU P T) (s d e:TypeId) (x:Operand) (ys yd ye:Ty) (i k n:Nat) (r:Row) (l:List SV) (xs:List Int) (ho:o.op= .convert s d x) (hx:tv x= .a (.s (.sl i k n))) (hs:T s=some ys) (hks:ys.kind= .slice e) (he:T e=some ye) (hke:ye.kind= .int .u8)
  (hd:T d=some yd) (hkd:yd.kind= .str) (hl:l.length=n) (hr:∀ (j:Nat) s,l[j]?=some s->r.cells[k+j]?=some s) (hn:Qd8 l=some xs):SemOp P o tv n0 [(i,r)] (. =⟨.a (.s (.str (strOfNums xs))),[],[]⟩) :=
 SemOp.read fun F ρ hp a w h1 hc hf=>by
  obtain ⟨A,c,e1,_,h2⟩:=QaW h1 (by rw [ho];simp [Op.operands]) hx;have u1:=(hT s ys hs).sl hks;have u2:=(hT e ye he).int hke;have u3:=(hT d yd hd).str hkd;have hr0:=hf (i,r) (by simp);refine ⟨.string (strOfNums xs),rfl,?_⟩;unfold execOp;rw [ho];simp only [e1]
  have main:∀ A':Addr,(loadCells A' n).run P w= .ok (xs.map (Value.int .u8)).toArray w->(convert s d (.slice (some A') n c)).run P w= .ok (.string (strOfNums xs)) w:=fun A' hl=>by
   rw [run_convert_bytes_string w s d e _ n c u1 u2 u3,run_bytesToString w A' n c xs hl,foldl_push_bytes];simp [strOfNums,ByteArray.empty,ByteArray.emptyWithCapacity];rfl
  have zero:n=0->(convert s d (.slice A n c)).run P w= .ok (.string (strOfNums xs)) w:=fun h0=>by
   have WJ:l= []:=List.eq_nil_of_length_eq_zero (by omega);subst WJ;have VL:xs= []:=by simpa [Qd8] using hn.symm
   subst VL
   cases A with
   | none=>rw [run_convert_bytes_nil w s e u1 u2 n c d u3];rfl
   | some A'=>exact main A' (by rw [h0];simp [loadCells,loadCellsFrom])
  have hgoal:(convert s d (.slice A n c)).run P w= .ok (.string (strOfNums xs)) w:=by
   rcases h2 with ⟨L,hL,⟨rfl,h3⟩|h3⟩|⟨_,h3⟩
   .obtain ⟨_,g1,g2⟩:=Qg0 (P:=P) hc hr0 hL k l hr
    have:=Qkj hn g1;subst this;rw [hl] at g2;exact main _ g2
   .grind
   .grind
  simp only [Sem.run_bind,hgoal,Result.andThen_ok];rfl
theorem QnX {T:Tys} (hT:QaU P T) (s d e:TypeId) (x:Operand) (ys yd ye:Ty) (ho:o.op= .convert s d x) (hx:tv x= .a (.s .nilsl)) (hs:T s=some ys) (hks:ys.kind= .slice e) (he:T e=some ye) (hke:ye.kind= .int .u8)
  (hd:T d=some yd) (hkd:yd.kind= .str):SemOp P o tv n0 [] (. =⟨.a (.s (.str ByteArray.empty)),[],[]⟩) :=
 SemOp.read fun F ρ hp a w h1 hc hf=>by
  have e1:a.eval x= .slice none 0 0:=QaW h1 (by rw [ho];simp [Op.operands]) hx;refine ⟨.string ByteArray.empty,rfl,?_⟩;unfold execOp;rw [ho];simp only [e1,Sem.run_bind,run_convert_bytes_nil w s e ((hT s ys hs).sl hks) ((hT e ye he).int hke) 0 0 d ((hT d yd hd).str hkd),Result.andThen_ok];rfl
abbrev SV.i (x:Int):SV:= .int .i64 x
abbrev SV.u (x:Int):SV:= .int .u32 x
abbrev SV.w (x:Int):SV:= .int .u64 x
end Go.Proofs.YtpgkkfajljekpabGreat
