import Derived.Test.YtflelebfmdggkaaGreatP2
import Derived.Below
import Derived.Test.YtflelebfmdggkaaGreatProg
import Derived.KernelRfl
set_option linter.unusedSimpArgs false
set_option linter.unusedVariables false
set_option maxHeartbeats 100000000
set_option maxRecDepth 100000
namespace Go.Proofs.YtflelebfmdggkaaGreat
open Go Go.RowKit
def QIe (w:World) (v:Value) (len:Nat) (cells:List SV):Prop :=
 ∃ p:PL,∀ (ρ:Nm) (n:Nat),ρ n=some p→RowOk ρ w n ⟨false,1,cells⟩∧VS ρ (.sl n 0 len) v
def isv (k:IntKind) (ls:List Int):List SV:=ls.map fun x=>SV.int k x
theorem lrow_ints {k:IntKind} {w:World} {a:Option Addr} {len cap:Nat} {zs:List Int} (h:RowIn k w a len cap zs):∃ ls:List Int,ls.length=len∧(∀ n∈ls,(Lit.int k n).wf=true)∧QIe w (.slice a len cap) len (isv k ls):=by
 obtain ⟨h1,h2,h3⟩:=h.rd;refine ⟨zs.take len,h1,h3,?_⟩;rcases h with ⟨rfl,rfl,rfl,rfl⟩|⟨x,rfl,hl,_,hz,hc,hw⟩
 ·refine ⟨.empty,fun ρ n hn=>⟨?_,none,0,rfl,Nat.le_refl _,.inr ⟨hn,rfl⟩⟩⟩
  unfold RowOk;rw [hn];rfl
 ·by_cases h0:cap=0
  ·refine ⟨.empty,fun ρ n hn=>⟨?_,some x,cap,rfl,hl,.inr ⟨hn,h0⟩⟩⟩
   unfold RowOk;rw [hn];have:len=0:=by omega
   subst this;simp [isv]
  ·have fD:=hc 0 (by omega)
   obtain ⟨b,off,spot⟩:=x;have hs:spot=none:=by simpa [Addr.add] using World.cell?_spot fD
   subst hs;have hadd:∀ j,(⟨b,off,none⟩:Addr).add j=⟨b,off+j,none⟩:=fun j=>by by_cases h:j=0<;>simp [Addr.add,h]
   obtain ⟨c,t,fz,hb⟩:∃ c t fz,w.heap[b]?=some (.cells c t fz):=by
    rw [hadd] at fD;unfold World.cell? at fD;simp only [] at fD;split at fD
    ·rename_i c t fz e;exact ⟨c,t,fz,e⟩
    ·cases fD
   have hcell:∀ i,i<cap→c[off+i]?=some (.int k (zs.getD i 0)):=fun i hi=>by
    have:=hc i (by omega);rw [hadd] at this;simpa [World.cell?,hb] using this
   have fZ:off+cap≤c.size:=by
    have:=hcell (cap-1) (by omega);have:=(Array.getElem?_eq_some_iff.1 this).1;omega
   refine ⟨.at ⟨b,off,c.size,1⟩,fun ρ n hn=>⟨?_,some ⟨b,off,none⟩,cap,rfl,hl,.inl ⟨_,hn,.inl ⟨by simp,by simp only [];omega⟩⟩⟩⟩;unfold RowOk;rw [hn];refine ⟨rfl,by simp [isv];omega,c,t,fz,hb,rfl,fun h=>(by cases h),fun i s hs=>?_⟩;unfold isv at hs;rw [List.getElem?_map,List.getElem?_take] at hs;split at hs
   ·rename_i hi
    rw [List.getElem?_eq_getElem (by omega)] at hs;injection hs with hs;subst hs
    refine ⟨_,hcell i (by omega),?_⟩;show Value.int k _= .int k _;rw [List.getD_eq_getElem?_getD,List.getElem?_eq_getElem (by omega)];rfl
   ·cases hs
def QwA (w:World):List (Value × Nat × List SV)→List PL→Prop
 | [],[]=>True
 | q::l,p::ps=>(∀ (ρ:Nm) (n:Nat),ρ n=some p→RowOk ρ w n ⟨false,1,q.2.2⟩∧VS ρ (.sl n 0 q.2.1) q.1)∧QwA w l ps
 | _,_=>False
theorem QlT {w:World}:∀ {l:List (Value × Nat × List SV)} {ps:List PL},QwA w l ps→l.length=ps.length∧∀ (i:Nat) q p,l[i]?=some q→ps[i]?=some p→∀ (ρ:Nm) (n:Nat),ρ n=some p→RowOk ρ w n ⟨false,1,q.2.2⟩∧VS ρ (.sl n 0 q.2.1) q.1
 | [],[],_=>⟨rfl,fun i q p h=>by simp at h⟩
 | q::l,p::ps,h=>by
  obtain ⟨h1,h2⟩:=QlT h.2;refine ⟨by simp [h1],fun i q' p' hq hp=>?_⟩
  cases i with
  | zero=>injection hq with hq;injection hp with hp;subst hq hp;exact h.1
  | succ i=>exact h2 i q' p' hq hp
 | [],_::_,h=>h.elim
 | _::_,[],h=>h.elim
theorem vas_nil (ρ:Nm):VAs ρ [] []:=⟨rfl,fun k s h=>by simp at h⟩
theorem vas_cons {ρ:Nm} {a:AV} {v:Value} {l:List AV} {vs:List Value} (h:VA ρ a v) (hl:VAs ρ l vs):VAs ρ (a::l) (v::vs) :=
 ⟨by simp [hl.1],fun k s hs=>by
  cases k with
  | zero=>injection hs with hs;subst hs;exact ⟨v,rfl,h⟩
  | succ k=>exact hl.2 k s hs⟩
theorem law_of_fn {P:Program} {f:FuncId} {args:List AV} {H:List Row} {vs:Array Value} {w:World} (q:List (Value × Nat × List SV)) (hq:∀ x∈q,QIe w x.1 x.2.1 x.2.2) (hH:H=q.map fun x=>⟨false,1,x.2.2⟩) (hF:Fn P f args H (· =⟨.a (.s (.bool true)),[],[]⟩))
  (ha:∀ ρ:Nm,(∀ (i:Nat) x,q[i]?=some x→VS ρ (.sl i 0 x.2.1) x.1)→VAs ρ args vs.toList):Calls P f vs w fun e w'=>e= .returned (.bool true)∧Below w.heap.size w w':=by
 obtain ⟨ps,wO⟩:∃ ps:List PL,QwA w q ps:=by
  clear hH ha
  induction q with
  | nil=>exact ⟨[],trivial⟩
  | cons x q ih =>
   obtain ⟨ps,h⟩:=ih fun y hy=>hq y (by simp [hy])
   obtain ⟨p,hp⟩:=hq x (by simp);exact ⟨p::ps,hp,h⟩
 obtain ⟨gG,KD⟩:=QlT wO;have hHl:H.length=ps.length:=by rw [hH];simp [gG]
 have qL:∀ (i:Nat) r,H[i]?=some r→∃ x p,q[i]?=some x∧ps[i]?=some p∧r=⟨false,1,x.2.2⟩:=fun i r hr=>by
  rw [hH,List.getElem?_map] at hr
  cases e:q[i]? with
  | none=>rw [e] at hr;cases hr
  | some x =>
   rw [e] at hr;injection hr with hr
   have hi:i<ps.length:=by rw [← gG];exact (List.getElem?_eq_some_iff.1 e).1
   exact ⟨x,ps[i],rfl,List.getElem?_eq_getElem hi,hr.symm⟩
 have jR:∀ (i:Nat) r,H[i]?=some r→r.own=false:=fun i r hr=>by obtain ⟨x,p,_,_,rfl⟩:=qL i r hr;rfl
 refine (hF.2 ⟨fun n=>ps[n]?,fun _ _=>False⟩ w vs (fun n hn=>List.getElem?_eq_none (by omega)) (ha _ fun i x hx=>?_) ⟨fun n r hn=>?_,fun n r m s Ln Lm h1 h2=>?_,fun n r L h1 h2=>?_,rfl,rfl,rfl,Nat.le_refl _,fun _ _ _=>rfl,fun _ _ h=>h.elim⟩).mono fun e w' he=>?_
 ·have hi:i<ps.length:=by rw [← gG];exact (List.getElem?_eq_some_iff.1 hx).1
  exact (KD i x ps[i] hx (List.getElem?_eq_getElem hi) _ i (List.getElem?_eq_getElem hi)).2
 ·obtain ⟨x,p,h1,h2,rfl⟩:=qL n r hn
  exact (KD n x p h1 h2 _ n h2).1
 ·rw [jR n r h1] at h2;cases h2
 ·rw [jR n r h1] at h2;cases h2
 ·obtain ⟨_,v,_,rfl,rfl,_,_,hv,hc,_⟩:=he
  have hv:v= .bool true:=hv;refine ⟨by rw [hv],hc.os,hc.tape,hc.output,hc.size,fun b hb=>hc.block b hb ?_⟩;rintro ⟨n,r,L,h1,h2,_⟩;rw [jR n r h1] at h2;cases h2
end Go.Proofs.YtflelebfmdggkaaGreat
namespace Go.Proofs.YtflelebfmdggkaaGreat
open Go
def ty2:Ty:=⟨1,8,[.int .i64 0],.int .i64⟩
abbrev ty3:Ty:=ty2
def ty4:Ty:=⟨1,1,[.bool false],.bool⟩
def ty5:Ty:=⟨1,1,[.int .u8 0],.int .u8⟩
abbrev ty6:Ty:=ty5
def ty7:Ty:=⟨4,24,[.int .i64 0,.int .i64 0,.bool false,.int .u8 0],.struct [(0,2),(1,3),(2,4),(3,6)]⟩
abbrev ty8:Ty:=ty7
def ty9:Ty:=⟨1,16,[.str { data:= #[] }],.str⟩
abbrev QJZ:Ty:=ty9
abbrev QJz:Ty:=ty9
def ty12:Ty:=⟨1,8,[.int .u64 0],.int .u64⟩
def ty13:Ty:=⟨2,24,[.str { data:= #[] },.int .u64 0],.struct [(0,9),(1,12)]⟩
abbrev QIL:Ty:=ty13
def ty15:Ty:=⟨1,8,[.nil],.ptr 331⟩
def ty16:Ty:=⟨1,8,[.nil],.ptr 334⟩
def ty17:Ty:=⟨1,8,[.nil],.ptr 341⟩
def ty18:Ty:=⟨1,8,[.nil],.struct [(0,17)]⟩
abbrev QKd:Ty:=ty18
def ty21:Ty:=⟨1,4,[.int .i32 0],.int .i32⟩
def ty22:Ty:=⟨1,24,[.nilsl],.slice 3⟩
def ty24:Ty:=⟨1,4,[.int .u32 0],.int .u32⟩
def ty25:Ty:=⟨16,64,[.int .u32 0,.int .u32 0,.int .u32 0,.int .u32 0,.int .u32 0,.int .u32 0,.int .u32 0,.int .u32 0,.int .u32 0,.int .u32 0,.int .u32 0,.int .u32 0,.int .u32 0,.int .u32 0,.int .u32 0,.int .u32 0],.array 16 24⟩
def ty26:Ty:=⟨8,32,[.int .u32 0,.int .u32 0,.int .u32 0,.int .u32 0,.int .u32 0,.int .u32 0,.int .u32 0,.int .u32 0],.array 8 24⟩
def ty27:Ty:=⟨25,100,[.int .u32 0,.int .u32 0,.int .u32 0,.int .u32 0,.int .u32 0,.int .u32 0,.int .u32 0,.int .u32 0,.int .u32 0,.int .u32 0,.int .u32 0,.int .u32 0,.int .u32 0,.int .u32 0,.int .u32 0,.int .u32 0,.int .u32 0,.int .u32 0,.int .u32 0,.int .u32 0,.int .u32 0,.int .u32 0,.int .u32 0,.int .u32 0,.int .u32 0],.struct [(0,25),(16,24),(17,26)]⟩
abbrev QJM:Ty:=ty27
def ty29:Ty:=⟨1,24,[.nilsl],.slice 24⟩
def ty30:Ty:=⟨1,16,[.str { data:= #[] }],.struct [(0,9)]⟩
abbrev QJb:Ty:=ty30
def ty32:Ty:=⟨3,12,[.bool false,.int .u32 0,.bool false],.struct [(0,4),(1,24),(2,4)]⟩
abbrev QJl:Ty:=ty32
def ty34:Ty:=⟨8,56,[.int .u32 0,.int .u32 0,.int .u32 0,.int .i64 0,.int .i64 0,.int .u32 0,.int .u32 0,.str { data:= #[] }],.struct [(0,24),(1,24),(2,24),(3,3),(4,3),(5,24),(6,24),(7,9)]⟩
abbrev QI5:Ty:=ty34
def ty36:Ty:=⟨6,24,[.int .u32 0,.int .u32 0,.bool false,.int .u32 0,.bool false,.int .u32 0],.struct [(0,24),(1,24),(2,4),(3,24),(4,4),(5,24)]⟩
abbrev QJH:Ty:=ty36
def ty38:Ty:=⟨2,8,[.int .u32 0,.int .u32 0],.struct [(0,24),(1,24)]⟩
abbrev QJI:Ty:=ty38
abbrev QI6:Ty:=ty12
def ty41:Ty:=⟨49,264,[.int .u32 0,.int .u32 0,.int .u32 0,.int .u32 0,.int .u32 0,.int .u32 0,.int .u32 0,.int .u32 0,.int .u32 0,.int .u32 0,.int .u32 0,.int .u32 0,.int .u32 0,.int .u32 0,.int .u32 0,.int .u32 0,.int .u32 0,.int .u32 0,.int .u32 0,.int .u32 0,.int .u32 0,.int .u32 0,.int .u32 0,.int .u32 0,.int .u32 0,.nilsl,.str { data:= #[] },.bool false,.int .u32 0,.bool false,.int .u32 0,.int .u32 0,.int .u32 0,.int .i64 0,.int .i64 0,.int .u32 0,.int .u32 0,.str { data:= #[] },.int .u32 0,.int .u32 0,.bool false,.int .u32 0,.bool false,.int .u32 0,.int .u32 0,.int .u32 0,.int .u64 0,.bool false,.bool false],.struct [(0,28),(25,29),(26,31),(27,33),(30,35),(38,37),(44,39),(46,40),(47,4),(48,4)]⟩
abbrev QJe:Ty:=ty41
def ty44:Ty:=⟨1,24,[.nilsl],.slice 112⟩
def ty45:Ty:=⟨1,24,[.nilsl],.slice 116⟩
def ty46:Ty:=⟨51,312,[.int .u32 0,.int .u32 0,.int .u32 0,.int .u32 0,.int .u32 0,.int .u32 0,.int .u32 0,.int .u32 0,.int .u32 0,.int .u32 0,.int .u32 0,.int .u32 0,.int .u32 0,.int .u32 0,.int .u32 0,.int .u32 0,.int .u32 0,.int .u32 0,.int .u32 0,.int .u32 0,.int .u32 0,.int .u32 0,.int .u32 0,.int .u32 0,.int .u32 0,.nilsl,.str { data:= #[] },.bool false,.int .u32 0,.bool false,.int .u32 0,.int .u32 0,.int .u32 0,.int .i64 0,.int .i64 0,.int .u32 0,.int .u32 0,.str { data:= #[] },.int .u32 0,.int .u32 0,.bool false,.int .u32 0,.bool false,.int .u32 0,.int .u32 0,.int .u32 0,.int .u64 0,.bool false,.bool false,.nilsl,.nilsl],.struct [(0,42),(49,44),(50,45)]⟩
abbrev QIV:Ty:=ty46
def ty49:Ty:=⟨1,24,[.nilsl],.slice 80⟩
abbrev QI3:Ty:=ty2
def ty59:Ty:=⟨2,16,[.int .i64 0,.int .i64 0],.struct [(0,58),(1,3)]⟩
abbrev QJ6:Ty:=ty59
def ty70:Ty:=⟨1,8,[.nil],.ptr 72⟩
def ty71:Ty:=⟨54,352,[.int .u32 0,.int .u32 0,.int .u32 0,.int .u32 0,.int .u32 0,.int .u32 0,.int .u32 0,.int .u32 0,.int .u32 0,.int .u32 0,.int .u32 0,.int .u32 0,.int .u32 0,.int .u32 0,.int .u32 0,.int .u32 0,.int .u32 0,.int .u32 0,.int .u32 0,.int .u32 0,.int .u32 0,.int .u32 0,.int .u32 0,.int .u32 0,.int .u32 0,.nilsl,.str { data:= #[] },.bool false,.int .u32 0,.bool false,.int .u32 0,.int .u32 0,.int .u32 0,.int .i64 0,.int .i64 0,.int .u32 0,.int .u32 0,.str { data:= #[] },.int .u32 0,.int .u32 0,.bool false,.int .u32 0,.bool false,.int .u32 0,.int .u32 0,.int .u32 0,.int .u64 0,.bool false,.bool false,.nilsl,.nilsl,.nilsl,.int .i64 0,.bool false],.struct [(0,47),(51,49),(52,3),(53,4)]⟩
abbrev QJf:Ty:=ty71
def ty77:Ty:=⟨1,8,[.nil],.ptr 42⟩
def ty79:Ty:=⟨4,40,[.int .i64 0,.int .u64 0,.int .u32 0,.str { data:= #[] }],.struct [(0,3),(1,40),(2,24),(3,9)]⟩
abbrev ty80:Ty:=ty79
def ty81:Ty:=⟨1,24,[.nilsl],.slice 134⟩
def ty82:Ty:=⟨1,24,[.nilsl],.slice 87⟩
def ty85:Ty:=⟨1,24,[.nilsl],.slice 89⟩
def ty86:Ty:=⟨6,72,[.str { data:= #[] },.int .i64 0,.nilsl,.int .i64 0,.int .i64 0,.int .i64 0],.struct [(0,9),(1,3),(2,85),(3,3),(4,3),(5,3)]⟩
abbrev QJx:Ty:=ty86
def ty88:Ty:=⟨3,32,[.int .i64 0,.int .i64 0,.str { data:= #[] }],.struct [(0,3),(1,2),(2,9)]⟩
abbrev QJT:Ty:=ty88
abbrev QJj:Ty:=ty12
def ty94:Ty:=⟨5,40,[.int .i64 0,.int .i64 0,.int .i64 0,.int .i64 0,.int .i32 0],.struct [(0,3),(1,3),(2,3),(3,3),(4,21)]⟩
abbrev QJR:Ty:=ty94
def ty102:Ty:=⟨1,24,[.nilsl],.slice 107⟩
def ty104:Ty:=⟨3,32,[.int .i64 0,.int .u32 0,.str { data:= #[] }],.struct [(0,3),(1,24),(2,9)]⟩
abbrev QGQ:Ty:=ty104
def ty106:Ty:=⟨4,40,[.int .u64 0,.int .i64 0,.int .u32 0,.str { data:= #[] }],.struct [(0,40),(1,105)]⟩
abbrev QFs:Ty:=ty106
def ty111:Ty:=⟨4,12,[.int .u32 0,.int .u32 0,.bool false,.bool false],.struct [(0,24),(1,24),(2,4),(3,4)]⟩
abbrev ty112:Ty:=ty111
def ty114:Ty:=⟨1,24,[.nilsl],.slice 119⟩
def ty115:Ty:=⟨3,40,[.int .u32 0,.int .i64 0,.nilsl],.struct [(0,24),(1,3),(2,114)]⟩
abbrev ty116:Ty:=ty115
def ty118:Ty:=⟨6,48,[.int .i64 0,.int .i64 0,.int .i64 0,.int .i64 0,.int .u32 0,.int .i64 0],.struct [(0,3),(1,3),(2,3),(3,3),(4,24),(5,3)]⟩
abbrev ty119:Ty:=ty118
def ty122:Ty:=⟨4,32,[.int .i64 0,.int .i64 0,.int .i64 0,.int .u32 0],.struct [(0,3),(1,3),(2,3),(3,24)]⟩
abbrev QFY:Ty:=ty122
def ty129:Ty:=⟨1,24,[.nilsl],.slice 9⟩
def ty133:Ty:=⟨2,24,[.str { data:= #[] },.int .u32 0],.struct [(0,9),(1,24)]⟩
abbrev QGb:Ty:=ty133
def ty139:Ty:=⟨1,8,[.nil],.ptr 26⟩
def ty184:Ty:=⟨1,24,[.nilsl],.slice 5⟩
def ty191:Ty:=⟨1,24,[.nilsl],.slice 195⟩
def ty194:Ty:=⟨3,32,[.int .i64 0,.str { data:= #[] },.bool false],.struct [(0,3),(1,9),(2,4)]⟩
abbrev QFQ:Ty:=ty194
def ty202:Ty:=⟨16,16,[.bool false,.bool false,.bool false,.bool false,.bool false,.bool false,.bool false,.bool false,.bool false,.bool false,.bool false,.bool false,.bool false,.bool false,.bool false,.bool false],.array 16 4⟩
def ty203:Ty:=⟨32,80,[.bool false,.bool false,.bool false,.bool false,.bool false,.bool false,.bool false,.bool false,.bool false,.bool false,.bool false,.bool false,.bool false,.bool false,.bool false,.bool false,.int .u32 0,.int .u32 0,.int .u32 0,.int .u32 0,.int .u32 0,.int .u32 0,.int .u32 0,.int .u32 0,.int .u32 0,.int .u32 0,.int .u32 0,.int .u32 0,.int .u32 0,.int .u32 0,.int .u32 0,.int .u32 0],.struct [(0,202),(16,25)]⟩
abbrev QF0:Ty:=ty203
def ty216:Ty:=⟨1,2,[.int .i16 0],.int .i16⟩
def ty222:Ty:=⟨5,5,[.bool false,.bool false,.bool false,.bool false,.bool false],.array 5 4⟩
def ty225:Ty:=⟨3,16,[.int .u32 0,.int .u32 0,.int .i64 0],.struct [(0,24),(1,24),(2,3)]⟩
abbrev QFm:Ty:=ty225
def ty235:Ty:=⟨1,8,[.nil],.ptr 28⟩
def ty262:Ty:=⟨5,12,[.bool false,.bool false,.bool false,.int .i32 0,.int .i32 0],.struct [(0,4),(1,4),(2,4),(3,21),(4,21)]⟩
abbrev QHN:Ty:=ty262
def ty278:Ty:=⟨2,48,[.nilsl,.nilsl],.struct [(0,29),(1,45)]⟩
abbrev QGn:Ty:=ty278
def ty284:Ty:=⟨1,1,[.int .i8 0],.int .i8⟩
def ty285:Ty:=⟨1,8,[.nil],.ptr 24⟩
def ty297:Ty:=⟨2,48,[.nilsl,.nilsl],.struct [(0,22),(1,45)]⟩
abbrev QGc:Ty:=ty297
def ty302:Ty:=⟨1,8,[.nil],.ptr 279⟩
def ty309:Ty:=⟨1,8,[.nil],.ptr 298⟩
def ty314:Ty:=⟨1,8,[.nil],.ptr 316⟩
def ty315:Ty:=⟨2,32,[.nil,.nilsl],.struct [(0,314),(1,184)]⟩
abbrev QHw:Ty:=ty315
def ty326:Ty:=⟨1,8,[.nil],.ptr 5⟩
def ty330:Ty:=⟨4,40,[.nil,.nil,.nil,.str { data:= #[] }],.struct [(0,17),(1,17),(2,17),(3,9)]⟩
abbrev QFk:Ty:=ty330
def ty332:Ty:=⟨0,0,[],.array 0 16⟩
def ty333:Ty:=⟨0,0,[],.struct [(0,332)]⟩
abbrev QHE:Ty:=ty333
abbrev QFl:Ty:=ty5
abbrev QG3:Ty:=ty5
abbrev QHn:Ty:=ty21
abbrev QGx:Ty:=ty21
theorem zty {t:TypeId} {d:TypeDesc} (i:TypeInfo) {y:Ty} {z:Value} (h1:Tryz.prog.underlying t=some d) (h2:Tryz.prog.info? t=some i:=by kernel_rfl) (h3:i.size=y.size:=by exact rfl) (h4:i.bytes=y.bytes:=by exact rfl) (h5:QgA d y.kind:=by first|exact rfl|exact trivial|exact ⟨rfl,rfl⟩) (h6:i.zero=some z:=by exact rfl) (h7:z.cells.toList.map Qmw=y.zero:=by exact rfl) (h8:y.zero.length=y.size:=by exact rfl):TyOk Tryz.prog t y:=⟨d,i,z,h1,h2,h3,h4,h5,h6,h7,h8⟩
inductive Tr
 | l
 | n (k:Nat) (y:Ty) (a b:Tr)
noncomputable def Tr.get (t:Tr) (k:Nat):Option Ty:=Tr.rec none (fun i y _ _ p q=>match Nat.beq k i with|true=>some y|false=>match Nat.blt k i with|true=>p|false=>q) t
def Tr.ok:Tr→Prop
 | .l=>True
 | .n k y a b=>TyOk Tryz.prog k y∧a.ok∧b.ok
theorem QoQ:∀ {t:Tr} {k:Nat} {y:Ty},t.ok→t.get k=some y→TyOk Tryz.prog k y
 | .l,_,_,_,h=>by cases h
 | .n i z a b,k,y,⟨h1,h2,h3⟩,h=>by
  change (match Nat.beq k i with|true=>some z|false=>match Nat.blt k i with|true=>a.get k|false=>b.get k)=some y at h;split at h
  ·rename_i e
   injection h with h
   subst h;rw [Nat.eq_of_beq_eq_true e];exact h1
  split at h
  ·exact QoQ h2 h
  ·exact QoQ h3 h
def tr:Tr:= .n 88 ty88 (.n 33 QJl (.n 16 ty16 (.n 9 ty9 (.n 5 ty5 (.n 3 ty3 (.n 2 ty2 .l .l) (.n 4 ty4 .l .l)) (.n 7 ty7 (.n 6 ty6 .l .l) (.n 8 ty8 .l .l))) (.n 13 ty13 (.n 11 QJz (.n 10 QJZ .l .l) (.n 12 ty12 .l .l)) (.n 15 ty15 (.n 14 QIL .l .l) .l))) (.n 26 ty26 (.n 21 ty21 (.n 18 ty18 (.n 17 ty17 .l .l) (.n 19 QKd .l .l)) (.n 24 ty24 (.n 22 ty22 .l .l) (.n 25 ty25 .l .l))) (.n 30 ty30 (.n 28 QJM (.n 27 ty27 .l .l) (.n 29 ty29 .l .l)) (.n 32 ty32 (.n 31 QJb .l .l) .l)))) (.n 58 QI3 (.n 41 ty41 (.n 37 QJH (.n 35 QI5 (.n 34 ty34 .l .l) (.n 36 ty36 .l .l)) (.n 39 QJI (.n 38 ty38 .l .l) (.n 40 QI6 .l .l))) (.n 46 ty46 (.n 44 ty44 (.n 42 QJe .l .l) (.n 45 ty45 .l .l)) (.n 49 ty49 (.n 47 QIV .l .l) .l))) (.n 79 ty79 (.n 71 ty71 (.n 60 QJ6 (.n 59 ty59 .l .l) (.n 70 ty70 .l .l)) (.n 77 ty77 (.n 72 QJf .l .l) .l)) (.n 85 ty85 (.n 81 ty81 (.n 80 ty80 .l .l) (.n 82 ty82 .l .l)) (.n 87 QJx (.n 86 ty86 .l .l) .l))))) (.n 204 QF0 (.n 118 ty118 (.n 106 ty106 (.n 95 QJR (.n 93 QJj (.n 89 QJT .l .l) (.n 94 ty94 .l .l)) (.n 104 ty104 (.n 102 ty102 .l .l) (.n 105 QGQ .l .l))) (.n 114 ty114 (.n 111 ty111 (.n 107 QFs .l .l) (.n 112 ty112 .l .l)) (.n 116 ty116 (.n 115 ty115 .l .l) .l))) (.n 139 ty139 (.n 129 ty129 (.n 122 ty122 (.n 119 ty119 .l .l) (.n 123 QFY .l .l)) (.n 134 QGb (.n 133 ty133 .l .l) .l)) (.n 195 QFQ (.n 191 ty191 (.n 184 ty184 .l .l) (.n 194 ty194 .l .l)) (.n 203 ty203 (.n 202 ty202 .l .l) .l)))) (.n 309 ty309 (.n 278 ty278 (.n 226 QFm (.n 222 ty222 (.n 216 ty216 .l .l) (.n 225 ty225 .l .l)) (.n 262 ty262 (.n 235 ty235 .l .l) (.n 263 QHN .l .l))) (.n 297 ty297 (.n 284 ty284 (.n 279 QGn .l .l) (.n 285 ty285 .l .l)) (.n 302 ty302 (.n 298 QGc .l .l) .l))) (.n 332 ty332 (.n 326 ty326 (.n 315 ty315 (.n 314 ty314 .l .l) (.n 316 QHw .l .l)) (.n 331 QFk (.n 330 ty330 .l .l) .l)) (.n 336 QG3 (.n 334 QHE (.n 333 ty333 .l .l) (.n 335 QFl .l .l)) (.n 339 QGx (.n 338 QHn .l .l) .l)))))
theorem QFu:tr.ok:=⟨zty Tryz.t88 Tryz.underlying88,⟨zty Tryz.t33 Tryz.underlying33,⟨zty Tryz.t16 Tryz.underlying16,⟨zty Tryz.t9 Tryz.underlying9,⟨zty Tryz.t5 Tryz.underlying5,⟨zty Tryz.t3 Tryz.underlying3,⟨zty Tryz.t2 Tryz.underlying2,trivial,trivial⟩,⟨zty Tryz.t4 Tryz.underlying4,trivial,trivial⟩⟩,⟨zty Tryz.t7 Tryz.underlying7,⟨zty Tryz.t6 Tryz.underlying6,trivial,trivial⟩,⟨zty Tryz.t8 Tryz.underlying8,trivial,trivial⟩⟩⟩,⟨zty Tryz.t13 Tryz.underlying13,⟨zty Tryz.t11 Tryz.underlying11,⟨zty Tryz.t10 Tryz.underlying10,trivial,trivial⟩,⟨zty Tryz.t12 Tryz.underlying12,trivial,trivial⟩⟩,⟨zty Tryz.t15 Tryz.underlying15,⟨zty Tryz.t14 Tryz.underlying14,trivial,trivial⟩,trivial⟩⟩⟩,⟨zty Tryz.t26 Tryz.underlying26,⟨zty Tryz.t21 Tryz.underlying21,⟨zty Tryz.t18 Tryz.underlying18,⟨zty Tryz.t17 Tryz.underlying17,trivial,trivial⟩,⟨zty Tryz.t19 Tryz.underlying19,trivial,trivial⟩⟩,⟨zty Tryz.t24 Tryz.underlying24,⟨zty Tryz.t22 Tryz.underlying22,trivial,trivial⟩,⟨zty Tryz.t25 Tryz.underlying25,trivial,trivial⟩⟩⟩,⟨zty Tryz.t30 Tryz.underlying30,⟨zty Tryz.t28 Tryz.underlying28,⟨zty Tryz.t27 Tryz.underlying27,trivial,trivial⟩,⟨zty Tryz.t29 Tryz.underlying29,trivial,trivial⟩⟩,⟨zty Tryz.t32 Tryz.underlying32,⟨zty Tryz.t31 Tryz.underlying31,trivial,trivial⟩,trivial⟩⟩⟩⟩,⟨zty Tryz.t58 Tryz.underlying58,⟨zty Tryz.t41 Tryz.underlying41,⟨zty Tryz.t37 Tryz.underlying37,⟨zty Tryz.t35 Tryz.underlying35,⟨zty Tryz.t34 Tryz.underlying34,trivial,trivial⟩,⟨zty Tryz.t36 Tryz.underlying36,trivial,trivial⟩⟩,⟨zty Tryz.t39 Tryz.underlying39,⟨zty Tryz.t38 Tryz.underlying38,trivial,trivial⟩,⟨zty Tryz.t40 Tryz.underlying40,trivial,trivial⟩⟩⟩,⟨zty Tryz.t46 Tryz.underlying46,⟨zty Tryz.t44 Tryz.underlying44,⟨zty Tryz.t42 Tryz.underlying42,trivial,trivial⟩,⟨zty Tryz.t45 Tryz.underlying45,trivial,trivial⟩⟩,⟨zty Tryz.t49 Tryz.underlying49,⟨zty Tryz.t47 Tryz.underlying47,trivial,trivial⟩,trivial⟩⟩⟩,⟨zty Tryz.t79 Tryz.underlying79,⟨zty Tryz.t71 Tryz.underlying71,⟨zty Tryz.t60 Tryz.underlying60,⟨zty Tryz.t59 Tryz.underlying59,trivial,trivial⟩,⟨zty Tryz.t70 Tryz.underlying70,trivial,trivial⟩⟩,⟨zty Tryz.t77 Tryz.underlying77,⟨zty Tryz.t72 Tryz.underlying72,trivial,trivial⟩,trivial⟩⟩,⟨zty Tryz.t85 Tryz.underlying85,⟨zty Tryz.t81 Tryz.underlying81,⟨zty Tryz.t80 Tryz.underlying80,trivial,trivial⟩,⟨zty Tryz.t82 Tryz.underlying82,trivial,trivial⟩⟩,⟨zty Tryz.t87 Tryz.underlying87,⟨zty Tryz.t86 Tryz.underlying86,trivial,trivial⟩,trivial⟩⟩⟩⟩⟩,⟨zty Tryz.t204 Tryz.underlying204,⟨zty Tryz.t118 Tryz.underlying118,⟨zty Tryz.t106 Tryz.underlying106,⟨zty Tryz.t95 Tryz.underlying95,⟨zty Tryz.t93 Tryz.underlying93,⟨zty Tryz.t89 Tryz.underlying89,trivial,trivial⟩,⟨zty Tryz.t94 Tryz.underlying94,trivial,trivial⟩⟩,⟨zty Tryz.t104 Tryz.underlying104,⟨zty Tryz.t102 Tryz.underlying102,trivial,trivial⟩,⟨zty Tryz.t105 Tryz.underlying105,trivial,trivial⟩⟩⟩,⟨zty Tryz.t114 Tryz.underlying114,⟨zty Tryz.t111 Tryz.underlying111,⟨zty Tryz.t107 Tryz.underlying107,trivial,trivial⟩,⟨zty Tryz.t112 Tryz.underlying112,trivial,trivial⟩⟩,⟨zty Tryz.t116 Tryz.underlying116,⟨zty Tryz.t115 Tryz.underlying115,trivial,trivial⟩,trivial⟩⟩⟩,⟨zty Tryz.t139 Tryz.underlying139,⟨zty Tryz.t129 Tryz.underlying129,⟨zty Tryz.t122 Tryz.underlying122,⟨zty Tryz.t119 Tryz.underlying119,trivial,trivial⟩,⟨zty Tryz.t123 Tryz.underlying123,trivial,trivial⟩⟩,⟨zty Tryz.t134 Tryz.underlying134,⟨zty Tryz.t133 Tryz.underlying133,trivial,trivial⟩,trivial⟩⟩,⟨zty Tryz.t195 Tryz.underlying195,⟨zty Tryz.t191 Tryz.underlying191,⟨zty Tryz.t184 Tryz.underlying184,trivial,trivial⟩,⟨zty Tryz.t194 Tryz.underlying194,trivial,trivial⟩⟩,⟨zty Tryz.t203 Tryz.underlying203,⟨zty Tryz.t202 Tryz.underlying202,trivial,trivial⟩,trivial⟩⟩⟩⟩,⟨zty Tryz.t309 Tryz.underlying309,⟨zty Tryz.t278 Tryz.underlying278,⟨zty Tryz.t226 Tryz.underlying226,⟨zty Tryz.t222 Tryz.underlying222,⟨zty Tryz.t216 Tryz.underlying216,trivial,trivial⟩,⟨zty Tryz.t225 Tryz.underlying225,trivial,trivial⟩⟩,⟨zty Tryz.t262 Tryz.underlying262,⟨zty Tryz.t235 Tryz.underlying235,trivial,trivial⟩,⟨zty Tryz.t263 Tryz.underlying263,trivial,trivial⟩⟩⟩,⟨zty Tryz.t297 Tryz.underlying297,⟨zty Tryz.t284 Tryz.underlying284,⟨zty Tryz.t279 Tryz.underlying279,trivial,trivial⟩,⟨zty Tryz.t285 Tryz.underlying285,trivial,trivial⟩⟩,⟨zty Tryz.t302 Tryz.underlying302,⟨zty Tryz.t298 Tryz.underlying298,trivial,trivial⟩,trivial⟩⟩⟩,⟨zty Tryz.t332 Tryz.underlying332,⟨zty Tryz.t326 Tryz.underlying326,⟨zty Tryz.t315 Tryz.underlying315,⟨zty Tryz.t314 Tryz.underlying314,trivial,trivial⟩,⟨zty Tryz.t316 Tryz.underlying316,trivial,trivial⟩⟩,⟨zty Tryz.t331 Tryz.underlying331,⟨zty Tryz.t330 Tryz.underlying330,trivial,trivial⟩,trivial⟩⟩,⟨zty Tryz.t336 Tryz.underlying336,⟨zty Tryz.t334 Tryz.underlying334,⟨zty Tryz.t333 Tryz.underlying333,trivial,trivial⟩,⟨zty Tryz.t335 Tryz.underlying335,trivial,trivial⟩⟩,⟨zty Tryz.t339 Tryz.underlying339,⟨zty Tryz.t338 Tryz.underlying338,trivial,trivial⟩,trivial⟩⟩⟩⟩⟩⟩
noncomputable def tys:Tys:=tr.get
theorem QmD:QaV Tryz.prog tys:=fun _ _ h=>QoQ QFu h
theorem QIf:ty2.bytes=8∧ty4.bytes=1∧ty5.bytes=1∧ty7.bytes=24∧ty9.bytes=16∧ty12.bytes=8∧ty13.bytes=24∧ty15.bytes=8∧ty16.bytes=8∧ty17.bytes=8∧ty18.bytes=8∧ty21.bytes=4∧ty22.bytes=24∧ty24.bytes=4∧ty25.bytes=64∧ty26.bytes=32∧ty27.bytes=100∧ty29.bytes=24∧ty30.bytes=16∧ty32.bytes=12∧ty34.bytes=56∧ty36.bytes=24∧ty38.bytes=8∧ty41.bytes=264∧ty44.bytes=24∧ty45.bytes=24∧ty46.bytes=312∧ty49.bytes=24∧ty59.bytes=16∧ty70.bytes=8∧ty71.bytes=352∧ty77.bytes=8∧ty79.bytes=40∧ty81.bytes=24∧ty82.bytes=24∧ty85.bytes=24∧ty86.bytes=72∧ty88.bytes=32∧ty94.bytes=40∧ty102.bytes=24∧ty104.bytes=32∧ty106.bytes=40∧ty111.bytes=12∧ty114.bytes=24∧ty115.bytes=40∧ty118.bytes=48∧ty122.bytes=32∧ty129.bytes=24∧ty133.bytes=24∧ty139.bytes=8∧ty184.bytes=24∧ty191.bytes=24∧ty194.bytes=32∧ty202.bytes=16∧ty203.bytes=80∧ty216.bytes=2∧ty222.bytes=5∧ty225.bytes=16∧ty235.bytes=8∧ty262.bytes=12∧ty278.bytes=48∧ty284.bytes=1∧ty285.bytes=8∧ty297.bytes=48∧ty302.bytes=8∧ty309.bytes=8∧ty314.bytes=8∧ty315.bytes=32∧ty326.bytes=8∧ty330.bytes=40∧ty332.bytes=0∧ty333.bytes=0:=⟨rfl,rfl,rfl,rfl,rfl,rfl,rfl,rfl,rfl,rfl,rfl,rfl,rfl,rfl,rfl,rfl,rfl,rfl,rfl,rfl,rfl,rfl,rfl,rfl,rfl,rfl,rfl,rfl,rfl,rfl,rfl,rfl,rfl,rfl,rfl,rfl,rfl,rfl,rfl,rfl,rfl,rfl,rfl,rfl,rfl,rfl,rfl,rfl,rfl,rfl,rfl,rfl,rfl,rfl,rfl,rfl,rfl,rfl,rfl,rfl,rfl,rfl,rfl,rfl,rfl,rfl,rfl,rfl,rfl,rfl,rfl,rfl⟩
theorem QIc:ty2.size=1∧ty4.size=1∧ty5.size=1∧ty7.size=4∧ty9.size=1∧ty12.size=1∧ty13.size=2∧ty15.size=1∧ty16.size=1∧ty17.size=1∧ty18.size=1∧ty21.size=1∧ty22.size=1∧ty24.size=1∧ty25.size=16∧ty26.size=8∧ty27.size=25∧ty29.size=1∧ty30.size=1∧ty32.size=3∧ty34.size=8∧ty36.size=6∧ty38.size=2∧ty41.size=49∧ty44.size=1∧ty45.size=1∧ty46.size=51∧ty49.size=1∧ty59.size=2∧ty70.size=1∧ty71.size=54∧ty77.size=1∧ty79.size=4∧ty81.size=1∧ty82.size=1∧ty85.size=1∧ty86.size=6∧ty88.size=3∧ty94.size=5∧ty102.size=1∧ty104.size=3∧ty106.size=4∧ty111.size=4∧ty114.size=1∧ty115.size=3∧ty118.size=6∧ty122.size=4∧ty129.size=1∧ty133.size=2∧ty139.size=1∧ty184.size=1∧ty191.size=1∧ty194.size=3∧ty202.size=16∧ty203.size=32∧ty216.size=1∧ty222.size=5∧ty225.size=3∧ty235.size=1∧ty262.size=5∧ty278.size=2∧ty284.size=1∧ty285.size=1∧ty297.size=2∧ty302.size=1∧ty309.size=1∧ty314.size=1∧ty315.size=2∧ty326.size=1∧ty330.size=4∧ty332.size=0∧ty333.size=0:=⟨rfl,rfl,rfl,rfl,rfl,rfl,rfl,rfl,rfl,rfl,rfl,rfl,rfl,rfl,rfl,rfl,rfl,rfl,rfl,rfl,rfl,rfl,rfl,rfl,rfl,rfl,rfl,rfl,rfl,rfl,rfl,rfl,rfl,rfl,rfl,rfl,rfl,rfl,rfl,rfl,rfl,rfl,rfl,rfl,rfl,rfl,rfl,rfl,rfl,rfl,rfl,rfl,rfl,rfl,rfl,rfl,rfl,rfl,rfl,rfl,rfl,rfl,rfl,rfl,rfl,rfl,rfl,rfl,rfl,rfl,rfl,rfl⟩
end Go.Proofs.YtflelebfmdggkaaGreat
namespace Go.Proofs.YtflelebfmdggkaaGreat
open Go Go.RowKit
noncomputable def fNb (n:Nat) (K:Nat→Bool):Bool:=Nat.rec (K 0) (fun m _=>K (Nat.succ m)) n
theorem Qrf (n:Nat) (K:Nat→Bool):fNb n K=K n:=by cases n<;>rfl
noncomputable def fLb (l:List Nat):(List Nat→Bool)→Bool:=List.rec (fun K=>K []) (fun a _ ih K=>fNb a fun a=>ih fun l=>K (a::l)) l
theorem QvY:∀ (l:List Nat) (K:List Nat→Bool),fLb l K=K l
 | [],K=>rfl
 | a::l,K=>by
  show fNb a (fun a=>fLb l fun l=>K (a::l))=_;rw [Qrf,QvY l]
structure Inf where
 (dst:Option Nat) (lk rd wr:List Nat)
noncomputable def fPb (l:List Inf):(List Inf→Bool)→Bool:=List.rec (fun K=>K []) (fun a _ ih K=>ih fun l=>K (a::l)) l
theorem Qvm:∀ (l:List Inf) (K:List Inf→Bool),fPb l K=K l
 | [],K=>rfl
 | a::l,K=>by
  show fPb l (fun l=>K (a::l))=_;rw [Qvm l]
noncomputable def QEE (l m:List Nat):Bool:=List.rec true (fun x _ ih=>match QcW x m with
 | true=>false
 | false=>ih) l
theorem Qlp:∀ {l m:List Nat},QEE l m=true→Qn6 l m=true
 | [],m,h=>rfl
 | x::l,m,h=>by
  change (match QcW x m with|true=>false|false=>QEE l m)=true at h;split at h
  ·cases h
  ·rename_i hb
   unfold Qn6;rw [List.all_cons,Bool.and_eq_true];refine ⟨?_,Qlp h⟩;rw [List.all_eq_true];intro y hy
   cases hc:Nat.beq x y with
   | true=>have:=Nat.eq_of_beq_eq_true hc;subst this;exact absurd hy (QgF hb)
   | false=>rfl
def QuA (d:Option Nat) (l:List Nat):Bool:=match d with
 | some d=> !QcW d l
 | none=>true
def neD (d e:Option Nat):Bool:=match d,e with
 | some d,some e=> !Nat.beq d e
 | _,_=>true
noncomputable def apI (x y:Inf):Bool:=QuA x.dst y.lk&&neD x.dst y.dst&&QuA y.dst x.lk&&QEE x.wr y.rd&&QEE y.wr x.rd
def Qna (arr:Array Oper) (o:Oper) (d:Did):Inf:=⟨o.dst,o.looksAt arr,d.rd,d.wr⟩
theorem Qfj {d:Nat} {l:List Nat} (h:QcW d l=false):l.contains d=false:=by grind [List.contains_iff_mem,QgF,QcW]
theorem QBV {arr:Array Oper} {x y:Oper} {d e:Did} (h:apI (Qna arr x d) (Qna arr y e)=true):(x.apart arr y&&Qn6 d.wr e.rd&&Qn6 e.wr d.rd)=true:=by
 unfold apI Qna at h;simp only [Bool.and_eq_true] at h;obtain ⟨⟨⟨⟨h1,h2⟩,h3⟩,h4⟩,h5⟩:=h;rw [Qlp h4,Qlp h5,Bool.and_true,Bool.and_true];unfold Oper.apart;rw [Bool.and_eq_true];constructor
 ·cases hx:x.dst with
  | none=>rfl
  | some a =>
   rw [hx] at h1 h2;simp only [QuA,Bool.not_eq_true'] at h1;simp only [Bool.and_eq_true];refine ⟨by rw [Qfj h1];rfl,?_⟩
   cases hy:y.dst with
   | none=>rfl
   | some b=>grind [neD,Bool.not_eq_true',Nat.ne_of_beq_eq_false,apI,Qna,Qn6]
 ·grind [QuA,Bool.not_eq_true',Qfj,apI,Qna,Qn6]
noncomputable def chk (m:Nat) (cur:Inf) (l:List Inf):Nat→Bool:=List.rec (fun _=>true) (fun p _ ih i=>match m.testBit i with
 | true=>fNb (i+1) ih
 | false=>match apI p cur with
  | true=>fNb (i+1) ih
  | false=>false) l
theorem Qv2 {m:Nat} {cur:Inf}:∀ {l:List Inf} {s:Nat},chk m cur l s=true→∀ (i:Nat) p,l[i]?=some p→m.testBit (s+i)=true∨apI p cur=true
 | [],s,_,i,p,h=>by simp at h
 | q::l,s,h,i,p,hi=>by
  change (match m.testBit s with|true=>fNb (s+1) (chk m cur l)|false=>match apI q cur with|true=>fNb (s+1) (chk m cur l)|false=>false)=true at h;rw [Qrf] at h
  have next:chk m cur l (s+1)=true:=by
   split at h
   ·exact h
   ·split at h
    ·exact h
    ·cases h
  cases i with
  | zero =>
   injection hi with hi;subst hi
   split at h
   ·rename_i hb;exact .inl hb
   ·split at h
    ·rename_i hb;exact .inr hb
    ·cases h
  | succ i =>
   rw [show s+(i+1)=s+1+i by omega];exact Qv2 next i p (by simpa using hi)
noncomputable def QpJ (arr:Array Oper) (l:List Oper):List Did→List Nat→List Inf→Bool :=
 List.rec (fun _ _ _=>true) (fun o _ ih ds acc prev=>match ds with
  | []=>false
  | d::ds=>fNb (Qfk o acc) fun m=>fLb (o.looksAt arr) fun lk=>fLb d.rd fun rd=>fLb d.wr fun wr=>match chk m ⟨o.dst,lk,rd,wr⟩ prev 0 with
   | true=>fLb (acc++ [m]) fun acc=>fPb (prev++ [⟨o.dst,lk,rd,wr⟩]) fun prev=>ih ds acc prev
   | false=>false) l
theorem QiN:∀ (l:List Oper) (acc:List Nat) (k:Nat),k<acc.length→(QbM l acc).getD k 0=acc.getD k 0
 | [],acc,k,_=>rfl
 | o::l,acc,k,h=>by
  show (QbM l (acc++ [Qfk o acc])).getD k 0=_;rw [QiN l _ k (by simp;omega),List.getD_eq_getElem?_getD,List.getElem?_append_left h,← List.getD_eq_getElem?_getD]
theorem Qj2 {arr:Array Oper} {all:List Oper} {dsA:List Did} (harr:arr=all.toArray):∀ (l:List Oper) (ds:List Did) (acc:List Nat) (prev:List Inf) (pre:List Oper) (dpre:List Did),QpJ arr l ds acc prev=true→all=pre++l→dsA=dpre++ds →
  acc.length=pre.length→dpre.length=pre.length→prev.length=pre.length→QbM all []=QbM l acc→(∀ (i:Nat) p,prev[i]?=some p→∃ o d,pre[i]?=some o∧dpre[i]?=some d∧p=Qna arr o d) →
  ∀ j,pre.length≤j→j<all.length→∀ i,i<j→(((QbM all []).getD j 0).testBit i||Qdo all dsA i j)=true
 | [],ds,acc,prev,pre,dpre,_,h1,_,_,_,_,_,_,j,hj,KB,i,hi=>by subst h1;simp at KB;omega
 | o::l,ds,acc,prev,pre,dpre,hq,h1,h2,h3,h4,h5,h6,h7,j,hj,KB,i,hi=>by
  cases ds with
  | nil=>cases hq
  | cons d ds =>
   change (fNb (Qfk o acc) fun m=>fLb (o.looksAt arr) fun lk=>fLb d.rd fun rd=>fLb d.wr fun wr=>match chk m ⟨o.dst,lk,rd,wr⟩ prev 0 with
    | true=>fLb (acc++ [m]) fun acc=>fPb (prev++ [⟨o.dst,lk,rd,wr⟩]) fun prev=>QpJ arr l ds acc prev
    | false=>false)=true at hq
   simp only [Qrf,QvY,Qvm] at hq;split at hq
   ·rename_i hc
    by_cases hjp:j=pre.length
    ·subst hjp
     have hm:(QbM all []).getD pre.length 0=Qfk o acc:=by
      rw [h6];show (QbM l (acc++ [Qfk o acc])).getD pre.length 0=_;rw [QiN l _ _ (by simp;omega),← h3];simp [List.getD]
     obtain ⟨p,hp⟩:∃ p,prev[i]?=some p:=⟨_,List.getElem?_eq_getElem (by omega)⟩;obtain ⟨o',d',q1,q2,rfl⟩:=h7 i p hp;rw [hm,Bool.or_eq_true];rcases Qv2 hc i _ hp with h8|h8
     ·rw [Nat.zero_add] at h8;exact .inl h8
     ·right
      unfold Qdo;have e1:all[i]?=some o':=by rw [h1,List.getElem?_append_left hi];exact q1
      have e2:all[pre.length]?=some o:=by rw [h1,List.getElem?_append_right (Nat.le_refl _)];simp
      have e3:dsA[i]?=some d':=by rw [h2,List.getElem?_append_left (by omega)];exact q2
      have e4:dsA[pre.length]?=some d:=by rw [h2,← h4,List.getElem?_append_right (Nat.le_refl _)];simp
      rw [e1,e2,e3,e4];simp only [];rw [← harr];exact QBV h8
    ·refine Qj2 harr l ds _ _ (pre++ [o]) (dpre++ [d]) hq (by simp [h1]) (by simp [h2]) (by simp [h3]) (by simp [h4]) (by simp [h5]) h6 (fun i p hp=>?_) j (by simp;omega) KB i hi
     by_cases ZR:i<prev.length
     ·rw [List.getElem?_append_left ZR] at hp
      obtain ⟨o',d',q1,q2,q3⟩:=h7 i p hp;exact ⟨o',d',by rw [List.getElem?_append_left (by omega)];exact q1,by rw [List.getElem?_append_left (by omega)];exact q2,q3⟩
     ·rw [List.getElem?_append_right (by omega)] at hp
      have:i=prev.length:=by
       have:=(List.getElem?_eq_some_iff.1 hp).1;simp at this;omega
      subst this;simp at hp;exact ⟨o,d,by rw [h5,List.getElem?_append_right (Nat.le_refl _)];simp,by rw [h5,← h4,List.getElem?_append_right (Nat.le_refl _)];simp,hp.symm⟩
   ·cases hq
noncomputable def QoZ (all:List Oper) (ds:List Did):Bool:=match Qhm all 0 with
 | true=>QpJ all.toArray all ds [] []
 | false=>false
theorem QlI {all:List Oper} {ds:List Did} (h:QoZ all ds=true):Qej all ds=true:=by
 unfold QoZ at h;split at h
 ·rename_i he
  unfold Qej;rw [he,Bool.true_and,List.all_eq_true];intro j hj;rw [List.all_eq_true];intro i hi;exact Qj2 rfl all ds [] [] [] [] h rfl rfl rfl rfl rfl rfl (fun i p hp=>by simp at hp) j (Nat.zero_le _) (by simpa using hj) i (by simpa using hi)
 ·cases h
theorem Qzn:Tryz.prog.follows .mixedOrders=true:=by kernel_rfl
theorem Qb4 {x:Int} (h1: -9223372036854775808≤x) (h2:x≤9223372036854775807):IntKind.i64.wrap x=x:=by rw [IntKind.wrap_i64];omega
theorem QeS {x:Int} (h1:0≤x) (h2:x≤4294967295):IntKind.u32.wrap x=x:=by
 show x%4294967296=x;omega
theorem Qcf (x:Int):IntKind.u32.wrap x=x%4294967296:=rfl
theorem wu8 {x:Int} (h1:0≤x) (h2:x≤255):IntKind.u8.wrap x=x:=by show x%256=x;omega
theorem Qn5 (x:Int):IntKind.u8.wrap x=x%256:=rfl
theorem QzR {x:Int} (h1:0≤x) (h2:x≤18446744073709551615):IntKind.u64.wrap x=x:=by show x%18446744073709551616=x;omega
theorem QnY (x:Int):IntKind.u64.wrap x=x%18446744073709551616:=rfl
theorem QCq {x:Int} (h1: -2147483648≤x) (h2:x≤2147483647):IntKind.i32.wrap x=x:=by
 have e:IntKind.i32.wrap x=if x%4294967296≥2147483648 then x%4294967296-4294967296 else x%4294967296:=by
  unfold IntKind.wrap;simp [IntKind.signed,IntKind.bits]
 rw [e];split<;>omega
theorem QbJ {c l:List SV} (h:c.length=l.length):QaC c 0 l=l:=by
 apply List.ext_getElem?;intro j;rw [Qbi c 0 l j (by omega)];split
 ·rfl
 ·grind
theorem Qju {c l:List SV} (h:Nat.beq c.length l.length=true):QaC c 0 l=l:=QbJ (Nat.eq_of_beq_eq_true h)
theorem Qp4 (op:BinOp) (k:IntKind) (a b:Int):bits op k a b=bits op k a b:=rfl
theorem Qmi {x y:Int} (h1:0≤x):x.tdiv y=x / y:=Int.tdiv_eq_ediv_of_nonneg h1
theorem QfI {x y:Int} (h1:0≤x):x.tmod y=x%y:=Int.tmod_eq_emod_of_nonneg h1
theorem Qwv {all:List Oper} {ds:List Did} {k:Prop} (h:QoZ all ds=true) (hk:k):Sd (Qej all ds=true) k:= .mk (QlI h) hk
inductive Fc {α:Type}:α→α→Prop
 | mk {a b:α} (h:a=b):Fc a b
theorem Fc.eq {α:Type} {a b:α} (h:Fc a b):a=b:=by cases h;assumption
theorem QDe {α:Type} {a b:α} (h:Fc a b):a=b:=h.eq
theorem Qra {α:Type} {a b:α} (h:Fc a b):Fc (some a) (some b):=⟨h.eq ▸ rfl⟩
theorem QBp {α:Type}:Fc ([]:List α) []:=⟨rfl⟩
theorem QyX {α:Type} {a b:α} {l m:List α} (h1:Fc a b) (h2:Fc l m):Fc (a::l) (b::m):=⟨by rw [h1.eq,h2.eq]⟩
theorem QAr {k:IntKind} {x:Int}:Fc (SV.int k x) (.int k x):=⟨rfl⟩
theorem QyC {b:Bool}:Fc (SV.bool b) (.bool b):=⟨rfl⟩
theorem QJW:Fc SV.nil .nil:=⟨rfl⟩
theorem QHu:Fc SV.nilsl .nilsl:=⟨rfl⟩
theorem QA5:Fc SV.unk .unk:=⟨rfl⟩
theorem QBe {i o}:Fc (SV.ptr i o) (.ptr i o):=⟨rfl⟩
theorem QGa {i o n}:Fc (SV.sl i o n) (.sl i o n):=⟨rfl⟩
theorem QCf {s}:Fc (SV.str s) (.str s):=⟨rfl⟩
theorem QHg {f c}:Fc (SV.fn f c) (.fn f c):=⟨rfl⟩
theorem QFF:Fc ([]:List AV) []:=⟨rfl⟩
theorem QFD {a b:AV} {l m:List AV} (h1:Fc a b) (h2:Fc l m):Fc (a::l) (b::m):=⟨by rw [h1.eq,h2.eq]⟩
theorem QIQ {a b:SV} (h:Fc a b):Fc (AV.s a) (.s b):=⟨by rw [h.eq]⟩
theorem QDk {a b:List SV} (h:Fc a b):Fc (AV.agg a) (.agg b):=⟨by rw [h.eq]⟩
theorem QG5 {a b:AV} (h:Fc a b):Fc (TV.a a) (.a b):=⟨by rw [h.eq]⟩
theorem QBL {a b:List AV} (h:Fc a b):Fc (TV.tup a) (.tup b):=⟨by rw [h.eq]⟩
theorem QF4:Fc TV.unk .unk:=⟨rfl⟩
theorem QAX {n:Nat}:Fc n n:=⟨rfl⟩
theorem QGF {b:Bool}:Fc b b:=⟨rfl⟩
theorem QxQ {α:Type}:Fc (none:Option α) none:=⟨rfl⟩
theorem Qwr {α β:Type} {a a':α} {b b':β} (h1:Fc a a') (h2:Fc b b'):Fc (a,b) (a',b'):=⟨by rw [h1.eq,h2.eq]⟩
theorem QDi {o:Bool} {e e':Nat} {c c':List SV} (h1:Fc e e') (h2:Fc c c'):Fc (Row.mk o e c) ⟨o,e',c'⟩:=⟨by rw [h1.eq,h2.eq]⟩
theorem QHj {v v':TV} {u u':List (Nat × Option Row)} {n n':List (Nat × Row)} (h1:Fc v v') (h2:Fc u u') (h3:Fc n n'):Fc (Ef.mk v u n) ⟨v',u',n'⟩:=⟨by rw [h1.eq,h2.eq,h3.eq]⟩
def wsv (xs:List Nat):List SV:=xs.map fun (x:Nat)=>SV.int .u32 x
@[simp] theorem wsv_length (xs:List Nat):(wsv xs).length=xs.length:=by simp [wsv]
theorem Qa0 (xs:List Nat) (i:Nat) (h:i<xs.length):(wsv xs)[i]?=some (.int .u32 (xs.getD i 0:Nat)):=by grind [wsv,List.getElem?_eq_getElem,List.getD]
theorem Qaa (xs:List Nat):Qau (wsv xs)=true:=by
 induction xs with
 | nil=>rfl
 | cons x xs ih=>exact ih
theorem QbF (xs:List Nat):Qas (wsv xs)=true:=by
 induction xs with
 | nil=>rfl
 | cons x xs ih=>exact ih
theorem Qes {m:List Em} {k n0:Nat} {l:List SV} (h:Qau l=true):l.map (QcJ m k n0)=l:=by
 induction l with
 | nil=>rfl
 | cons s l ih =>
  unfold Qau at h
  cases e:s.scal with
  | false=>grind
  | true =>
   rw [e] at h;rw [List.map_cons,ih h];cases s<;>simp [SV.scal] at e<;>rfl
theorem Qvv {m:List Em} {k n0:Nat} {l:List SV} (h:Qau l=true):Fc (l.map (QcJ m k n0)) l:=⟨Qes h⟩
@[simp] theorem ren_wsv {m:List Em} {k n0:Nat} (xs:List Nat):(wsv xs).map (QcJ m k n0)=wsv xs:=Qes (Qaa xs)
theorem Qa8 {cells:List SV} {n:Nat} (l:List SV) (h:cells.length=n) (e:cells=l:=by rfl):l.length=n∧∀ (j:Nat) s,l[j]?=some s→cells[0+j]?=some s:=by grind
theorem Qvl {cells l:List SV} {o n:Nat} (h:(cells.drop o).take n=l) (hn:l.length=n):l.length=n∧∀ (j:Nat) s,l[j]?=some s→cells[o+j]?=some s:=by grind
theorem QF2 {cells l:List SV} {o n:Nat} (h:Fc ((cells.drop o).take n) l) (hn:l.length=n):l.length=n∧∀ (j:Nat) s,l[j]?=some s→cells[o+j]?=some s:=Qvl h.eq hn
theorem Qct {cells:List SV} {n:Nat} (l:List SV) (h:cells.length=n) (hk:Qas cells=true) (e:cells=l:=by rfl):l.length=n∧Qas l=true∧∀ (j:Nat) s,l[j]?=some s→cells[0+j]?=some s:=by grind
theorem QGd {cells l:List SV} {o n:Nat} (h:Fc ((cells.drop o).take n) l) (hn:l.length=n) (hk:Qas l=true):l.length=n∧Qas l=true∧∀ (j:Nat) s,l[j]?=some s→cells[o+j]?=some s :=
 ⟨hn,hk,(Qvl h.eq hn).2⟩
theorem Qae {P:Program} {det:Bool} {f:FuncId} {l:List AV} {hp:Hp} {n0:Nat} {K:KK} {args:List AV} {H:List Row} {R:Res} (hF:Fn P f args H (· =R)) (m:List Em) (fp:List (Nat × Row)) (h2:l=args.map (Qc1 m H.length n0)) (h3:QAg hp fp)
  (h4:QhH m H.length n0 0 m H fp) (h5:Nat.ble R.nw.length Qao=true∧∀ p∈R.up,p.1<H.length) (k:Vl (R.ef m H.length n0) fun e=>K fp e):Cll P det f l hp n0 K :=
 .mk args H m fp _ hF h2 h3 h4 (fun _ e=>e ▸ ⟨Nat.le_of_ble_eq_true h5.1,h5.2⟩) (fun _=>⟨R,rfl⟩) (fun _ e=>e ▸ k)
theorem Qbq {H:List Row}:∀ p∈([]:List (Nat × Option Row)),p.1<H.length:=fun _ h=>by cases h
theorem Qac {P:Program} {det:Bool} {f:FuncId} {l:List AV} {hp:Hp} {n0:Nat} {K:KK} {args:List AV} {v:TV} (hF:Fn P f args [] (· =⟨v,[],[]⟩)) (h2:l=args.map (Qc1 [] 0 n0)) (k:Vl (QAN [] 0 n0 v) fun v=>K [] ⟨v,[],[]⟩):Cll P det f l hp n0 K :=
 Qae hF [] [] h2 trivial trivial ⟨rfl,Qbq⟩ (by obtain ⟨z,h,k⟩:=k;exact ⟨_,rfl,by rw [← h] at k;exact k⟩)
theorem Qar {mm:List Em} {k n0 i n es:Nat} {cells:List SV} {own:Bool} (h:Qau cells=true):Qd4 mm k n0 i ⟨n,0⟩ ⟨false,es,cells⟩ ⟨own,es,cells⟩ :=
 ⟨rfl,fun q s hs=>by
  simp only [] at hs ⊢;rw [Nat.zero_add,hs];have:=QcX h s (List.mem_of_getElem? hs)
  cases s<;>simp [SV.scal] at this<;>rfl,by simp,fun h=>by cases h⟩
theorem Qxm {mm:List Em} {k n0 i n es:Nat} {cells:List SV} (h:Qau cells=true) (hi:∀ (j:Nat) (f:Em),mm[j]?=some f→j≠i→f.n≠n):Qd4 mm k n0 i ⟨n,0⟩ ⟨true,es,cells⟩ ⟨true,es,cells⟩ :=
 ⟨rfl,fun q s hs=>by
  simp only [] at hs ⊢;rw [Nat.zero_add,hs];have:=QcX h s (List.mem_of_getElem? hs)
  cases s<;>simp [SV.scal] at this<;>rfl,by simp,fun _=>⟨rfl,rfl,rfl,hi⟩⟩
def Qzm:AV→Bool
 | .s s=>s.scal
 | .agg l=>Qau l
def QlM:List AV→Bool
 | []=>true
 | x::l=>Qzm x&&QlM l
def Qym:TV→Bool
 | .unk=>true
 | .a x=>Qzm x
 | .tup l=>QlM l
theorem Qaj {m:Rn}:∀ {l:List SV},Qau l=true→SVsM m l l
 | [],_=> .nil
 | s::l,h=>by
  unfold Qau at h;split at h
  ·rename_i hs;exact .cons (QfZ hs) (Qaj h)
  ·cases h
theorem QmK {m:Rn}:∀ {x:AV},Qzm x=true→AVm m x x
 | .s _,h=>QfZ h
 | .agg _,h=>Qaj h
theorem QjX {m:Rn}:∀ {l:List AV},QlM l=true→QtT m l l
 | [],_=>trivial
 | x::l,h=>by
  unfold QlM at h;simp at h;exact ⟨QmK h.1,QjX h.2⟩
theorem QlG {m:Rn}:∀ {x:TV},Qym x=true→TVm m x x
 | .unk,_=>trivial
 | .a _,h=>⟨_,rfl,QmK h⟩
 | .tup _,h=>⟨_,rfl,QjX h⟩
theorem Qam {σ:St} {x v:TV} (hs:Qym v=true) (e:x=v):Fin [] (· =⟨v,[],[]⟩) σ x:=by
 subst e;exact Fin.mk _ [] rfl (QlG hs) trivial rfl
theorem QaX {l l':List SV} (h:Qau l=true) (h':Qau l'=true):Qau (l++l')=true:=by
 induction l with
 | nil=>exact h'
 | cons s l ih=>grind [Qau]
theorem QcB {m:Rn} {z y:AV} (h:AVm m z y):TVm m (.a z) (.a y):=⟨_,rfl,h⟩
theorem Qia {m:Rn} {z y:List AV} (h:QtT m z y):TVm m (.tup z) (.tup y):=⟨_,rfl,h⟩
theorem Qk5 {m:Rn} {z y:List SV} (h:SVsM m z y):AVm m (.agg z) (.agg y):=h
theorem Qcx {m:Rn} {z y:SV} (h:SVm m z y):AVm m (.s z) (.s y):=h
theorem Qf4 {m:Rn}:QtT m [] []:=trivial
theorem Qet {m:Rn} {x y:AV} {l l':List AV} (h:AVm m x y) (h':QtT m l l'):QtT m (x::l) (y::l'):=⟨h,h'⟩
theorem Qpv {m:Rn} {n c o:Nat} (h:QaZ m n=some (some c)):SVm m (.ptr c o) (.ptr n o):=⟨c,h,rfl⟩
theorem Qcz {m:Rn} {n c o k:Nat} (h:QaZ m n=some (some c)):SVm m (.sl c o k) (.sl n o k):= .inl ⟨c,h,rfl⟩
theorem QeJ {m:Rn} {n o:Nat} (h:QaZ m n=some none):SVm m .nilsl (.sl n o 0):= .inr ⟨h,rfl,rfl⟩
theorem Qi3 {m:Rn} {es:Nat}:SVm m .nilsl (.fz es 0 []):= .inr ⟨rfl,rfl,rfl⟩
theorem QaN {m:Rn} {hp:Hp} {s:List Nat}:HlS m hp s []:=trivial
theorem QfK {m:Rn} {hp:Hp} {s:List Nat} {p:Nat × Option Row} {l:Hl} (h:QcW p.1 s=true) (h':HlS m hp (p.1::s) l):HlS m hp s (p::l):=⟨by rw [h];trivial,h'⟩
theorem Qh6 {m:Rn} {hp:Hp} {s:List Nat} {n:Nat} {l:Hl} (h':HlS m hp (n::s) l):HlS m hp s ((n,none)::l):=⟨by cases QcW n s<;>trivial,h'⟩
theorem Qaq {m:Rn} {hp:Hp} {s:List Nat} {n:Nat} {r:Row} {l:Hl} (h:RowMt m hp n r) (h':HlS m hp (n::s) l):HlS m hp s ((n,some r)::l):=⟨by cases QcW n s;exact h;trivial,h'⟩
theorem Qan {m:Rn} {hp:Hp} {n c:Nat} {r r':Row} (h1:QaZ m n=some (some c)) (h2:hp c=some r) (h3:r.es=r'.es) (h4:(!r'.own||(r.own&&QzY m n c))=true) (h5:SVsM m r.cells r'.cells):RowMt m hp n r' :=
 .inl ⟨c,r,h1,h2,h3,fun h=>by rw [h] at h4;simpa using h4,h5⟩
theorem QcR {m:Rn} {hp:Hp} {n:Nat} {r':Row} (h1:QaZ m n=some none) (h2:r'.cells= []):RowMt m hp n r':= .inr ⟨h1,h2⟩
theorem Qzu {m:Rn} {hp qC:Hp} {s:List Nat}:QcK m hp qC s []:=trivial
theorem Qt1 {m:Rn} {hp qC:Hp} {s:List Nat} {p:Nat × Option Row} {l:Hl} (h:QcW p.1 s=true) (h':QcK m hp qC (p.1::s) l):QcK m hp qC s (p::l):=⟨by rw [h];trivial,h'⟩
theorem QuH {m:Rn} {hp qC:Hp} {s:List Nat} {n:Nat} {l:Hl} (h':QcK m hp qC (n::s) l):QcK m hp qC s ((n,none)::l):=⟨by cases QcW n s<;>trivial,h'⟩
theorem QwI {m:Rn} {hp qC:Hp} {s:List Nat} {n:Nat} {r:Row} {l:Hl} (h:Qvg m hp qC n r) (h':QcK m hp qC (n::s) l):QcK m hp qC s ((n,some r)::l):=⟨by cases QcW n s;exact h;trivial,h'⟩
theorem Qy2 {m:Rn} {hp qC:Hp} {n c:Nat} {r r':Row} (h1:QaZ m n=some (some c)) (h2:hp c=some r) (h3:r.es=r'.es) (h4:(!r'.own||(r.own&&QEH m qC n c))=true) (h5:SVsM m r.cells r'.cells):Qvg m hp qC n r' :=
 .inl ⟨c,r,h1,h2,h3,fun h=>by rw [h] at h4;simpa using h4,h5⟩
theorem Qtk {m:Rn} {hp qC:Hp} {n:Nat} {r':Row} (h1:QaZ m n=some none) (h2:r'.cells= []):Qvg m hp qC n r':= .inr ⟨h1,h2⟩
theorem Qa1 {m:Rn} {tm:Nat→TV}:TmL m tm []:=trivial
theorem QaP {m:Rn} {tm:Nat→TV} {t:Nat} {v:TV} {l:Tm} (h:TVm m (tm t) v) (h':TmL m tm l):TmL m tm ((t,v)::l):=⟨h,h'⟩
theorem QaL {m:Rn} {s:SV} (h:s.scal=true):SVm m s s:=QfZ h
def QAe (n:Nat):Nat→Nat→List Em→Bool
 | _,_,[]=>true
 | i,j,f::l=>(Nat.beq j i|| !Nat.beq f.n n)&&QAe n i (j+1) l
theorem Qoq {n i:Nat}:∀ {l:List Em} {s:Nat},QAe n i s l=true→∀ (j:Nat) (f:Em),l[j]?=some f→s+j≠i→f.n≠n
 | f::l,s,h,0,g,e,fQ=>by
  injection e with e;subst e
  unfold QAe at h;rw [Bool.and_eq_true,Bool.or_eq_true] at h;rcases h.1 with h|h
  ·simp_all
  ·intro e
   rw [e,Nat.beq_refl] at h;cases h
 | f::l,s,h,j+1,g,e,fQ=>by
  unfold QAe at h;rw [Bool.and_eq_true] at h;exact Qoq h.2 j g e (by omega)
theorem QaK {mm:List Em} {k n0 i n es:Nat} {cells:List SV} (h:Qau cells=true) (ho:QAe n i 0 mm=true):Qd4 mm k n0 i ⟨n,0⟩ ⟨true,es,cells⟩ ⟨true,es,cells⟩ :=
 Qxm h fun j f hj fQ=>Qoq ho j f hj (by omega)
theorem Qcd {mm:List Em} {k n0 i n es:Nat} {cells cells':List SV} (h:cells'=cells.map (QcJ mm k n0)) (ho:QAe n i 0 mm=true):Qd4 mm k n0 i ⟨n,0⟩ ⟨true,es,cells⟩ ⟨true,es,cells'⟩:=by
 subst h;exact ⟨rfl,fun q s hs=>by simp only [] at hs ⊢;rw [Nat.zero_add,List.getElem?_map,hs];rfl,by simp,fun _=>⟨rfl,rfl,by simp,fun j f hj fQ=>Qoq ho j f hj (by omega)⟩⟩
theorem Qmb {mm:List Em} {k n0 i n es:Nat} {own:Bool} {cells cells':List SV} (h:cells'=cells.map (QcJ mm k n0)):Qd4 mm k n0 i ⟨n,0⟩ ⟨false,es,cells⟩ ⟨own,es,cells'⟩:=by
 subst h;exact ⟨rfl,fun q s hs=>by simp only [] at hs ⊢;rw [Nat.zero_add,List.getElem?_map,hs];rfl,by simp,fun h=>by cases h⟩
theorem Qil (a b:List Nat):wsv (a++b)=wsv a++wsv b:=by unfold wsv;rw [List.map_append]
def upB (n:Nat):List (Nat × Option Row)→Bool
 | []=>true
 | p::l=>Nat.ble (p.1+1) n&&upB n l
theorem Qc8 {n:Nat}:∀ {l:List (Nat × Option Row)},upB n l=true→∀ p∈l,p.1<n
 | q::l,h,p,hp=>by
  unfold upB at h;rw [Bool.and_eq_true] at h;rcases List.mem_cons.1 hp with e|e
  ·subst e;exact Nat.le_of_ble_eq_true h.1
  ·exact Qc8 h.2 p e
theorem d1 {p:Prop} [Decidable p]:(decide p=true)=p:=decide_eq_true_eq
theorem d2 {p:Prop} [Decidable p]:decide p=false↔¬ p:=decide_eq_false_iff_not
theorem d3 {α:Type} [BEq α] [LawfulBEq α] {a b:α}:(a==b)=false↔a≠b:=beq_eq_false_iff_ne
theorem d4 {α:Type} [BEq α] [LawfulBEq α] {a b:α}:(a !=b)=false↔a=b:=bne_eq_false_iff_eq
theorem d5 (b:Bool):((!b)=true)=(b=false):=Bool.not_eq_true' b
theorem d6 {b:Bool}:((!b)=false)=(b=true):=Bool.not_eq_false' b
theorem d7 {a:Prop}:¬ ¬ a↔a:=Classical.not_not
theorem aAr {P:Prop} (h:P:=by (first|(with_reducible exact Qp4 _ _ _ _)|((rewrite [Qmi]);(focus (first|exact Qb4 (by omega) (by omega)|exact QeS (by omega) (by omega)|exact QCq (by omega) (by omega)));omega)|exact QfI (by omega)|exact Qb4 (by omega) (by omega)|exact QeS (by omega) (by omega)|exact Qcf _|exact wu8 (by omega) (by omega)|exact QzR (by omega) (by omega)|exact QCq (by omega) (by omega)|rfl)):P:=h
theorem aCl {P:Prop} (h:P:=by (first|exact Qju rfl|exact Qa8 _ rfl|exact Qct _ rfl rfl|((first|apply QF2|apply QGd|(apply QDe;(conv=>arg 1;whnf);apply Qra)|apply QDe);(repeat' (first|exact Qvv (Qaa _)|exact Qvv (by assumption)|((conv=>arg 1;whnf);first|exact QBp|apply QyX|exact QAr|exact QyC|exact QJW|exact QHu|exact QBe|exact QGa|exact QCf|exact QHI|exact QA5|exact QHg|apply QIQ|apply QDk|apply QG5|apply QBL|exact QFF|apply QFD|exact QF4|exact QAX|exact QGF|exact QxQ|apply Qra|apply Qwr|apply QDi|apply QHj)));(all_goals exact rfl))|((dsimp only [Res.ef,QAN,Qc1,QcJ,Qc5,nwN,upN,Qdm,List.map_cons,List.map_nil,List.length_cons,List.length_nil]);first|done|exact rfl)|(dsimp only [QaC,List.set_cons_zero,List.set_cons_succ,List.cons_append,List.nil_append];exact rfl)|exact rfl)):P:=h
theorem aSd {P:Prop} (h:P:=by (first|exact rfl|trivial|omega|(repeat' apply And.intro)<;>first|exact rfl|exact Nat.le_of_ble_eq_true rfl|omega|decide)):P:=h
theorem aNt {P:Prop} (h:P:=by ((try simp only [QIc,QIf,Int.toNat_natCast,Int.toNat_zero,Int.toNat_one,Nat.zero_add,Nat.zero_mul,Nat.mul_one,Nat.one_mul,Nat.add_zero,Int.sub_zero,Option.getD_some,Option.getD_none,Int.toNat_natCast_add_one]);exact rfl)):P:=h
theorem aS2 {P:Prop} (h:P:=by (repeat' apply And.intro)<;>(try simp only [QIc,QIf,Int.toNat_natCast,Int.toNat_zero,Int.toNat_one,Nat.zero_add,Nat.zero_mul,Nat.mul_one,Nat.one_mul,Nat.add_zero,Int.sub_zero,Option.getD_some,Option.getD_none,Int.toNat_natCast_add_one])<;>first|exact rfl|omega):P:=h
theorem aFi {P:Prop} (h:P:=by ((repeat' (first|exact SVsM.nil|exact Qf4|exact QaL rfl|exact Qpv rfl|exact Qcz rfl|exact QeJ rfl|exact Qi3|exact Qaj rfl|exact Qaj (Qaa _)|exact Qaj (by assumption)|exact QaN|apply SVsM.cons|apply QcB|apply Qia|apply Qk5|apply Qcx|apply Qet|exact trivial|(refine QfK rfl ?_)|apply Qh6|apply Qaq|(refine Qan rfl rfl rfl rfl ?_)|exact QcR rfl rfl|exact Qzu|(refine Qt1 rfl ?_)|apply QuH|apply QwI|(refine Qy2 rfl rfl rfl rfl ?_)|exact Qtk rfl rfl));first|done|fail)):P:=h
theorem aKl {b c:Bool} {P:Prop} (hb:b=c) (h:¬ (b=c):=by intro hb;first|(exact absurd hb (by decide))|exact Bool.noConfusion (hb.symm.trans (by assumption):true=false)|exact Bool.noConfusion (hb.symm.trans (by assumption):false=true)):P:=absurd hb h
theorem aK2 {b c:Bool} {P:Prop} (hb:b=c) (h:¬ (b=c):=by first|(intro hb;first|(exact absurd hb (by decide))|exact Bool.noConfusion (hb.symm.trans (by assumption):true=false)|exact Bool.noConfusion (hb.symm.trans (by assumption):false=true))|(simp only [beq_self_eq_true,Bool.and_true,Bool.and_self,reduceCtorEq,false_implies,bne_self_eq_false,imp_false,not_true_eq_false,not_false_eq_true,Bool.true_eq_false,Bool.false_eq_true];first|done|fail)):P:=absurd hb h
theorem QDG {m:List Em} {k n0:Nat}:([]:List AV)=([]:List AV).map (Qc1 m k n0):=rfl
theorem QJV {m:List Em} {k n0:Nat} {C:List SV} {l l':List AV} (h:Qau C=true) (t:l=l'.map (Qc1 m k n0)):AV.agg C::l=(AV.agg C::l').map (Qc1 m k n0):=by rw [List.map_cons,← t];show _=AV.agg (C.map (QcJ m k n0))::l;rw [Qes h]
theorem QKa {m:List Em} {k n0:Nat} {a b:AV} {l l':List AV} (h:b=Qc1 m k n0 a) (t:l=l'.map (Qc1 m k n0)):b::l=(a::l').map (Qc1 m k n0):=by rw [List.map_cons,← t,← h]
theorem aRn {P:Prop} (h:P:=by first|exact rfl|(repeat' first|exact QDG|(refine QJV (by assumption) ?_)|(refine QKa rfl ?_));first|done|fail):P:=h
theorem sdk {p K:Prop} (h:p):K→Sd p K:=fun k=> .mk h k
theorem sdd {all:List Oper} {ds:List Did} {k:Prop} (h:QoZ all ds=true):k→Sd (Qej all ds=true) k:=fun q=>Qwv h q
theorem vlk {α:Type} {e z:α} {K:α→Prop} (h:e=z):K z→Vl e K:=fun k=> .mk z h k
theorem gek {α:Type} {e:Option α} {z:α} {K:α→Prop} (h:e=some z):K z→Ge e K:=fun k=> .mk z h k
theorem sgk {c:List SV} {o n:Nat} {K:List SV→Prop} {l:List SV} (h:l.length=n∧∀ (j:Nat) s,l[j]?=some s→c[o+j]?=some s):K l→Sg c o n K:=fun k=> .mk l h k
theorem skk {c:List SV} {o n:Nat} {K:List SV→Prop} {l:List SV} (h:l.length=n∧Qas l=true∧∀ (j:Nat) s,l[j]?=some s→c[o+j]?=some s):K l→Sk c o n K:=fun k=> .mk l h k
theorem QFA {p q:Prop} (h:p):q→p∧q:=fun k=>⟨h,k⟩
theorem zst {P Q:Prop} (k:Q) (h:Q→P:=by (first|((with_reducible apply vlk (α:=Nat));exact aNt)|((with_reducible apply sdd);kernel_rfl)|(apply sdk;exact aSd)|((with_reducible apply vlk (α:=Int));exact aAr)|((with_reducible first|apply vlk (α:=Bool)|apply vlk (α:=Nat)|apply vlk (α:=ByteArray)|apply gek (α:=Row)|apply gek (α:=SV)|apply gek (α:=AV));exact rfl)|(exact QFA rfl)|((with_reducible first|apply vlk (α:=List SV)|apply vlk (α:=Ef)|apply vlk (α:=TV)|apply gek (α:=List SV)|apply sgk|apply skk);exact aCl)|(apply sdk;exact aS2))):P:=h k
theorem zs0 {P Q:Prop} (k:Q) (h:Q→P:=by (first|((with_reducible apply sdd);kernel_rfl)|(apply sdk;exact aSd)|((with_reducible apply vlk (α:=Int));exact aAr)|((with_reducible first|apply vlk (α:=Bool)|apply vlk (α:=Nat)|apply vlk (α:=ByteArray)|apply gek (α:=Row)|apply gek (α:=SV)|apply gek (α:=AV));exact rfl)|(exact QFA rfl)|((with_reducible first|apply vlk (α:=List SV)|apply vlk (α:=Ef)|apply vlk (α:=TV)|apply gek (α:=List SV)|apply sgk|apply skk);exact aCl))):P:=h k
theorem zk0 {b c:Bool} {P:Prop} (hb:b=c) (h:¬ (b=c):=by (intro hb;(first|exact aKl hb|(simp only [d1,d2,beq_iff_eq,bne_iff_ne,d3,d4,d5,d6,Int.not_lt,Int.not_le,ge_iff_le,gt_iff_lt,ne_eq,d7] at hb;first|done|(exfalso;omega)));first|done|fail)):P:=absurd hb h
theorem zk1 {b c:Bool} {P:Prop} (hb:b=c) (h:¬ (b=c):=by (intro hb;(first|exact aKl hb|(exfalso;revert hb;simp;done)|(simp only [d1,d2,beq_iff_eq,bne_iff_ne,d3,d4,d5,d6,Int.not_lt,Int.not_le,ge_iff_le,gt_iff_lt,ne_eq,d7] at hb;first|done|(exfalso;omega)|(exfalso;simp_all;first|done|fail)));first|done|fail)):P:=absurd hb h
theorem zk2 {b c:Bool} {P:Prop} (hb:b=c) (h:¬ (b=c):=by (intro hb;(first|exact aK2 hb|(simp only [d1,d2,beq_iff_eq,bne_iff_ne,d3,d4,d5,d6,Int.not_lt,Int.not_le,ge_iff_le,gt_iff_lt,ne_eq,d7] at hb;first|done|(exfalso;omega)));first|done|fail)):P:=absurd hb h
theorem zk3 {b c:Bool} {P:Prop} (hb:b=c) (h:¬ (b=c):=by (intro hb;(first|(exfalso;simp only [decide_eq_true_eq,decide_eq_false_iff_not,beq_iff_eq,beq_eq_false_iff_ne,ne_eq] at hb;omega)|exact aK2 hb|(simp only [d1,d2,beq_iff_eq,bne_iff_ne,d3,d4,d5,d6,Int.not_lt,Int.not_le,ge_iff_le,gt_iff_lt,ne_eq,d7] at hb;first|done|(exfalso;omega)));first|done|fail)):P:=absurd hb h
theorem zk4 {b c:Bool} {P:Prop} (hb:b=c) (h:¬ (b=c):=by (intro hb;(first|(exfalso;simp only [decide_eq_true_eq,decide_eq_false_iff_not,beq_iff_eq,bne_iff_ne,beq_eq_false_iff_ne,bne_eq_false_iff_eq,ne_eq,Int.not_lt,Int.not_le,Classical.not_not] at hb;omega)|(exfalso;simp at hb;first|done|fail));first|done|fail)):P:=absurd hb h
theorem zn0 {b c:Bool} {Q:Prop} (hb:b=c) (h:b=c→Q:=by (intro hb;simp only [d1,d2,beq_iff_eq,bne_iff_ne,d3,d4,d5,d6,Int.not_lt,Int.not_le,ge_iff_le,gt_iff_lt,ne_eq,d7] at hb;exact hb)):Q:=h hb
theorem zn4 {b c:Bool} {Q:Prop} (hb:b=c) (h:b=c→Q:=by (intro hb;(simp only [decide_eq_true_eq,decide_eq_false_iff_not,beq_iff_eq,bne_iff_ne,beq_eq_false_iff_ne,bne_eq_false_iff_eq,ne_eq,Int.not_lt,Int.not_le,Classical.not_not] at hb);exact hb)):Q:=h hb
theorem zi0 {b c:Bool} {P:Prop} (h:¬ (b=c):=by (intro hb;(first|exact aKl hb|(simp only [d1,d2,beq_iff_eq,bne_iff_ne,d3,d4,d5,d6,Int.not_lt,Int.not_le,ge_iff_le,gt_iff_lt,ne_eq,d7] at hb;first|done|(exfalso;omega)));first|done|fail)):b=c→P:=fun e=>absurd e h
theorem zi1 {b c:Bool} {P:Prop} (h:¬ (b=c):=by (intro hb;(first|exact aKl hb|(exfalso;revert hb;simp;done)|(simp only [d1,d2,beq_iff_eq,bne_iff_ne,d3,d4,d5,d6,Int.not_lt,Int.not_le,ge_iff_le,gt_iff_lt,ne_eq,d7] at hb;first|done|(exfalso;omega)|(exfalso;simp_all;first|done|fail)));first|done|fail)):b=c→P:=fun e=>absurd e h
theorem zi2 {b c:Bool} {P:Prop} (h:¬ (b=c):=by (intro hb;(first|exact aK2 hb|(simp only [d1,d2,beq_iff_eq,bne_iff_ne,d3,d4,d5,d6,Int.not_lt,Int.not_le,ge_iff_le,gt_iff_lt,ne_eq,d7] at hb;first|done|(exfalso;omega)));first|done|fail)):b=c→P:=fun e=>absurd e h
theorem zi3 {b c:Bool} {P:Prop} (h:¬ (b=c):=by (intro hb;(first|(exfalso;simp only [decide_eq_true_eq,decide_eq_false_iff_not,beq_iff_eq,beq_eq_false_iff_ne,ne_eq] at hb;omega)|exact aK2 hb|(simp only [d1,d2,beq_iff_eq,bne_iff_ne,d3,d4,d5,d6,Int.not_lt,Int.not_le,ge_iff_le,gt_iff_lt,ne_eq,d7] at hb;first|done|(exfalso;omega)));first|done|fail)):b=c→P:=fun e=>absurd e h
theorem zi4 {b c:Bool} {P:Prop} (h:¬ (b=c):=by (intro hb;(first|(exfalso;simp only [decide_eq_true_eq,decide_eq_false_iff_not,beq_iff_eq,bne_iff_ne,beq_eq_false_iff_ne,bne_eq_false_iff_eq,ne_eq,Int.not_lt,Int.not_le,Classical.not_not] at hb;omega)|(exfalso;simp at hb;first|done|fail));first|done|fail)):b=c→P:=fun e=>absurd e h
theorem zj0 {b c:Bool} {P Q:Prop} (k:Q→P) (h:b=c→Q:=by first|(intro hb;simp only [d1,d2,beq_iff_eq,bne_iff_ne,d3,d4,d5,d6,Int.not_lt,Int.not_le,ge_iff_le,gt_iff_lt,ne_eq,d7] at hb;exact hb)|exact id):b=c→P:=fun e=>k (h e)
theorem zj4 {b c:Bool} {P Q:Prop} (k:Q→P) (h:b=c→Q:=by first|(intro hb;(simp only [decide_eq_true_eq,decide_eq_false_iff_not,beq_iff_eq,bne_iff_ne,beq_eq_false_iff_ne,bne_eq_false_iff_eq,ne_eq,Int.not_lt,Int.not_le,Classical.not_not] at hb);exact hb)|exact id):b=c→P:=fun e=>k (h e)
theorem zv {e z:Int} {K:Int→Prop} (h:e=z) (k:K z):Vl e K:= .mk z h k
theorem zbx {b:Bool} {A B:Prop} (ka:b=true→A) (kb:b=false→B):Br b A B:= .mk ka kb
theorem zgx {b v w:Bool} {A B:Prop} (ka:b=v→A) (kb:b=w→B):Gd b v w A B:= .mk ka kb
theorem zbb {P A B:Prop} (ka:A) (kb:B) (h:A→B→P:=by first|exact zbx|exact zgx):P:=h ka kb
abbrev FN (f:FuncId) (a:List AV) (H:List Row) (Q:Res→Prop):Prop:=Fn Tryz.prog f a H Q
theorem zN {c:Prop} {h:Decidable c} (n:¬c) {α:Sort _} {t e:α}:ite c t e=e:=if_neg n
theorem zP {c:Prop} {h:Decidable c} (n:c) {α:Sort _} {t e:α}:ite c t e=t:=if_pos n
theorem zq0 {P Q:Prop} (k:Q) (h:Q→P:=by (with_reducible apply vlk (α:=List SV));(with_reducible refine QFo ?_);exact rfl):P:=h k
theorem zq1 {P Q:Prop} (k:Q) (h:Q→P:=by apply sgk;first|exact Qa8 CC gR|exact Qa8 C3 gC):P:=h k
theorem zq2 {P Q:Prop} (k:Q) (h:Q→P:=by with_reducible first|exact vlk p1|exact vlk p2|exact vlk p3|exact vlk p4|exact vlk p5):P:=h k
theorem zq3 {P Q:Prop} (k:Q) (h:Q→P:=by (with_reducible apply vlk (α:=List SV));(with_reducible refine QBC ?_);exact rfl):P:=h k
theorem zq4 {P Q:Prop} (k:Q) (h:Q→P:=by (with_reducible apply vlk (α:=List SV));exact fF _ (by first|rfl|assumption)):P:=h k
theorem zq5 {P Q:Prop} (k:Q) (h:Q→P:=by apply sdk;first|exact ⟨jF,wU,rfl,(by show 0+C3.length≤25;omega)⟩|exact ⟨hl2,jC,rfl,(by show 0+C2.length≤CC.length;omega)⟩|(refine ⟨rfl,rfl,rfl,?_⟩;show 16+1≤C2.length;omega)|(show (0:Int)≤A∧(A:Int)<16;omega)|(show (0:Int)≤B∧(B:Int)<16;omega)):P:=h k
theorem zq6 {P Q:Prop} (k:Q) (h:Q→P:=by (with_reducible apply vlk (α:=Nat));with_reducible exact x1):P:=h k
theorem zq7 {P Q:Prop} (k:Q) (h:Q→P:=by (with_reducible apply vlk (α:=List SV));with_reducible exact fC):P:=h k
theorem zq8 {P Q:Prop} (k:Q) (h:Q→P:=by apply sdk;first|exact ⟨gR,qR,rfl,(by show 0+CC.length≤25;omega)⟩|exact ⟨gC,gS,rfl,(by show 0+C3.length≤25;omega)⟩|exact ⟨gR,qR,rfl,(by show 0+CC.length≤C3.length;omega)⟩|exact ⟨gC,gS,rfl,(by show 0+C3.length≤CC.length;omega)⟩|(show (0:Int)≤A∧(A:Int)<16;omega)|(show (0:Int)≤B∧(B:Int)<16;omega)|(refine ⟨rfl,rfl,rfl,?_⟩;show 0+16+1≤CC.length;omega)|(refine ⟨rfl,rfl,rfl,?_⟩;show 0+16+1≤C3.length;omega)):P:=h k
theorem zq9 {P Q:Prop} (k:Q) (h:Q→P:=by apply sdk;first|exact ⟨gC,gS,rfl,(by show 0+C3.length≤25;omega)⟩|(show (0:Int)≤A∧(A:Int)<16;omega)|(show (0:Int)≤B∧(B:Int)<16;omega)|(refine ⟨rfl,rfl,rfl,?_⟩;show 0+16+1≤CC.length;omega)):P:=h k
theorem QAh {P Q:Prop} (k:Q) (h:Q→P:=by apply sdk;first|omega|(show (0:Int)≤_∧_<_;omega)|exact ⟨rfl,rfl,rfl,Nat.le_trans fX (Nat.le_of_ble_eq_true rfl)⟩):P:=h k
theorem QGe {P Q:Prop} (k:Q) (h:Q→P:=by apply sdk;first|exact ⟨gC,gS,rfl,(by show 0+C3.length≤25;omega)⟩|exact ⟨qO,jQ,rfl,(by show 0+C2.length≤CC.length;omega)⟩|(show (0:Int)≤B∧(B:Int)<16;omega)|(refine ⟨rfl,rfl,rfl,?_⟩;show 0+16+1≤C2.length;omega)):P:=h k
theorem Qvp {P Q:Prop} (k:Q) (h:Q→P:=by apply sdk;first|omega|exact ⟨rfl,rfl,rfl,Nat.le_trans fX (Nat.le_of_ble_eq_true rfl)⟩):P:=h k
theorem QDY {P Q:Prop} (k:Q) (h:Q→P:=by (with_reducible apply vlk (α:=List SV));first|exact jB|exact wL _ (by first|rfl|assumption)|exact fF _ (by first|rfl|assumption)):P:=h k
theorem QlY {P Q:Prop} (k:Q) (h:Q→P:=by (with_reducible apply gek (α:=SV));exact g0):P:=h k
theorem Qu7 {P Q:Prop} (k:Q) (h:Q→P:=by apply sdk;exact ⟨gC,gS,rfl,(by show 0+C3.length≤25;omega)⟩):P:=h k
theorem Qfl {P Q:Prop} (k:Q) (h:Q→P:=by apply sgk;exact seg):P:=h k
theorem Qeo {P Q:Prop} (k:Q) (h:Q→P:=by apply sdk;omega):P:=h k
theorem QCn {P Q:Prop} (k:Q) (h:Q→P:=by with_reducible first|exact vlk p1|exact vlk p2|exact vlk p3|exact vlk p4|exact vlk p5|exact vlk p6):P:=h k
theorem Qhr {P Q:Prop} (k:Q) (h:Q→P:=by with_reducible exact vlk q2):P:=h k
theorem QEr {P Q:Prop} (k:Q) (h:Q→P:=by (with_reducible apply vlk (α:=List SV));first|exact WF _ (by first|rfl|assumption)|exact fF _ (by first|rfl|assumption)):P:=h k
theorem QIj {P Q:Prop} (k:Q) (h:Q→P:=by apply sdk;first|exact ⟨gC,gS,rfl,(by show 0+C3.length≤25;omega)⟩|(show (0:Int)≤B∧(B:Int)<16;omega)):P:=h k
theorem Qvr {P Q:Prop} (k:Q) (h:Q→P:=by (with_reducible apply vlk (α:=Nat));with_reducible exact ix1):P:=h k
theorem QIx {P Q:Prop} (k:Q) (h:Q→P:=by apply sdk;first|exact ⟨jF,wU,rfl,(by show 0+C3.length≤25;omega)⟩|(refine ⟨rfl,rfl,rfl,?_⟩;show 16+1≤CC.length;omega)|(show (0:Int)≤A∧(A:Int)<16;omega)|(show (0:Int)≤B∧(B:Int)<16;omega)):P:=h k
theorem Qtj {P Q:Prop} (k:Q) (h:Q→P:=by (with_reducible apply gek (α:=SV));exact uU):P:=h k
theorem QAm {P Q:Prop} (k:Q) (h:Q→P:=by (with_reducible apply vlk (α:=List SV));first|exact wK|exact jB|exact yO _ rfl):P:=h k
theorem Qz2 {P Q:Prop} (k:Q) (h:Q→P:=by apply sdk;exact ⟨rfl,rfl,vY,bnd (by omega) (by decide),by omega⟩):P:=h k
theorem Qsz {P Q:Prop} (k:Q) (h:Q→P:=by with_reducible exact vlk FJ):P:=h k
theorem QvS {P Q:Prop} (k:Q) (h:Q→P:=by (with_reducible apply vlk (α:=Nat));exact ldi a):P:=h k
theorem QH9 {P Q:Prop} (k:Q) (h:Q→P:=by apply sdk;first|exact ⟨gC,gS,rfl,(by show 0+C3.length≤25;omega)⟩|exact ⟨gC,gS,rfl,(by show 0+C3.length≤CC.length;omega)⟩|exact ⟨el,ek,rfl,(by show 0+EE.length≤4;omega)⟩):P:=h k
theorem QxP {P Q:Prop} (k:Q) (h:Q→P:=by apply sgk;first|exact Qa8 C3 jF|exact Qa8 CC hl):P:=h k
theorem QEI {P Q:Prop} (k:Q) (h:Q→P:=by (with_reducible apply vlk (α:=List SV));first|exact jB|exact fF _ (by first|rfl|assumption)):P:=h k
theorem QHm {P Q:Prop} (k:Q) (h:Q→P:=by (with_reducible apply vlk (α:=Nat));first|(with_reducible exact rix ma)|(with_reducible exact rix mb)|(with_reducible exact rix mc)):P:=h k
theorem QDM {P Q:Prop} (k:Q) (h:Q→P:=by (with_reducible apply gek (α:=SV));first|exact rA|exact rB|exact gp):P:=h k
theorem QHt {P Q:Prop} (k:Q) (h:Q→P:=by apply sdk;exact ⟨rfl,rfl,rfl,(by show 0+_≤Z.length;rw [VH];exact Nat.le_refl 49)⟩):P:=h k
theorem QIa {P Q:Prop} (k:Q) (h:Q→P:=by with_reducible exact vlk e1):P:=h k
theorem QwF {P Q:Prop} (k:Q) (h:Q→P:=by with_reducible first|exact vlk qm|exact vlk q4):P:=h k
theorem QEc {P Q:Prop} (k:Q) (h:Q→P:=by apply sdk;first|omega|(refine ⟨rfl,rfl,rfl,?_⟩;show _≤XV.length;simp;omega)):P:=h k
theorem QGN {P Q:Prop} (k:Q) (h:Q→P:=by (with_reducible apply gek (α:=SV));with_reducible first|exact ra|exact rb|exact rc|exact wa|exact wb|exact wc):P:=h k
theorem Qz1 {P Q:Prop} (k:Q) (h:Q→P:=by (with_reducible apply gek (α:=SV));exact gpCC):P:=h k
theorem Qwb {P Q:Prop} (k:Q) (h:Q→P:=by (with_reducible apply vlk (α:=Nat));exact WJ):P:=h k
theorem QHU {P Q:Prop} (k:Q) (h:Q→P:=by with_reducible first|exact vlk q1|exact vlk wT|exact vlk HN|exact vlk JB|exact vlk h8|exact vlk wi4|exact vlk e1|exact vlk e2|exact vlk GM):P:=h k
theorem QEg {P Q:Prop} (k:Q) (h:Q→P:=by with_reducible first|exact vlk qm|exact vlk q4|exact vlk q4m|exact vlk qT):P:=h k
theorem QDr {P Q:Prop} (k:Q) (h:Q→P:=by (with_reducible apply vlk (α:=List SV));with_reducible exact jJ):P:=h k
theorem QDq {P Q:Prop} (k:Q) (h:Q→P:=by (with_reducible apply vlk (α:=List SV));exact jJ):P:=h k
theorem QCv {P Q:Prop} (k:Q) (h:Q→P:=by (with_reducible apply vlk (α:=Bool));with_reducible exact qH):P:=h k
theorem QEf {P Q:Prop} (k:Q) (h:Q→P:=by apply sgk;first|exact Qa8 CC gR|exact Qa8 C3 gC|exact Qa8 EE el):P:=h k
theorem QHS {P Q:Prop} (k:Q) (h:Q→P:=by apply sdk;first|exact ⟨rfl,rfl,yG,bnd (by omega) (by decide),by omega⟩|exact ⟨rfl,rfl,rfl,(by show 0+_≤Z.length;rw [VH];exact Nat.le_refl 49)⟩):P:=h k
theorem QEQ {P Q:Prop} (k:Q) (h:Q→P:=by (with_reducible apply gek (α:=SV));first|exact rA|exact rB|exact gpCC):P:=h k
theorem QGi {P Q:Prop} (k:Q) (h:Q→P:=by (with_reducible apply vlk (α:=List SV));exact QbJ (by rw [VH];rfl)):P:=h k
theorem QIl {P Q:Prop} (k:Q) (h:Q→P:=by (with_reducible apply vlk (α:=Int));first|exact QG7 _ fY|exact QGJ _ _|exact QG8 _ _|exact QFz _ _|exact QbW _ ha|exact QbW _ fY):P:=h k
theorem QJN {P Q:Prop} (k:Q) (h:Q→P:=by apply sdk;first|exact ⟨gC,gS,rfl,(by show 0+C3.length≤25;omega)⟩|exact ⟨gC,gS,rfl,(by show 0+C3.length≤CC.length;omega)⟩):P:=h k
theorem QH2 {P Q:Prop} (k:Q) (h:Q→P:=by apply sdk;refine ⟨rfl,rfl,?_,?_,?_⟩;(focus (show RR.length=R.length*6;omega));(focus (show (R.length+1)*48≤_;omega));(focus omega)):P:=h k
theorem QHP {P Q:Prop} (k:Q) (h:Q→P:=by apply sdk;refine ⟨rfl,rfl,?_,?_,?_⟩;(focus (show RR.length=R.length*4;omega));(focus (show (R.length+1)*12≤_;omega));(focus omega)):P:=h k
theorem Qz8 {P Q:Prop} (k:Q) (h:Q→P:=by (with_reducible apply gek (α:=SV));exact hg):P:=h k
theorem QFg {P Q:Prop} (k:Q) (h:Q→P:=by (with_reducible apply gek (α:=SV));first|exact rA|exact rB|exact rC|exact gp|exact gp2):P:=h k
theorem QIm {P Q:Prop} (k:Q) (h:Q→P:=by (with_reducible apply vlk (α:=List SV));first|exact jB|exact fF _ (by first|rfl|assumption)|exact wL _ (by first|rfl|assumption)):P:=h k
theorem QIE {P Q:Prop} (k:Q) (h:Q→P:=by apply sdk;first|exact ⟨gC,gS,rfl,(by show 0+C3.length≤25;omega)⟩|exact ⟨el,ek,rfl,(by show 0+EE.length≤4;omega)⟩):P:=h k
theorem QEu {P Q:Prop} (k:Q) (h:Q→P:=by with_reducible first|exact vlk qm|exact vlk q4|exact vlk qv):P:=h k
theorem QIi {P Q:Prop} (k:Q) (h:Q→P:=by apply sdk;first|omega|(refine ⟨rfl,rfl,rfl,?_⟩;first|(show _≤X0.length;simp;omega)|(show _≤X1.length;simp;omega))):P:=h k
theorem QHX {P Q:Prop} (k:Q) (h:Q→P:=by apply sdk;refine ⟨rfl,rfl,?_,?_,?_⟩;(focus (show RR.length=i*1;omega));(focus (show (i+1)*4≤_;omega));(focus omega)):P:=h k
theorem Qz6 {P Q:Prop} (k:Q) (h:Q→P:=by with_reducible exact vlk b1):P:=h k
theorem QFe {P Q:Prop} (k:Q) (h:Q→P:=by (with_reducible apply gek (α:=UInt8));exact Qe3 (f:=ln8) (by kernel_rfl) i kk):P:=h k
theorem QBg {P Q:Prop} (k:Q) (h:Q→P:=by apply sdk;exact ⟨rfl,Int.natCast_nonneg _⟩):P:=h k
theorem QEF {P Q:Prop} (k:Q) (h:Q→P:=by (with_reducible apply vlk (α:=Nat));exact Nat.zero_add N):P:=h k
theorem QEe {P Q:Prop} (k:Q) (h:Q→P:=by (with_reducible apply gek (α:=SV));first|exact vT):P:=h k
theorem QEv {P Q:Prop} (k:Q) (h:Q→P:=by (with_reducible apply vlk (α:=List SV));exact fC):P:=h k
theorem QH7 {P Q:Prop} (k:Q) (h:Q→P:=by (with_reducible apply vlk (α:=List SV));first|with_reducible exact hap|exact QbJ (by rw [VH];rfl)):P:=h k
theorem QIs {P Q:Prop} (k:Q) (h:Q→P:=by (with_reducible apply vlk (α:=List SV));first|with_reducible exact a1|with_reducible exact a2|exact a2):P:=h k
theorem QEx {P Q:Prop} (k:Q) (h:Q→P:=by with_reducible first|exact vlk q1|exact vlk q2):P:=h k
theorem QIC {P Q:Prop} (k:Q) (h:Q→P:=by with_reducible first|exact vlk qm|exact vlk qv):P:=h k
theorem QEP {P Q:Prop} (k:Q) (h:Q→P:=by with_reducible first|exact vlk q2|exact vlk q5):P:=h k
theorem QF7 {P Q:Prop} (k:Q) (h:Q→P:=by with_reducible first|exact vlk q1|exact vlk q2|exact vlk q3):P:=h k
theorem QFC {P Q:Prop} (k:Q) (h:Q→P:=by (with_reducible apply gek (α:=SV));first|exact vT|exact VM):P:=h k
theorem QFM {P Q:Prop} (k:Q) (h:Q→P:=by (with_reducible apply vlk (α:=Nat));with_reducible exact rix ma):P:=h k
theorem QH4 {P Q:Prop} (k:Q) (h:Q→P:=by (with_reducible apply gek (α:=SV));first|exact rA|exact rB|exact rC|exact gpCC|exact gpC3):P:=h k
theorem QEq {P Q:Prop} (k:Q) (h:Q→P:=by (with_reducible apply vlk (α:=Nat));exact x1):P:=h k
theorem Qz3 {P Q:Prop} (k:Q) (h:Q→P:=by apply sgk;exact Qa8 C UK):P:=h k
theorem QIn {P Q:Prop} (k:Q) (h:Q→P:=by (with_reducible apply gek (α:=SV));exact rB):P:=h k
theorem QHO {P Q:Prop} (k:Q) (h:Q→P:=by apply sdk;refine ⟨rfl,rfl,rfl,?_,?_⟩<;>first|omega|(show (0+N)*48≤_;omega)):P:=h k
theorem QH3 {P Q:Prop} (k:Q) (h:Q→P:=by (with_reducible apply vlk (α:=List SV));(with_reducible refine GU _ ?_);(focus exact rfl)):P:=h k
theorem QHR {P Q:Prop} (k:Q) (h:Q→P:=by apply sdk;first|exact wD|exact ⟨hl,wD,rfl,by show 0+KN.length≤32;omega⟩):P:=h k
theorem QIb {P Q:Prop} (k:Q) (h:Q→P:=by with_reducible first|exact vlk q1|exact vlk wT|exact vlk HN|exact vlk wi4):P:=h k
theorem QAk {P Q:Prop} (k:Q) (h:Q→P:=by with_reducible exact vlk q1):P:=h k
theorem QIA {P Q:Prop} (k:Q) (h:Q→P:=by with_reducible first|exact vlk q2|exact vlk q3|exact vlk q4|exact vlk q5):P:=h k
theorem QHV {P Q:Prop} (k:Q) (h:Q→P:=by with_reducible first|exact vlk e0|exact vlk e1|exact vlk e2|exact vlk e3):P:=h k
theorem QIh {P Q:Prop} (k:Q) (h:Q→P:=by with_reducible first|exact vlk (QHv a)|exact vlk (QJ7 a)|exact vlk (QI9 a)):P:=h k
theorem QG4 {P Q:Prop} (k:Q) (h:Q→P:=by (with_reducible apply gek (α:=List Int));exact ht):P:=h k
theorem QIt {P Q:Prop} (k:Q) (h:Q→P:=by (with_reducible apply vlk (α:=List SV));with_reducible exact List.append_nil OL):P:=h k
theorem QIy {P Q:Prop} (k:Q) (h:Q→P:=by (with_reducible apply vlk (α:=Nat));with_reducible first|exact x1|exact x2):P:=h k
theorem QIp {P Q:Prop} (k:Q) (h:Q→P:=by (with_reducible apply vlk (α:=Nat));with_reducible first|exact e3|exact e4):P:=h k
theorem QHh {P Q:Prop} (k:Q) (h:Q→P:=by with_reducible first|exact vlk a2|exact vlk an):P:=h k
theorem QFU {P Q:Prop} (k:Q) (h:Q→P:=by with_reducible first|exact vlk s1|exact vlk s2):P:=h k
theorem QE4 {P Q:Prop} (k:Q) (h:Q→P:=by with_reducible first|exact vlk m0|exact vlk b4):P:=h k
theorem QH5 {P Q:Prop} (k:Q) (h:Q→P:=by (with_reducible apply gek (α:=SV));first|exact vT|exact VM|exact KJ):P:=h k
theorem QIo {P Q:Prop} (k:Q) (h:Q→P:=by (with_reducible apply vlk (α:=List SV));first|exact jB|exact yO _ rfl):P:=h k
theorem Qg6 {P:Prop} (h:P:=by unfold exX;rw [zN (by omega),zN (by omega),zN (by omega),zN (by omega),zN (by omega)]):P:=h
theorem QbP {P:Prop} (h:P:=by rw [Qb4 (by omega) (by omega)];omega):P:=h
theorem QiB {P:Prop} (h:P:=by unfold exP;rw [zN (by omega),zN (by omega),zN (by omega),zN (by omega),zN (by omega)]):P:=h
theorem Qkd {P:Prop} (h:P:=by unfold exE;rw [zN (by omega),zN (by omega),zN (by omega),zN (by omega),zN (by omega)]):P:=h
theorem Qci {P:Prop} (h:P:=by unfold exC;rw [zN (by omega),zN (by omega),zN (by omega)]):P:=h
theorem QAA {P:Prop} (h:P:=by first|exact QcB (Qcx (QaL rfl))|exact QcB (Qcx (Qpv rfl))|exact QcB (Qcx (Qcz rfl))):P:=h
theorem QAl {P:Prop} (h:P:=by (try (conv=>whnf));first|(apply Fin.mv (m:= [(0,some 0),(1,some 1),(2,some 2),(3,some 3),(4,some 4),(5,some 1),(6,some 2),(7,some 3),(8,some 4)]);(focus exact rfl);(all_goals ((try (show QcK _ _ _ [] _));first|exact aFi|exact rfl)))):P:=h
theorem Qfz {P:Prop} (h:P:=by (try (conv=>whnf));first|(exact Qb8)|(exfalso;simp only [decide_eq_true_eq,decide_eq_false_iff_not,beq_iff_eq,beq_eq_false_iff_ne,ne_eq] at *;omega)):P:=h
theorem Qrv {P:Prop} (h:P:=by (try (conv=>whnf));first|(exact Qb8)):P:=h
theorem QB9 {P:Prop} (h:P:=by (try (conv=>whnf));first|(apply Fin.mv (m:= [(0,some 0),(1,some 1),(2,some 2),(3,some 3),(4,some 4),(5,some 1),(6,some 2),(7,some 3),(8,some 4)]);(focus exact rfl);(all_goals ((try (show QcK _ _ _ [] _));first|exact aFi|exact rfl)))|(exfalso;simp at hb;omega)):P:=h
theorem Qw7 {P:Prop} (h:P:=by (try (conv=>whnf));first|(exfalso;simp at hb;omega)|(apply Fin.mv (m:= [(0,some 0),(1,some 1),(2,some 2),(3,some 3),(4,some 4),(5,some 1),(6,some 2),(7,some 3),(8,some 4)]);(focus exact rfl);(all_goals ((try (show QcK _ _ _ [] _));first|exact aFi|exact rfl)))):P:=h
theorem QxW {P:Prop} (h:P:=by (try (conv=>whnf));first|(apply Fin.mv (m:= [(0,some 0),(1,some 1),(2,some 2),(3,some 3),(4,some 4),(5,some 132160),(6,some 132161),(7,some 132162),(8,some 132163)]);(focus exact rfl);(all_goals ((try (show QcK _ _ _ [] _));first|exact aFi|exact rfl)))):P:=h
theorem Qw9 {P:Prop} (h:P:=by (try (conv=>whnf));first|(exact QdV)|(exfalso;simp only [decide_eq_true_eq,decide_eq_false_iff_not,beq_iff_eq,beq_eq_false_iff_ne,ne_eq] at *;omega)):P:=h
theorem QC8 {P:Prop} (h:P:=by rw [Int.tdiv_eq_ediv_of_nonneg (by omega)];rfl):P:=h
theorem Qtt {P:Prop} (h:P:=by (try (conv=>whnf));first|(refine Qmz vD ?_;(apply Fin.mk (m:= [(0,some 0),(1,some 3),(2,some 4)]);(focus exact rfl);(all_goals ((try (show HlS _ _ [] _));first|(exact aFi)|exact rfl))))):P:=h
theorem QfE {P:Prop} (h:P:=by (try (conv=>whnf));first|(exact QbA)):P:=h
theorem QDg {P:Prop} (h:P:=by (try (conv=>whnf));first|(apply Fin.mv (m:= [(0,some 0),(1,some 1),(2,some 2),(3,some 3),(4,some 4),(5,some 327808),(6,some 327809),(7,some 327810),(8,some 327811)]);(focus exact rfl);(all_goals ((try (show QcK _ _ _ [] _));first|exact aFi|exact rfl)))):P:=h
theorem QCS {P:Prop} (h:P:=by (try (conv=>whnf));first|(apply Fin.mv (m:= [(0,some 0),(1,some 1),(2,some 2),(3,some 3),(4,some 4),(5,some 5),(6,some 6),(7,some 7),(8,some 8),(9,some 9)]);(focus exact rfl);(all_goals ((try (show QcK _ _ _ [] _));first|exact aFi|exact rfl)))):P:=h
theorem QGR {P:Prop} (h:P:=by rw [QeS (by omega) (by omega)];omega):P:=h
theorem Qd9 {P:Prop} (h:P:=by (try (conv=>whnf));first|(apply Fin.mv (m:= [(0,some 0),(1,some 1),(2,some 2),(3,some 3),(4,some 4),(5,some 5),(6,some 6),(7,some 7),(8,some 8)]);(focus exact rfl);(all_goals ((try (show QcK _ _ _ [] _));first|exact aFi|exact rfl)))):P:=h
theorem Qe5 {P:Prop} (h:P:=by rw [QzR (by omega) (by omega)];omega):P:=h
theorem QFS {P:Prop} (h:P:=by (try (conv=>whnf));first|(exfalso;omega)|(exfalso;simp at hb;omega)|(exact zf_)):P:=h
theorem QcQ {P:Prop} (h:P:=by unfold mpg;split<;>omega):P:=h
theorem QHa {P:Prop} (h:P:=by first|exact QcB (Qcx (QaL rfl))|exact QcB (Qcx (Qcz rfl))):P:=h
theorem Qf9 {P:Prop} (h:P:=by (try (conv=>whnf));first|(apply Fin.mk (m:= [(0,some 0),(1,some 1),(2,some 2),(3,some 5),(4,some 6)]);(focus exact rfl);(all_goals ((try (show HlS _ _ [] _));first|(exact aFi)|exact rfl)))):P:=h
theorem QHb {P:Prop} (h:P:=by rw [Int.tmod_eq_emod_of_nonneg (by omega)];rfl):P:=h
theorem Qd8 {P:Prop} (h:P:=by (try (conv=>whnf));first|exact QbV rfl gL rfl rfl):P:=h
theorem Qpf {P:Prop} (h:P:=by (try (conv=>whnf));first|(refine QcP ?_ ?_;(focus (exact zf_));rw [← hB];first|(rw [Bool.eq_iff_iff];simp;first|done|fail)|(rw [Bool.eq_iff_iff];simp;omega)|(rw [Bool.eq_iff_iff];simp;grind))):P:=h
theorem QFZ {P:Prop} (h:P:=by unfold exX;rw [zN (by omega),zN (by omega),zN (by omega),zP (by omega)]):P:=h
theorem Qjf {P:Prop} (h:P:=by rw [Qmi (by omega),QeS (by omega) (by omega)];omega):P:=h
theorem Qg2 {P:Prop} (h:P:=by first|exact QcB (Qcx (QaL rfl))|exact QcB (Qcx (QeJ rfl))|exact QcB (Qcx (Qcz rfl))):P:=h
theorem QFw {P:Prop} (h:P:=by (try (conv=>whnf));first|(exact QdV)):P:=h
theorem Qud {P:Prop} (h:P:=by (try (conv=>whnf));first|(apply Fin.mk (m:= [(0,some 0),(1,some 3),(2,some 4)]);(focus exact rfl);(all_goals ((try (show HlS _ _ [] _));first|(exact aFi)|exact rfl)))):P:=h
theorem Qm3 {P:Prop} (h:P:=by rw [Qb4 (by omega) (by omega)]):P:=h
theorem QzN {P:Prop} (h:P:=by (try (conv=>whnf));first|(refine hB _ ?_;(exact zwV [(0,some 0),(1,some 1),(2,some 2),(3,some 3),(4,some 4),(5,some 5),(6,some 6),(7,some 7),(8,some 8)]))):P:=h
theorem QgD {P:Prop} (h:P:=by unfold szO;split;exact .inr rfl;exact .inl rfl):P:=h
theorem QBx {P:Prop} (h:P:=by (try (conv=>whnf));first|(exact zf_)):P:=h
theorem QgY {P:Prop} (h:P:=by show 0+((i:Nat):Int).toNat * 4=_;omega):P:=h
theorem QCW {P:Prop} (h:P:=by (try (conv=>whnf));first|(exact QbA)|(exfalso;simp only [decide_eq_true_eq,decide_eq_false_iff_not,beq_iff_eq,beq_eq_false_iff_ne,ne_eq] at *;omega)):P:=h
theorem QnO {P:Prop} (h:P:=by rw [Bool.eq_iff_iff];simp only [decide_eq_true_eq,beq_iff_eq];omega):P:=h
theorem Qjs {P:Prop} (h:P:=by rw [List.length_set];exact hE.M.x):P:=h
theorem QnL {P:Prop} (h:P:=by rw [← ZA];exact decide_eq_false (by omega)):P:=h
theorem QG1 {P:Prop} (h:P:=by first|exact QcB (Qcx (QaL rfl))|exact QcB (Qcx (Qcz rfl))|exact QcB (Qcx (Qwd rfl))):P:=h
theorem QtP {P:Prop} (h:P:=by unfold QaE;rw [zN vN]):P:=h
theorem QjN {P:Prop} (h:P:=by unfold QaE;rw [zP vN]):P:=h
theorem QoV {P:Prop} (h:P:=by unfold exX;rw [zN (by omega),zN (by omega),zN (by omega),zN (by omega),zP (by omega)]):P:=h
theorem QBh {P:Prop} (h:P:=by unfold exP;rw [zN (by omega),zN (by omega),zN (by omega),zN (by omega),zP (by omega)]):P:=h
theorem QjZ {P:Prop} (h:P:=by unfold exE;rw [zN (by omega),zN (by omega),zN (by omega),zN (by omega),zP (by omega)]):P:=h
theorem QjD {P:Prop} (h:P:=by rw [QzR (by omega) (by omega)]):P:=h
theorem QCI {P:Prop} (h:P:=by (try (conv=>whnf));first|(refine hN _ ?_;(exact zwL [(0,some 0),(1,some 1),(2,some 2),(3,some 3),(4,some 131200)]))):P:=h
theorem QDa {P:Prop} (h:P:=by unfold rsK;rw [eO,zN (c:=QdQ ac=false∨szB sz=false) (by rw [k1,k2];simp),zP gZ]):P:=h
theorem QBs {P:Prop} (h:P:=by (try (conv=>whnf));first|(refine QcP ?_ ?_;(focus (exact zf_));unfold Qd0;rw [Bool.eq_iff_iff];simp;try omega)):P:=h
theorem Qlv {P:Prop} (h:P:=by unfold Qba;rw [QeS (by omega) (by omega)];omega):P:=h
theorem QCb {P:Prop} (h:P:=by (try (conv=>whnf));first|(exact Qb8)|(exfalso;simp at hb;omega)):P:=h
theorem QBN {P:Prop} (h:P:=by (try (conv=>whnf));first|(exfalso;simp at hb;omega)|(exact Qb8)):P:=h
theorem QFt {P:Prop} (h:P:=by simp only [Int.toNat_natCast,IntKind.bits];omega):P:=h
theorem QuW {P:Prop} (h:P:=by rw [Int.tmod_eq_emod_of_nonneg (by omega)];omega):P:=h
theorem Qun {P:Prop} (h:P:=by show 0+((j:Nat):Int).toNat * 6=_;omega):P:=h
theorem QDL {P:Prop} (h:P:=by show 0+(((Qba r va:Nat):Int) / 4).toNat * 1=_;omega):P:=h
theorem QuM {P:Prop} (h:P:=by unfold exP;rw [zN (by omega),zN (by omega),zN (by omega),zP (by omega)]):P:=h
theorem Qur {P:Prop} (h:P:=by unfold exE;rw [zN (by omega),zN (by omega),zN (by omega),zP (by omega)]):P:=h
theorem QtO {P:Prop} (h:P:=by rw [← hN];exact (List.getElem?_eq_some_iff.1 he).1):P:=h
theorem Qxf {P:Prop} (h:P:=by unfold exP;rw [zP ho.1,ho.2];rfl):P:=h
theorem QAH {P:Prop} (h:P:=by rw [k.1,Qb4 (by omega) (by omega)]):P:=h
theorem QCF {P:Prop} (h:P:=by show 0+((i:Nat):Int).toNat * 6=_;omega):P:=h
theorem QzG {P:Prop} (h:P:=by show 0+((i:Nat):Int).toNat * 1=_;omega):P:=h
theorem Qub {P:Prop} (h:P:=by show 0+((i:Nat):Int).toNat * 3=_;omega):P:=h
theorem QtR {P:Prop} (h:P:=by show 0+((j:Nat):Int).toNat * 1=_;omega):P:=h
theorem QyE {P:Prop} (h:P:=by rw [dv2];exact QeS (by omega) (by omega)):P:=h
theorem QKu {P:Prop} (h:P:=by (repeat' ((conv=>whnf);first|exact zi0|(refine zj0 ?_;intro hb)|refine QIa ?_|(refine Qae (f:=57) cp [⟨0,0⟩] [(0,⟨false,1,XX⟩)] rfl ⟨rfl,trivial⟩ ⟨rfl,Qar gL,trivial⟩ ⟨rfl,Qbq⟩ ?_)|refine zs0 ?_|refine zbb ?_ ?_));all_goals exact Qb8):P:=h
theorem QKh {P:Prop} (h:P:=by (repeat' ((conv=>whnf);first|exact zi2|(refine zj0 ?_;intro hb)|refine zse ?_|refine zbb ?_ ?_));all_goals exact Qrv):P:=h
theorem QKf {P:Prop} (h:P:=by (repeat' ((conv=>whnf);first|exact zi2|(refine zj0 ?_;intro hb)|refine zse ?_|refine zbb ?_ ?_));all_goals exact zF_):P:=h
theorem QKg {P:Prop} (h:P:=by (repeat' ((conv=>whnf);first|exact zi2|(refine zj0 ?_;intro hb)|(refine QaD cb ?_)|(refine zpu cm ?_)|(refine zpu cl ?_)|(refine Qae cw [⟨131200,0⟩,⟨131136,0⟩,⟨131137,0⟩] [(131200,⟨true,1,[.sl 131136 0 N,.sl 131137 0 N]⟩),(131136,⟨true,1,CK⟩),(131137,⟨true,3,CV⟩)] rfl ⟨rfl,rfl,rfl,trivial⟩ ⟨rfl,Qmb rfl,rfl,Qar (by assumption),rfl,Qar (by assumption),trivial⟩ ⟨rfl,Qbq⟩ ?_)|(apply Sk.mk; · exact sk)|(apply Sd.mk; · first|omega)|refine QDq ?_|refine zse ?_|refine zbb ?_ ?_));all_goals exact QbA):P:=h
theorem QKi {P:Prop} (h:P:=by (repeat' ((conv=>whnf);first|exact zi2|(refine zj0 ?_;intro hb)|refine zse ?_|refine zbb ?_ ?_));all_goals exact QBx):P:=h
theorem QfF {P:Prop} (h:P:=by (repeat' ((conv=>whnf);first|exact zi2|(refine zj0 ?_;intro hb)|(refine QaD q1 ?_)|refine zse ?_|refine zbb ?_ ?_));all_goals exact Qrv):P:=h
theorem QeY {P:Prop} (h:P:=by (repeat' ((conv=>whnf);first|exact zi3|(refine zj0 ?_;intro hb)|refine zq0 ?_|refine zq3 ?_|refine Qsz ?_|(refine QaD hc ?_)|(refine QaD q0 ?_)|(refine QaD q1 ?_)|(refine QaD q2 ?_)|refine zse ?_|refine zbb ?_ ?_));all_goals exact QfE):P:=h
theorem QCk {P:Prop} (h:P:=by (repeat' ((conv=>whnf);first|exact zi2|(refine zj0 ?_;intro hb)|refine zse ?_|refine zbb ?_ ?_));all_goals exact QFS):P:=h
theorem QiM {P:Prop} (h:P:=by (repeat' ((conv=>whnf);first|exact zi2|(refine zj0 ?_;intro hb)|refine Qu7 ?_|refine zq4 ?_|refine zq1 ?_|refine Qz1 ?_|(refine Qg3 hr ?_)|(refine QaD qJ ?_)|(refine zpu jO ?_)|(refine zpu gH ?_)|(refine Qg3 jN ?_)|refine zse ?_|refine zbb ?_ ?_));all_goals exact QfL):P:=h
theorem QmS {P:Prop} (h:P:=by (repeat' ((conv=>whnf);first|exact zi3|(refine zj0 ?_;intro hb)|refine Qz6 ?_|(refine QaD q0 ?_)|(refine QaD l2 ?_)|(refine zpu d2 ?_)|refine zse ?_|refine zbb ?_ ?_));all_goals exact QfL):P:=h
theorem QkL {P:Prop} (h:P:=by (repeat' ((conv=>whnf);first|exact zi3|(refine zj0 ?_;intro hb)|(refine QaD q0 ?_)|(refine Qg3 q1 ?_)|refine zq3 ?_|refine Qsz ?_|refine zse ?_|refine zbb ?_ ?_));all_goals exact QFw):P:=h
theorem Qxh {P:Prop} (h:P:=by (repeat' ((conv=>whnf);first|exact zi2|(refine zj0 ?_;intro hb)|refine zse ?_|refine zbb ?_ ?_));all_goals exact Qfz):P:=h
theorem Qn2 {P:Prop} (h:P:=by (repeat' ((conv=>whnf);first|exact zi2|(refine zj0 ?_;intro hb)|(refine zpu hg ?_)|refine zse ?_|refine zbb ?_ ?_));all_goals exact zF_):P:=h
theorem QBj {P:Prop} (h:P:=by (repeat' ((conv=>whnf);first|exact zi2|(refine zj0 ?_;intro hb)|refine QIC ?_|refine QIj ?_|refine zq4 ?_|refine zq1 ?_|refine QIn ?_|(refine QaD hr ?_)|(refine zpu VI ?_)|(refine zpu fW ?_)|refine zse ?_|refine zbb ?_ ?_));all_goals exact Qe8):P:=h
theorem QyH {P:Prop} (h:P:=by (repeat' ((conv=>whnf);first|exact zi2|(refine zj0 ?_;intro hb)|refine QJN ?_|refine zq4 ?_|refine zq1 ?_|(refine QaD hf ?_)|(refine zpu jO ?_)|(refine zpu gH ?_)|(refine QaD jN ?_)|refine zse ?_|refine zbb ?_ ?_));all_goals exact Qe8):P:=h
theorem QyL {P:Prop} (h:P:=by (repeat' ((conv=>whnf);first|exact zi2|(refine zj0 ?_;intro hb)|refine QIC ?_|refine QIj ?_|refine zq4 ?_|refine zq1 ?_|refine QIn ?_|(refine Qg3 hr ?_)|(refine zpu fW ?_)|refine zse ?_|refine zbb ?_ ?_));all_goals exact QfL):P:=h
theorem Qpp {P:Prop} (h:P:=by (repeat' ((conv=>whnf);first|exact zi2|(refine zj0 ?_;intro hb)|(with_reducible first|refine zv cv ?_|refine zv cf ?_)|(refine QaD q1 ?_)|(refine QaD q2 ?_)|(refine zpu q3 ?_)|refine zse ?_|refine zbb ?_ ?_));all_goals exact QCW):P:=h
theorem Qp2 {P:Prop} (h:P:=by (repeat' ((conv=>whnf);first|exact zi2|(refine zj0 ?_;intro hb)|refine zq0 ?_|(refine zpu q3 ?_)|refine zse ?_|refine zbb ?_ ?_));all_goals exact Qrv):P:=h
theorem Qt0 {P:Prop} (h:P:=by (repeat' ((conv=>whnf);first|exact zi3|(refine zj0 ?_;intro hb)|refine Qz6 ?_|(refine QaD q0 ?_)|(refine QaD l2 ?_)|(refine zpu z2 ?_)|refine zse ?_|refine zbb ?_ ?_));all_goals exact QfL):P:=h
theorem QCY {P:Prop} (h:P:=by (repeat' ((conv=>whnf);first|exact zi2|(refine zj0 ?_;intro hb)|(with_reducible refine zv cf ?_)|(refine QaD q1 ?_)|(refine QaD q2 ?_)|refine zse ?_|refine zbb ?_ ?_));all_goals exact QfE):P:=h
theorem QCG {P:Prop} (h:P:=by (repeat' ((conv=>whnf);first|exact zi2|(refine zj0 ?_;intro hb)|refine zq0 ?_|refine zse ?_|refine zbb ?_ ?_));all_goals exact QBN):P:=h
theorem QDT {P:Prop} (h:P:=by (repeat' ((conv=>whnf);first|exact zi2|(refine zj0 ?_;intro hb)|(with_reducible refine zv b2 ?_)|(refine QaD he ?_)|refine zse ?_|refine zbb ?_ ?_));all_goals exact QfL):P:=h
theorem QDF {P:Prop} (h:P:=by (repeat' ((conv=>whnf);first|exact zi0|(refine zj0 ?_;intro hb)|refine zs0 ?_|refine zbb ?_ ?_));all_goals exact QdV):P:=h
theorem Qx3 {P:Prop} (h:P:=by (repeat' ((conv=>whnf);first|exact zi2|(refine zj0 ?_;intro hb)|refine zse ?_|refine zbb ?_ ?_));all_goals exact QFw):P:=h
theorem QtZ {P:Prop} (h:P:=by (repeat' ((conv=>whnf);first|exact zi2|(refine zj0 ?_;intro hb)|refine zse ?_|refine zbb ?_ ?_));all_goals exact QdV):P:=h
theorem QCo {P:Prop} (h:P:=by (repeat' ((conv=>whnf);first|exact zi2|(refine zj0 ?_;intro hb)|(with_reducible refine zv qs ?_)|refine zse ?_|refine zbb ?_ ?_));all_goals exact zF_):P:=h
theorem QyR {P:Prop} (h:P:=by (repeat' ((conv=>whnf);first|exact zi4|(refine zj4 ?_;intro hb)|refine QGi ?_|refine QHt ?_|refine zse ?_|refine zbb ?_ ?_));all_goals exact Qtt):P:=h
theorem QC4 {P:Prop} (h:P:=by (repeat' ((conv=>whnf);first|exact zi3|(refine zj0 ?_;intro hb)|(refine QaD q0 ?_)|refine zse ?_|refine zbb ?_ ?_));all_goals exact QfL):P:=h
theorem QyS {P:Prop} (h:P:=by (repeat' ((conv=>whnf);first|exact zi2|(refine zj0 ?_;intro hb)|(refine zpu qP ?_)|refine zse ?_|refine zbb ?_ ?_));all_goals exact Qrv):P:=h
theorem Qxd {P:Prop} (h:P:=by (repeat' ((conv=>whnf);first|exact zi3|(refine zj0 ?_;intro hb)|(refine zpu q3 ?_)|refine zse ?_|refine zbb ?_ ?_));all_goals exact QFw):P:=h
theorem QxY {P:Prop} (h:P:=by (repeat' ((conv=>whnf);first|exact zi2|(refine zj0 ?_;intro hb)|refine zq0 ?_|refine zse ?_|refine zbb ?_ ?_));all_goals exact Qrv):P:=h
theorem QCu {P:Prop} (h:P:=by (repeat' ((conv=>whnf);first|exact zi0|(refine zj0 ?_;intro hb)|refine zs0 ?_|refine zbb ?_ ?_));all_goals exact Qb8):P:=h
theorem QBQ {P:Prop} (h:P:=by (repeat' ((conv=>whnf);first|exact zi0|(refine zj0 ?_;intro hb)|refine zs0 ?_|refine zbb ?_ ?_));all_goals exact Qf9):P:=h
theorem QC2 {P:Prop} (h:P:=by (repeat' ((conv=>whnf);first|exact zi0|(refine zj0 ?_;intro hb)|refine zst ?_|refine zbb ?_ ?_));all_goals exact QdV):P:=h
theorem QAy {P:Prop} (h:P:=by (repeat' ((conv=>whnf);first|exact zi2|(refine zj0 ?_;intro hb)|refine zse ?_|refine zbb ?_ ?_));all_goals exact QBs):P:=h
theorem QBT {P:Prop} (h:P:=by (repeat' ((conv=>whnf);first|exact zi2|(refine zj0 ?_;intro hb)|refine zse ?_|refine zbb ?_ ?_));all_goals exact Qpf):P:=h
theorem QCP {P:Prop} (h:P:=by (repeat' ((conv=>whnf);first|exact zi2|(refine zj0 ?_;intro hb)|refine zse ?_|refine zbb ?_ ?_));all_goals exact zf_):P:=h
theorem QCd {P:Prop} (h:P:=by (repeat' ((conv=>whnf);first|exact zi3|(refine zj0 ?_;intro hb)|refine zse ?_|refine zbb ?_ ?_));all_goals exact QCS):P:=h
theorem QBS {P:Prop} (h:P:=by (repeat' ((conv=>whnf);first|exact zi3|(refine zj0 ?_;intro hb)|refine zse ?_|refine zbb ?_ ?_));all_goals exact Qd9):P:=h
theorem Qoa {P:Prop} (h:P:=by
  obtain ⟨fX,fV,qN,qG⟩:=hm;have p1:IntKind.i64.wrap (m.n-1)=m.n-1:=Qb4 (by omega) (by omega);have p2:=Qat (m.n-1);have p3:=Qat (4*(w32 (m.n-1):Nat));have p4:=Qb1 E.M.pc m.n;have p5:=Qat ((lpc E.M.pc m.n:Nat)+4);have p6:=Qat ((lpc E.M.pc m.n:Nat)+(m.k:Nat));have KJ:=Qbr E hE 1 2 3 4 m.a fX;have vT:=Qbr E hE 1 2 3 4 m.b fV;have ctk:=QpM m.o (E.M.x.getD m.a 0) (E.M.x.getD m.b 0) (Qab hE.M.xr m.a) (Qab hE.M.xr m.b);rw [jS] at ctk;clear jS;have qE:QaE E.M.x 0 (0)=E.M.x:=by unfold QaE;rw [zP rfl]
  unfold fnE;rw [qE];clear qE;generalize w32 ((lpc E.M.pc m.n:Nat)+(m.k:Nat))=nxk,E.M.x.getD m.a 0=xa,E.M.x.getD m.b 0=xb at *;generalize lpc E.M.pc m.n=lp,w32 (4*(w32 (m.n-1):Nat))=p44 at *;generalize w32 (m.n-1)=p11,w32 ((lp:Int)+4)=nx4 at *;obtain ⟨_,ma,mb,mc,mk,_⟩:=m;dsimp only [Mi.C] at *;subst fO;have fJ:=Qaa E.M.m;have gY:=Qaf E.T;have fH:=Qad E.B;have qK:=(QaA hE.o).2.1;obtain ⟨hM,hT,_,hB,_,ho,_,_⟩:=hE;obtain ⟨M,T,B,o,_,s⟩:=E;dsimp only [Eg.H,Eg.R,Eg.Rk,Eg.C,wrt] at *;obtain ⟨hx,hc,hY,gA,gH,gB,gI,gE,gD,gF⟩:=hM;obtain ⟨x,pc,_,m,_,_,_,_,d,n⟩:=M;dsimp only at *;obtain ⟨_,_,_,_,_,_,_,_,_,_,_,_,_,_,_,_,rfl⟩:=Qav hx;obtain ⟨_,_,_,_,_,_,_,_,rfl⟩:=QaM hc;cases d;cases n;dsimp only [Mc.C,Mc.D,Dk.C,Nk.C,Dk.ok,Nk.ok] at *
  try dsimp only [cR,Mc.C,Mc.D,Dk.C,Nk.C] at *
  try simp only [Qah,List.cons_append,List.nil_append,List.getD_cons_succ,List.getD_cons_zero] at *
  generalize gO:wsv m=XX,hX3:bks B=BB,hX4:OLs o=OO,gJ:m.length=nn,gM:B.length=bn,gP:o.length=on,gU:tes T=TT,htn:T.length=tn at *;clear gO gU hX3 hX4 gJ gM gP htn hT hB ho hY gA gH gB gI gE gD gF;refine fnW Tryz.func85 ?_;(repeat' ((conv=>whnf);first|exact zi2|(refine zj0 ?_;intro hb)|refine QCn ?_|refine QHm ?_|((with_reducible apply Ge.mk (α:=SV)); · first|exact KJ|exact vT)|refine QAh ?_|(refine zpu ctk ?_)|refine zse ?_|refine zbb ?_ ?_));all_goals (conv=>whnf)
  all_goals first|(exfalso;simp at hb;omega)|(apply Fin.mv (m:= [(0,some 0),(1,some 1),(2,some 2),(3,some 3),(4,some 4),(5,some 1),(6,some 2),(7,some 3),(8,some 4)]);(focus exact rfl);(all_goals ((try (show QcK _ _ _ [] _));first|exact aFi|exact rfl)))):P:=h
theorem QBt {P:Prop} (h:P:=by
  rw [eX,eP,eC,eE];have rA:=Qaw x pc c A hx hA;have rB:=Qaw x pc c B hx hB;have rC:=Qaw x pc c C hx hC;have qm:IntKind.u32.wrap m=((w32 m:Nat):Int):=Qat m;have q4:IntKind.u32.wrap ((pc:Int)+4)=((w32 ((pc:Int)+4):Nat):Int):=Qat _;have q4m:IntKind.u32.wrap (4*((w32 m:Nat):Int))=((w32 (4*(w32 m:Nat)):Nat):Int):=Qat _;have xA:=Qab hY A;have xB:=Qab hY B;have lm:=QaH m;have gR:=Qap (x) (pc) (c) hx hc;have jI:=Qal (x) (pc) (c);have qR:=Qag (x) (pc) (c);have qW:=Qai gR;have gpCC:=QaB (x) (pc) (c) hx;obtain ⟨PP,qV⟩:∃ PP,w32 ((pc:Int)+4)=PP:=⟨_,rfl⟩;rw [qV];rw [qV] at q4;have jB:=QaR x pc c PP hx;have gC:=Qap (x) (PP) (c) hx hc;have qA:=Qal (x) (PP) (c);have gS:=Qag (x) (PP) (c);have fF:=Qai gC;have gpC3:=QaB (x) (PP) (c) hx;generalize Qay (x) (PP) (c)=C3 at *;clear eX eP eC eE;generalize x.getD A 0=vA,x.getD B 0=vB,x.getD C 0=vC,Qay (x) (pc) (c)=CC,w32 (4*((w32 m:Nat):Int))=m4 at *;generalize w32 m=mm,w32 ((pc:Int)+4)=p4 at *;refine fnW Tryz.func91 ?_;(repeat' ((conv=>whnf);first|exact zi2|(refine zj0 ?_;intro hb)|(with_reducible first|refine zv qm ?_|refine zv q4 ?_|refine zv q4m ?_)|refine zq8 ?_|((with_reducible apply Vl.mk (α:=List SV)); · first|exact jB|exact qW _ (by first|rfl|assumption)|exact fF _ (by first|rfl|assumption))|refine zq1 ?_|refine QH4 ?_|refine zse ?_|refine zbb ?_ ?_));all_goals (conv=>whnf)
  all_goals exact zF_):P:=h
theorem QDV {P:Prop} (h:P:=by
  rw [eX,eP,eC,eE];have rA:=Qaw x pc c A hx hA;have rB:=Qaw x pc c B hx hB;have rC:=Qaw x pc c C hx hC;have gp:=QaB x pc c hx;have qm:IntKind.u32.wrap m=((w32 m:Nat):Int):=Qat m;have q4:IntKind.u32.wrap ((pc:Int)+4)=((w32 ((pc:Int)+4):Nat):Int):=Qat _;have xA:=Qab hY A;have xB:=Qab hY B;have xC:=Qab hY C;have lm:=QaH m;have hl:=Qap x pc c hx hc;have hs:=Qal x pc c;have hk:=Qag x pc c;have wX:=Qai hl;obtain ⟨PP,qV⟩:∃ PP,w32 ((pc:Int)+4)=PP:=⟨_,rfl⟩;rw [qV];rw [qV] at q4;have jB:=QaR x pc c PP hx;have jF:=Qap x PP c hx hc;have fH:=Qal x PP c;have wU:=Qag x PP c;have yO:=Qai jF;generalize Qay x PP c=C3 at *;clear eX eP eC eE hY gA hm;generalize x.getD A 0=vA,x.getD B 0=vB,x.getD C 0=vC at *;skip;generalize Qay x pc c=CC,w32 m=mm,w32 ((pc:Int)+4)=p4 at *;refine fnW Tryz.func201 ?_;(repeat' ((conv=>whnf);first|exact zi2|(refine zj0 ?_;intro hb)|refine QFg ?_|refine QwF ?_|((with_reducible apply Vl.mk (α:=List SV)); · first|exact jB|exact wX _ rfl|exact yO _ rfl)|refine QxP ?_|(apply Sd.mk; · first|exact ⟨hl,hk,rfl,(by show 0+CC.length≤25;omega)⟩|exact ⟨jF,wU,rfl,(by show 0+C3.length≤25;omega)⟩|(refine ⟨rfl,rfl,rfl,?_⟩;show 16+1≤CC.length;omega)|(refine ⟨rfl,rfl,rfl,?_⟩;show 0+16+1≤CC.length;omega)|(show (0:Int)≤A∧(A:Int)<16;omega)|(show (0:Int)≤B∧(B:Int)<16;omega)|(show (0:Int)≤C∧(C:Int)<16;omega))|(refine And.intro rfl ?_)|refine zse ?_|refine zbb ?_ ?_));all_goals (conv=>whnf)
  all_goals exact zF_):P:=h
theorem QHY {P:Prop} (h:P:=by
  have gN:=Qgw x pc c A V hx hc hA;have jB:=QaR (QaE x A V) pc c PP (by rw [Qaz];exact hx);have qO:=Qap (QaE x A V) (pc) (c) (by rw [Qaz];exact hx) hc;have uL:=Qal (QaE x A V) (pc) (c);have jQ:=Qag (QaE x A V) (pc) (c);have wL:=Qai qO;have gpC2:=QaB (QaE x A V) (pc) (c) (by rw [Qaz];exact hx);have gC:=Qap (QaE x A V) (PP) (c) (by rw [Qaz];exact hx) hc;have qA:=Qal (QaE x A V) (PP) (c);have gS:=Qag (QaE x A V) (PP) (c);have fF:=Qai gC;have gpC3:=QaB (QaE x A V) (PP) (c) (by rw [Qaz];exact hx);generalize Qay (QaE x A V) (PP) (c)=C3,Qay (QaE x A V) (pc) (c)=C2 at *;clear eX eP eC;generalize x.getD A 0=vA,x.getD B 0=vB,x.getD C 0=vC,Qay (x) (pc) (c)=CC,w32 (4*((w32 m:Nat):Int))=m4 at *;generalize w32 m=mm,w32 ((pc:Int)+4)=p4 at *;refine fnW Tryz.func92 ?_;(repeat' ((conv=>whnf);first|exact zi2|(refine zj0 ?_;intro hb)|refine QEg ?_|(apply Sd.mk; · first|exact ⟨gR,qR,rfl,(by show 0+CC.length≤25;omega)⟩|exact ⟨gC,gS,rfl,(by show 0+C3.length≤25;omega)⟩|exact ⟨qO,jQ,rfl,(by show 0+C2.length≤25;omega)⟩|exact ⟨gR,qR,rfl,(by show 0+CC.length≤C3.length;omega)⟩|exact ⟨gR,qR,rfl,(by show 0+CC.length≤C2.length;omega)⟩|exact ⟨gC,gS,rfl,(by show 0+C3.length≤CC.length;omega)⟩|exact ⟨gC,gS,rfl,(by show 0+C3.length≤C2.length;omega)⟩|exact ⟨qO,jQ,rfl,(by show 0+C2.length≤CC.length;omega)⟩|exact ⟨qO,jQ,rfl,(by show 0+C2.length≤C3.length;omega)⟩|(show (0:Int)≤A∧(A:Int)<16;omega)|(show (0:Int)≤B∧(B:Int)<16;omega)|(refine ⟨rfl,rfl,rfl,?_⟩;show 0+16+1≤CC.length;omega)|(refine ⟨rfl,rfl,rfl,?_⟩;show 0+16+1≤C3.length;omega)|(refine ⟨rfl,rfl,rfl,?_⟩;show 0+16+1≤C2.length;omega))|((with_reducible apply Vl.mk (α:=List SV)); · first|exact jB|exact qW _ (by first|rfl|assumption)|exact fF _ (by first|rfl|assumption)|exact wL _ (by first|rfl|assumption))|(apply Sg.mk; · first|exact Qa8 CC gR|exact Qa8 C3 gC|exact Qa8 C2 qO)|((with_reducible apply Ge.mk (α:=SV)); · first|exact rA|exact rB|exact rC|exact gpCC|exact gpC3|exact gpC2)|(refine zpu gN ?_)|refine zse ?_|refine zbb ?_ ?_));all_goals (conv=>whnf)
  all_goals exact zF_):P:=h
theorem QAx {P:Prop} (h:P:=by
  refine fnW Tryz.func116 ?_;dsimp only [Mi.C];(repeat' ((conv=>whnf);first|exact zi0|(refine zj0 ?_;intro hb)|(apply Sd.mk; · exact fM)|refine QGN ?_|(refine Qac (f:=181) (vQ) rfl ?_)|(refine Qac (f:=182) (h3) rfl ?_)|(refine Qac (f:=183) (uC) rfl ?_)|refine zs0 ?_|refine zbb ?_ ?_));all_goals (conv=>whnf)
  all_goals
   first
    | exact Qam rfl rfl
  ):P:=h
theorem QIg {P:Prop} (h:P:=by
  generalize QbX o=bb at *;have gN:=Qhs x pc c A V hx hc hA;have hl2:=Qap (QaE x A V) pc c (by rw [Qaz];exact hx) hc;have gY:=Qal (QaE x A V) pc c;have jC:=Qag (QaE x A V) pc c;have wK:QaC (Qay x pc c) 0 (Qay (QaE x A V) pc c)=Qay (QaE x A V) pc c:=Qch (by omega);have jB:=QaR (QaE x A V) pc c PP (by rw [Qaz];exact hx);have jF:=Qap (QaE x A V) PP c (by rw [Qaz];exact hx) hc;have fH:=Qal (QaE x A V) PP c;have wU:=Qag (QaE x A V) PP c;have yO:=Qai jF;have gp2:=QaB (QaE x A V) pc c (by rw [Qaz];exact hx);generalize Qay (QaE x A V) PP c=C3,Qay (QaE x A V) pc c=C2 at *;clear eX eP eC eE hY gA hm;generalize x.getD A 0=vA,x.getD B 0=vB,x.getD C 0=vC at *;skip;generalize Qay x pc c=CC,w32 m=mm,w32 ((pc:Int)+4)=p4 at *;refine fnW Tryz.func201 ?_;(repeat' ((conv=>whnf);first|exact zi2|(refine zj0 ?_;intro hb)|refine QFg ?_|refine QwF ?_|((with_reducible apply Vl.mk (α:=List SV)); · first|exact wK|exact jB|exact wX _ rfl|exact yO _ rfl)|(apply Sg.mk; · first|exact Qa8 C3 jF|exact Qa8 C2 hl2|exact Qa8 CC hl)|(apply Sd.mk; · first|exact ⟨hl,hk,rfl,(by show 0+CC.length≤25;omega)⟩|exact ⟨jF,wU,rfl,(by show 0+C3.length≤25;omega)⟩|exact ⟨hl2,jC,rfl,(by show 0+C2.length≤CC.length;omega)⟩|(refine ⟨rfl,rfl,rfl,?_⟩;show 16+1≤C2.length;omega)|(refine ⟨rfl,rfl,rfl,?_⟩;show 0+16+1≤C2.length;omega)|(show (0:Int)≤A∧(A:Int)<16;omega)|(show (0:Int)≤B∧(B:Int)<16;omega)|(show (0:Int)≤C∧(C:Int)<16;omega))|(refine zpu gN ?_)|(refine zpu gZ ?_)|refine zse ?_|refine zbb ?_ ?_));all_goals (conv=>whnf)
  all_goals exact zF_):P:=h
theorem QHz {P:Prop} (h:P:=by
  clear hM qX vY;generalize OLs os=OL,os.length=ol,wsv M.m=Xe at *;obtain ⟨_,_,_,me,_,_,_,_,de,ne⟩:=M;dsimp only at *;obtain ⟨_,_,_,_,_,_,_,_,_,_,_,_,_,_,_,_,rfl⟩:=Qav uD;obtain ⟨_,_,_,_,_,_,_,_,rfl⟩:=QaM uQ;cases de;cases ne;unfold Qcm;unfold Qcm at hB;simp only [Qah,List.cons_append,List.nil_append,Mc.C,Mc.D,Dk.C,Nk.C] at *;generalize me.length=nn1 at *;(repeat' ((conv=>whnf);first|exact zi4|(refine zj4 ?_;intro hb)|(refine QaD qs ?_)|(refine QaD qr ?_)|refine zse ?_|refine zbb ?_ ?_));all_goals (conv=>whnf)
  all_goals first|(exfalso;omega)|(exfalso;simp at hb;first|done|fail)|(refine hB _ ?_;(exact zwL [(0,some 0),(1,some 1),(2,some 2),(3,some 3),(4,some 4)]))):P:=h
theorem QH6 {P:Prop} (h:P:=by
  have fJ:=Qaa E.M.m;have gY:=Qaf E.T;have fH:=Qad E.B;have qK:=(QaA hE.o).2.1;obtain ⟨hM,hT,_,hB,_,ho,_,_⟩:=hE;obtain ⟨M,T,B,o,_,s⟩:=E;dsimp only [Eg.H,Eg.R,Eg.Rk,Eg.C,wrt] at *;obtain ⟨hx,hc,hY,gA,gH,gB,gI,gE,gD,gF⟩:=hM;obtain ⟨_,_,c,m,_,_,_,_,d,n,_,_,_,wt⟩:=M;dsimp only at *;obtain ⟨_,_,_,_,_,_,_,_,_,_,_,_,_,_,_,_,rfl⟩:=Qav hx;obtain ⟨_,_,_,_,_,_,_,_,rfl⟩:=QaM hc;cases d;cases n;dsimp only [Mc.C,Mc.D,Dk.C,Nk.C,Dk.ok,Nk.ok] at *;subst hw
  try dsimp only [cR,Mc.C,Mc.D,Dk.C,Nk.C] at *
  try simp only [Qah,List.cons_append,List.nil_append,List.getD_cons_succ,List.getD_cons_zero] at *
  generalize gO:wsv m=XX,hX3:bks B=BB,hX4:OLs o=OO,gJ:m.length=nn,gM:B.length=bn,gP:o.length=on,gU:tes T=TT,htn:T.length=tn at *;clear gO gU hX3 hX4 gJ gM gP htn hT hB ho hY gA gH gB gI gE gD gF;refine fnW Tryz.func44 ?_;(repeat' ((conv=>whnf);first|exact zi2|(refine zj0 ?_;intro hb)|refine QHh ?_|(refine QaD cl ?_)|refine zse ?_|refine zbb ?_ ?_));all_goals (conv=>whnf)
  all_goals first|(exfalso;simp at hb;omega)|(exfalso;simp_all;omega)|(apply Fin.mv (m:= [(0,some 0),(1,some 1),(2,some 2),(3,some 3),(4,some 4),(5,some 1),(6,some 2),(7,some 3),(8,some 4)]);(focus exact rfl);(all_goals ((try (show QcK _ _ _ [] _));first|exact aFi|exact rfl)))):P:=h
theorem QIv {P:Prop} (h:P:=by
  clear eX eP eC eE;generalize x.getD A 0=vA,x.getD B 0=vB,x.getD C 0=vC,Qay (x) (pc) (c)=CC,w32 (4*((w32 m:Nat):Int))=m4 at *;generalize w32 m=mm,w32 ((pc:Int)+4)=p4 at *;refine fnW Tryz.func91 ?_;(repeat' ((conv=>whnf);first|exact zi2|(refine zj0 ?_;intro hb)|(with_reducible first|refine zv qm ?_|refine zv q4 ?_|refine zv q4m ?_)|refine zq8 ?_|((with_reducible apply Vl.mk (α:=List SV)); · first|exact qW _ (by first|rfl|assumption)|exact fF _ (by first|rfl|assumption))|refine zq1 ?_|refine QH4 ?_|(refine zpu fW ?_)|refine zse ?_|refine zbb ?_ ?_));all_goals (conv=>whnf)
  all_goals exact zF_):P:=h
theorem QEA {P:Prop} (h:P:=by
  generalize knC is v=KN at *;refine fnW Tryz.func116 ?_;dsimp only [Mi.C];(repeat' ((conv=>whnf);first|exact zi0|(refine zj0 ?_;intro hb)|(apply Sd.mk; · exact fM)|refine QGN ?_|refine zs0 ?_|refine zbb ?_ ?_));all_goals (conv=>whnf)
  all_goals
   first
    | exact Qam rfl rfl
  ):P:=h
theorem QyK {P:Prop} (h:P:=by
  (repeat' ((conv=>whnf);first|exact zi0|(refine zj0 ?_;intro hb)|(with_reducible first|refine zv (QbW _ ha) ?_|refine zv (QbW _ fY) ?_)|refine zs0 ?_|refine zbb ?_ ?_));all_goals (conv=>whnf)
  all_goals
   apply Qam
   (focus rfl)
   simp only [Qbc];congr 3
   first
    | (subst hb;simp [Qde];first|done|fail)
    | (subst hb;simp [Qde];omega)
    | (unfold Qde;rw [zN (by omega),zN (by omega),zN (by omega),zN (by omega),zN (by omega)];simp;first|done|fail)
    | (subst hb;rw [Bool.eq_iff_iff];simp [Qde];first|done|fail)
    | (subst hb;rw [Bool.eq_iff_iff];simp [Qde];omega)):P:=h
theorem QBU {P:Prop} (h:P:=by
  clear eX eP eC eE hY gA hm;generalize x.getD A 0=vA,x.getD B 0=vB,x.getD C 0=vC at *;skip;generalize Qay x pc c=CC,w32 m=mm,w32 ((pc:Int)+4)=p4 at *;refine fnW Tryz.func201 ?_;(repeat' ((conv=>whnf);first|exact zi2|(refine zj0 ?_;intro hb)|refine QFg ?_|refine QwF ?_|((with_reducible apply Vl.mk (α:=List SV)); · first|exact yO _ rfl|exact wX _ rfl|exact yO _ rfl)|refine QxP ?_|(apply Sd.mk; · first|exact ⟨hl,hk,rfl,(by show 0+CC.length≤25;omega)⟩|exact ⟨jF,wU,rfl,(by show 0+C3.length≤25;omega)⟩|(show (0:Int)≤A∧(A:Int)<16;omega)|(show (0:Int)≤B∧(B:Int)<16;omega)|(show (0:Int)≤C∧(C:Int)<16;omega))|(refine zpu fW ?_)|refine zse ?_|refine zbb ?_ ?_));all_goals (conv=>whnf)
  all_goals exact zF_):P:=h
theorem QCp {P:Prop} (h:P:=by
  refine fnW Tryz.func85 ?_;(repeat' ((conv=>whnf);first|exact zi2|(refine zj0 ?_;intro hb)|refine zq2 ?_|refine QHm ?_|((with_reducible apply Ge.mk (α:=SV)); · first|exact vT|exact ZQ)|refine QAh ?_|(refine zpu cal ?_)|refine zse ?_|refine zbb ?_ ?_));all_goals (conv=>whnf)
  all_goals first|(exfalso;simp at hb;omega)|(apply Fin.mv (m:= [(0,some 0),(1,some 1),(2,some 2),(3,some 3),(4,some 4),(5,some 1),(6,some 2),(7,some 3),(8,some 4)]);(focus exact rfl);(all_goals ((try (show QcK _ _ _ [] _));first|exact aFi|exact rfl)))):P:=h
theorem QAo {P:Prop} (h:P:=by
  refine fnW Tryz.func85 ?_;(repeat' ((conv=>whnf);first|exact zi2|(refine zj0 ?_;intro hb)|refine zq2 ?_|refine QHm ?_|refine QEe ?_|refine QAh ?_|(refine zpu cal ?_)|refine zse ?_|refine zbb ?_ ?_));all_goals (conv=>whnf)
  all_goals first|(exfalso;simp at hb;omega)|(apply Fin.mv (m:= [(0,some 0),(1,some 1),(2,some 2),(3,some 3),(4,some 4),(5,some 1),(6,some 2),(7,some 3),(8,some 4)]);(focus exact rfl);(all_goals ((try (show QcK _ _ _ [] _));first|exact aFi|exact rfl)))):P:=h
theorem Qle {P:Prop} (h:P:=by
  (repeat' ((conv=>whnf);first|exact zi2|(refine zj0 ?_;intro hb)|refine zse ?_|refine zbb ?_ ?_));all_goals (conv=>whnf)
  all_goals exact zf_):P:=h
theorem QDN {P:Prop} (h:P:=by
  refine fnW Tryz.func85 ?_;(repeat' ((conv=>whnf);first|exact zi2|(refine zj0 ?_;intro hb)|refine zq2 ?_|refine QFM ?_|refine QAh ?_|(refine Qax ca ?_)|refine zse ?_|refine zbb ?_ ?_));all_goals (conv=>whnf)
  all_goals first|(exfalso;simp at hb;omega)|(apply Fin.mv (m:= [(0,some 0),(1,some 1),(2,some 2),(3,some 3),(4,some 4),(5,some 786560),(6,some 786561),(7,some 786562),(8,some 786563)]);(focus exact rfl);(all_goals ((try (show QcK _ _ _ [] _));first|exact aFi|exact rfl)))):P:=h
theorem QC5 {P:Prop} (h:P:=by
  refine fnW Tryz.func85 ?_;(repeat' ((conv=>whnf);first|exact zi2|(refine zj0 ?_;intro hb)|refine zq2 ?_|refine QFM ?_|refine QAh ?_|(refine Qax ca ?_)|refine zse ?_|refine zbb ?_ ?_));all_goals (conv=>whnf)
  all_goals first|(exfalso;simp at hb;omega)|(apply Fin.mv (m:= [(0,some 0),(1,some 1),(2,some 2),(3,some 3),(4,some 4),(5,some 721024),(6,some 721025),(7,some 721026),(8,some 721027)]);(focus exact rfl);(all_goals ((try (show QcK _ _ _ [] _));first|exact aFi|exact rfl)))):P:=h
theorem QDx {P:Prop} (h:P:=by
  refine fnW Tryz.func85 ?_;(repeat' ((conv=>whnf);first|exact zi2|(refine zj0 ?_;intro hb)|refine zq2 ?_|refine QFM ?_|refine QAh ?_|(refine Qax ca ?_)|refine zse ?_|refine zbb ?_ ?_));all_goals (conv=>whnf)
  all_goals first|(exfalso;simp at hb;omega)|(apply Fin.mv (m:= [(0,some 0),(1,some 1),(2,some 2),(3,some 3),(4,some 4),(5,some 655488),(6,some 655489),(7,some 655490),(8,some 655491)]);(focus exact rfl);(all_goals ((try (show QcK _ _ _ [] _));first|exact aFi|exact rfl)))):P:=h
theorem QnI {P:Prop} (h:P:=by
  (repeat' ((conv=>whnf);first|exact zi2|(refine zj0 ?_;intro hb)|refine zse ?_|refine zbb ?_ ?_));all_goals (conv=>whnf)
  all_goals exact zF_):P:=h
theorem QDI {P:Prop} (h:P:=by
  (repeat' ((conv=>whnf);first|exact zi3|(refine zj0 ?_;intro hb)|refine QIA ?_|refine Qvr ?_|refine Qfl ?_|(apply Sd.mk; · first|omega|(show (0:Int)≤_∧_<_;omega))|(refine Qax ce_ ?_)|refine zse ?_|refine zbb ?_ ?_));all_goals (conv=>whnf)
  all_goals first|(exfalso;simp at hb;omega)|(exfalso;simp at hb;first|done|fail)|(refine hB _ ?_;(exact zwV [(0,some 0),(1,some 1),(2,some 2),(3,some 3),(4,some 4),(5,some 197248),(6,some 197249),(7,some 197250),(8,some 197251)]))):P:=h
theorem QC6 {P:Prop} (h:P:=by
  rw [hB] at vQ gZ;generalize knC is v=KN at *;refine fnW Tryz.func116 ?_;dsimp only [Mi.C];(repeat' ((conv=>whnf);first|exact zi0|(refine zj0 ?_;intro hb)|(apply Sd.mk; · exact fM)|refine QGN ?_|(refine Qac (f:=181) (vQ) rfl ?_)|(refine Qac (f:=182) (h3) rfl ?_)|(refine Qac (f:=183) (uC) rfl ?_)|(refine Qac (f:=152) (gZ) rfl ?_)|refine zs0 ?_|refine zbb ?_ ?_));all_goals (conv=>whnf)
  all_goals
   first
    | exact Qam rfl rfl
  ):P:=h
theorem QCT {P:Prop} (h:P:=by
  refine fnW Tryz.func85 ?_;(repeat' ((conv=>whnf);first|exact zi2|(refine zj0 ?_;intro hb)|refine zq2 ?_|(refine Qax ca ?_)|refine zse ?_|refine zbb ?_ ?_));all_goals (conv=>whnf)
  all_goals first|(exfalso;simp at hb;omega)|(apply Fin.mv (m:= [(0,some 0),(1,some 1),(2,some 2),(3,some 3),(4,some 4),(5,some 917632),(6,some 917633),(7,some 917634),(8,some 917635)]);(focus exact rfl);(all_goals ((try (show QcK _ _ _ [] _));first|exact aFi|exact rfl)))):P:=h
theorem QCl {P:Prop} (h:P:=by
  refine fnW Tryz.func85 ?_;(repeat' ((conv=>whnf);first|exact zi2|(refine zj0 ?_;intro hb)|refine zq2 ?_|(refine Qax ca ?_)|refine zse ?_|refine zbb ?_ ?_));all_goals (conv=>whnf)
  all_goals first|(exfalso;simp at hb;omega)|(apply Fin.mv (m:= [(0,some 0),(1,some 1),(2,some 2),(3,some 3),(4,some 4),(5,some 852096),(6,some 852097),(7,some 852098),(8,some 852099)]);(focus exact rfl);(all_goals ((try (show QcK _ _ _ [] _));first|exact aFi|exact rfl)))):P:=h
theorem QCy {P:Prop} (h:P:=by
  clear gO gU hX3 hX4 hX5 hT hB ho hY gA gH gB gI gE gD gF JX gM hb2n htn gJ gP;refine fnW Tryz.func146 ?_;(repeat' ((conv=>whnf);first|exact zi2|(refine zj0 ?_;intro hb)|(refine QaD ci ?_)|refine zse ?_|refine zbb ?_ ?_));all_goals (conv=>whnf)
  all_goals first|(apply Fin.mv (m:= [(0,some 0),(1,some 1),(2,some 2),(3,some 3),(4,some 4),(5,some 1),(6,some 2),(7,some 65984),(8,some 4)]);(focus exact rfl);(all_goals ((try (show QcK _ _ _ [] _));first|exact aFi|exact rfl)))|(exfalso;simp at hb;omega)):P:=h
theorem Qzk {P:Prop} (h:P:=by
  (repeat' ((conv=>whnf);first|exact zi2|(refine zj0 ?_;intro hb)|(with_reducible first|refine zv c1 ?_|refine zv c2 ?_)|(refine QaD hp ?_)|refine zse ?_|refine zbb ?_ ?_));all_goals (conv=>whnf)
  all_goals exact Qb8):P:=h
theorem QAF {P:Prop} (h:P:=by
  (repeat' ((conv=>whnf);first|exact zi2|(refine zj0 ?_;intro hb)|(refine QaD hm ?_)|(refine QaD hi ?_)|refine zse ?_|refine zbb ?_ ?_));all_goals (conv=>whnf)
  all_goals first
   | (refine QcP ?_ ?_;(focus (exact Qb8));rw [← hB];symm;first|(rw [Bool.eq_iff_iff];simp;first|done|fail)|(rw [Bool.eq_iff_iff];simp;omega)|(rw [Bool.eq_iff_iff];simp_all;first|done|fail)|(rw [Bool.eq_iff_iff];simp;grind))
 ):P:=h
theorem QBb {P:Prop} (h:P:=by
  (repeat' ((conv=>whnf);first|exact zi0|(refine zj0 ?_;intro hb)|refine zs0 ?_|refine zbb ?_ ?_));all_goals (conv=>whnf)
  all_goals first
   | (subst hb;exact Qam rfl rfl)
   | (
     have e1:Qcw ac=5:=by unfold Qcw;rw [zN (by omega),zN (by omega)]
     have e2:QdQ ac=false:=by unfold QdQ;exact decide_eq_false (by omega)
     rw [e1,e2]
     exact Qam rfl rfl)
 ):P:=h
theorem QxZ {P:Prop} (h:P:=by
  by_cases hj:j<xs.length
  ·rw [List.getD_eq_getElem?_getD,List.getElem?_eq_getElem hj];exact h _ (List.getElem_mem hj)
  ·rw [List.getD_eq_getElem?_getD,List.getElem?_eq_none (by omega)];simp):P:=h
theorem QAB {P:Prop} (h:P:=by
  (repeat' ((conv=>whnf);first|exact zi2|(refine zj0 ?_;intro hb)|refine QCv ?_|refine zse ?_|refine zbb ?_ ?_));all_goals (conv=>whnf)
  all_goals first|(refine QcP ?_ ?_;(focus (exact zf_));rw [← hB];first|(symm;exact decide_eq_false (by omega))|(rw [Bool.eq_iff_iff];simp;grind))):P:=h
theorem QCO {P:Prop} (h:P:=by
  (repeat' ((conv=>whnf);first|exact zi2|(refine zj0 ?_;intro hb)|(refine zpu hg ?_)|refine zse ?_|refine zbb ?_ ?_));all_goals (conv=>whnf)
  all_goals exact zf_):P:=h
theorem Qwj {P:Prop} (h:P:=by
  refine Qaq (Qan rfl rfl rfl rfl (Qaj h3)) ?_;refine Qaq (Qan rfl rfl rfl rfl (Qaj h4)) ?_;refine Qaq (Qan rfl rfl rfl rfl (.cons (Qcz rfl) (.cons (Qcz rfl) .nil))) ?_;refine Qh6 ?_;refine Qh6 ?_;refine QfK rfl ?_;refine QfK rfl ?_;refine QfK rfl ?_
  exact QaN):P:=h
theorem QDJ {P:Prop} (h:P:=by
  (repeat' ((conv=>whnf);first|exact zi2|(refine zj0 ?_;intro hb)|refine zse ?_|refine zbb ?_ ?_));all_goals (conv=>whnf)
  all_goals first|(refine QcP ?_ ?_;(focus (exact zf_));rw [← hB];first|(rw [Bool.eq_iff_iff];simp;first|done|fail)|(rw [Bool.eq_iff_iff];simp;omega)|(rw [Bool.eq_iff_iff];simp;grind))):P:=h
theorem QBP {P:Prop} (h:P:=by
  (repeat' ((conv=>whnf);first|exact zi2|(refine zj0 ?_;intro hb)|refine zse ?_|refine zbb ?_ ?_));all_goals (conv=>whnf)
  all_goals first|(exact Qb8)):P:=h
theorem QD7 {P:Prop} (h:P:=by
  generalize Qcw ac=C,wsv xs=XX at *;refine fnW Tryz.func207 ?_;(repeat' ((conv=>whnf);first|exact zi0|(refine zj0 ?_;intro hb)|(refine Qac (f:=240) (cc) rfl ?_)|refine zs0 ?_|refine zbb ?_ ?_));all_goals (conv=>whnf)
  all_goals first|exact QbV rfl gL rfl rfl):P:=h
theorem QAv {P:Prop} (h:P:=by
  (repeat' ((conv=>whnf);first|exact zi2|(refine zj0 ?_;intro hb)|refine zse ?_|refine zbb ?_ ?_));all_goals (conv=>whnf)
  all_goals first|(exact Qb8)|(exfalso;simp only [decide_eq_true_eq,decide_eq_false_iff_not,beq_iff_eq,beq_eq_false_iff_ne,ne_eq] at *;omega)):P:=h
theorem QA2 {P:Prop} (h:P:=by
  (repeat' ((conv=>whnf);first|exact zi0|(refine zj0 ?_;intro hb)|refine zs0 ?_|refine zbb ?_ ?_));all_goals (conv=>whnf)
  all_goals (refine QbV rfl (Qaa _) rfl ?_;simp only [Qbc];congr 3;unfold mpg;split<;>omega)):P:=h
theorem QDw {P:Prop} (h:P:=by
  (repeat' ((conv=>whnf);first|exact zi2|(refine zj0 ?_;intro hb)|refine zse ?_|refine zbb ?_ ?_));all_goals (conv=>whnf)
  all_goals first|(exfalso;omega)|(exfalso;simp at hb;omega)|(exact zf_)):P:=h
theorem QDf {P:Prop} (h:P:=by
  (repeat' ((conv=>whnf);first|exact zi0|(refine zj0 ?_;intro hb)|(with_reducible refine zv ha ?_)|(refine QaD hl ?_)|refine zst ?_|refine zbb ?_ ?_));all_goals (conv=>whnf)
  all_goals exact Qb8):P:=h
theorem QBY {P:Prop} (h:P:=by
  (repeat' ((conv=>whnf);first|exact zi0|(refine zj0 ?_;intro hb)|refine zs0 ?_|refine zbb ?_ ?_));all_goals (conv=>whnf)
  all_goals (subst hb;apply Qam;(focus rfl);rfl)):P:=h
theorem QD0 {P:Prop} (h:P:=by
  (repeat' ((conv=>whnf);first|exact zi2|(refine zj0 ?_;intro hb)|(refine zpu hg ?_)|refine zse ?_|refine zbb ?_ ?_));all_goals (conv=>whnf)
  all_goals exact zF_):P:=h
theorem QBr {P:Prop} (h:P:=by
  (repeat' ((conv=>whnf);first|exact zi0|(refine zj0 ?_;intro hb)|refine zs0 ?_|refine zbb ?_ ?_));all_goals (conv=>whnf)
  all_goals exact Qam rfl rfl):P:=h
theorem QB8 {P:Prop} (h:P:=by
  rw [show (255:Int)=((255:Nat):Int) from rfl,QcI v 255 hv (by omega),show (255:Nat)=2^8-1 from rfl,Nat.and_two_pow_sub_one_eq_mod]):P:=h
theorem Qtg {P:Prop} (h:P:=by
  have:=Qpr w hw;rw [h] at this
  exact this):P:=h
theorem zf_ {P:Prop} (h:P:=by (try (conv=>whnf));first|(apply Fin.mk (m:= []);(focus exact rfl);(all_goals ((try (show HlS _ _ [] _));first|exact aFi|exact rfl)))|fail):P:=h
theorem zF_ {P:Prop} (h:P:=by (try (conv=>whnf));first|(exfalso;omega)|(exfalso;simp at hb;done)|(apply Fin.mk (m:= []);(focus exact rfl);(all_goals ((try (show HlS _ _ [] _));first|exact aFi|exact rfl)))|fail):P:=h
theorem Qb8 {P:Prop} (h:P:=by (try (conv=>whnf));first|(apply Fin.mk (m:= [(0,some 0)]);(focus exact rfl);(all_goals ((try (show HlS _ _ [] _));first|exact aFi|exact rfl)))|fail):P:=h
theorem QfL {P:Prop} (h:P:=by (try (conv=>whnf));first|(exfalso;omega)|(exfalso;simp at hb;done)|(apply Fin.mk (m:= [(0,some 0)]);(focus exact rfl);(all_goals ((try (show HlS _ _ [] _));first|exact aFi|exact rfl)))|fail):P:=h
theorem QdV {P:Prop} (h:P:=by (try (conv=>whnf));first|(apply Fin.mk (m:= [(0,some 0),(1,some 1)]);(focus exact rfl);(all_goals ((try (show HlS _ _ [] _));first|exact aFi|exact rfl)))|fail):P:=h
theorem QB4 {P:Prop} (h:P:=by (try (conv=>whnf));first|(exfalso;omega)|(exfalso;simp at hb;done)|(apply Fin.mk (m:= [(0,some 0),(1,some 1)]);(focus exact rfl);(all_goals ((try (show HlS _ _ [] _));first|exact aFi|exact rfl)))|fail):P:=h
theorem Qsf {P:Prop} (h:P:=by (try (conv=>whnf));first|(apply Fin.mk (m:= [(0,some 0),(1,some 1),(2,some 2)]);(focus exact rfl);(all_goals ((try (show HlS _ _ [] _));first|exact aFi|exact rfl)))|fail):P:=h
theorem QHT {P:Prop} (h:P:=by (try (conv=>whnf));first|(apply Fin.mk (m:= [(0,some _)]);(focus exact rfl);(all_goals ((try (show HlS _ _ [] _));first|exact aFi|exact rfl)))|fail):P:=h
theorem QbA {P:Prop} (h:P:=by (try (conv=>whnf));first|(apply Fin.mk (m:= [(0,some 0),(1,some _)]);(focus exact rfl);(all_goals ((try (show HlS _ _ [] _));first|exact aFi|exact rfl)))|fail):P:=h
theorem Qe8 {P:Prop} (h:P:=by (try (conv=>whnf));first|(exfalso;omega)|(exfalso;simp at hb;done)|(apply Fin.mk (m:= [(0,some 0),(1,some _)]);(focus exact rfl);(all_goals ((try (show HlS _ _ [] _));first|exact aFi|exact rfl)))|fail):P:=h
theorem QjY {P:Prop} (h:P:=by (try (conv=>whnf));first|(apply Fin.mk (m:= [(0,some 0),(1,some 1),(2,some _)]);(focus exact rfl);(all_goals ((try (show HlS _ _ [] _));first|exact aFi|exact rfl)))|fail):P:=h
theorem Qny {P:Prop} (h:P:=by (try (conv=>whnf));first|(apply Fin.mk (m:= [(0,some 0),(1,none)]);(focus exact rfl);(all_goals ((try (show HlS _ _ [] _));first|exact aFi|exact rfl)))|fail):P:=h
theorem QDy {P:Prop} (h:P:=by (try (conv=>whnf));first|(apply Fin.mk (m:= [(0,some 0),(1,some _),(2,some _)]);(focus exact rfl);(all_goals ((try (show HlS _ _ [] _));first|exact aFi|exact rfl)))|fail):P:=h
theorem QaD {P:Program} {det:Bool} {f:FuncId} {l:List AV} {hp:Hp} {n:Nat} {K:KK} {args:List AV} {r0:Row} {R:Res} {n0:Nat} {q0:Row} (hF:Fn P f args [r0] (· =R)) (k:Vl (R.ef [⟨n0,0⟩] [r0].length n) fun e=>K [(n0,q0)] e) (h2:l=args.map (Qc1 [⟨n0,0⟩] [r0].length n):=by exact aRn) (a0:hp n0=some q0:=by exact rfl) (b0:Qd4 [⟨n0,0⟩] [r0].length n 0 ⟨n0,0⟩ r0 q0:=by exact Qar (by assumption)) (h5:Nat.ble R.nw.length Qao=true∧∀ p∈R.up,p.1< [r0].length:=by exact ⟨rfl,Qc8 rfl⟩):Cll P det f l hp n K:=Qae hF [⟨n0,0⟩] [(n0,q0)] h2 ⟨a0,trivial⟩ ⟨rfl,b0,trivial⟩ h5 k
theorem QhF {P:Program} {det:Bool} {f:FuncId} {l:List AV} {hp:Hp} {n:Nat} {K:KK} {args:List AV} {r0 r1:Row} {R:Res} {n0 n1:Nat} {q0 q1:Row} (hF:Fn P f args [r0,r1] (· =R)) (k:Vl (R.ef [⟨n0,0⟩,⟨n1,0⟩] [r0,r1].length n) fun e=>K [(n0,q0),(n1,q1)] e) (h2:l=args.map (Qc1 [⟨n0,0⟩,⟨n1,0⟩] [r0,r1].length n):=by exact aRn) (a0:hp n0=some q0:=by exact rfl) (b0:Qd4 [⟨n0,0⟩,⟨n1,0⟩] [r0,r1].length n 0 ⟨n0,0⟩ r0 q0:=by exact Qar (by assumption)) (a1:hp n1=some q1:=by exact rfl) (b1:Qd4 [⟨n0,0⟩,⟨n1,0⟩] [r0,r1].length n 1 ⟨n1,0⟩ r1 q1:=by exact Qar (by assumption)) (h5:Nat.ble R.nw.length Qao=true∧∀ p∈R.up,p.1< [r0,r1].length:=by exact ⟨rfl,Qc8 rfl⟩):Cll P det f l hp n K:=Qae hF [⟨n0,0⟩,⟨n1,0⟩] [(n0,q0),(n1,q1)] h2 ⟨a0,a1,trivial⟩ ⟨rfl,b0,rfl,b1,trivial⟩ h5 k
theorem Qp1 {P:Program} {det:Bool} {f:FuncId} {l:List AV} {hp:Hp} {n:Nat} {K:KK} {args:List AV} {r0 r1 r2:Row} {R:Res} {n0 n1 n2:Nat} {q0 q1 q2:Row} (hF:Fn P f args [r0,r1,r2] (· =R)) (k:Vl (R.ef [⟨n0,0⟩,⟨n1,0⟩,⟨n2,0⟩] [r0,r1,r2].length n) fun e=>K [(n0,q0),(n1,q1),(n2,q2)] e) (h2:l=args.map (Qc1 [⟨n0,0⟩,⟨n1,0⟩,⟨n2,0⟩] [r0,r1,r2].length n):=by exact aRn) (a0:hp n0=some q0:=by exact rfl) (b0:Qd4 [⟨n0,0⟩,⟨n1,0⟩,⟨n2,0⟩] [r0,r1,r2].length n 0 ⟨n0,0⟩ r0 q0:=by exact Qar (by assumption)) (a1:hp n1=some q1:=by exact rfl) (b1:Qd4 [⟨n0,0⟩,⟨n1,0⟩,⟨n2,0⟩] [r0,r1,r2].length n 1 ⟨n1,0⟩ r1 q1:=by exact Qar (by assumption)) (a2:hp n2=some q2:=by exact rfl) (b2:Qd4 [⟨n0,0⟩,⟨n1,0⟩,⟨n2,0⟩] [r0,r1,r2].length n 2 ⟨n2,0⟩ r2 q2:=by exact Qar (by assumption)) (h5:Nat.ble R.nw.length Qao=true∧∀ p∈R.up,p.1< [r0,r1,r2].length:=by exact ⟨rfl,Qc8 rfl⟩):Cll P det f l hp n K:=Qae hF [⟨n0,0⟩,⟨n1,0⟩,⟨n2,0⟩] [(n0,q0),(n1,q1),(n2,q2)] h2 ⟨a0,a1,a2,trivial⟩ ⟨rfl,b0,rfl,b1,rfl,b2,trivial⟩ h5 k
theorem Qg3 {P:Program} {det:Bool} {f:FuncId} {l:List AV} {hp:Hp} {n:Nat} {K:KK} {args:List AV} {r0:Row} {R:Res} {n0:Nat} {q0:Row} (hF:Fn P f args [r0] (· =R)) (k:Vl (R.ef [⟨n0,0⟩] [r0].length n) fun e=>K [(n0,q0)] e) (h2:l=args.map (Qc1 [⟨n0,0⟩] [r0].length n):=by exact aRn) (a0:hp n0=some q0:=by exact rfl) (b0:Qd4 [⟨n0,0⟩] [r0].length n 0 ⟨n0,0⟩ r0 q0:=by exact QaK (by assumption) rfl) (h5:Nat.ble R.nw.length Qao=true∧∀ p∈R.up,p.1< [r0].length:=by exact ⟨rfl,Qc8 rfl⟩):Cll P det f l hp n K:=Qae hF [⟨n0,0⟩] [(n0,q0)] h2 ⟨a0,trivial⟩ ⟨rfl,b0,trivial⟩ h5 k
theorem Qlw {P:Program} {det:Bool} {f:FuncId} {l:List AV} {hp:Hp} {n:Nat} {K:KK} {args:List AV} {r0 r1:Row} {R:Res} {n0 n1:Nat} {q0 q1:Row} (hF:Fn P f args [r0,r1] (· =R)) (k:Vl (R.ef [⟨n0,0⟩,⟨n1,0⟩] [r0,r1].length n) fun e=>K [(n0,q0),(n1,q1)] e) (h2:l=args.map (Qc1 [⟨n0,0⟩,⟨n1,0⟩] [r0,r1].length n):=by exact aRn) (a0:hp n0=some q0:=by exact rfl) (b0:Qd4 [⟨n0,0⟩,⟨n1,0⟩] [r0,r1].length n 0 ⟨n0,0⟩ r0 q0:=by exact Qcd rfl rfl) (a1:hp n1=some q1:=by exact rfl) (b1:Qd4 [⟨n0,0⟩,⟨n1,0⟩] [r0,r1].length n 1 ⟨n1,0⟩ r1 q1:=by exact QaK (by assumption) rfl) (h5:Nat.ble R.nw.length Qao=true∧∀ p∈R.up,p.1< [r0,r1].length:=by exact ⟨rfl,Qc8 rfl⟩):Cll P det f l hp n K:=Qae hF [⟨n0,0⟩,⟨n1,0⟩] [(n0,q0),(n1,q1)] h2 ⟨a0,a1,trivial⟩ ⟨rfl,b0,rfl,b1,trivial⟩ h5 k
theorem QxJ {P:Program} {det:Bool} {f:FuncId} {l:List AV} {hp:Hp} {n:Nat} {K:KK} {args:List AV} {r0 r1 r2 r3:Row} {R:Res} {n0 n1 n2 n3:Nat} {q0 q1 q2 q3:Row} (hF:Fn P f args [r0,r1,r2,r3] (· =R)) (k:Vl (R.ef [⟨n0,0⟩,⟨n1,0⟩,⟨n2,0⟩,⟨n3,0⟩] [r0,r1,r2,r3].length n) fun e=>K [(n0,q0),(n1,q1),(n2,q2),(n3,q3)] e) (h2:l=args.map (Qc1 [⟨n0,0⟩,⟨n1,0⟩,⟨n2,0⟩,⟨n3,0⟩] [r0,r1,r2,r3].length n):=by exact aRn) (a0:hp n0=some q0:=by exact rfl) (b0:Qd4 [⟨n0,0⟩,⟨n1,0⟩,⟨n2,0⟩,⟨n3,0⟩] [r0,r1,r2,r3].length n 0 ⟨n0,0⟩ r0 q0:=by exact Qcd rfl rfl) (a1:hp n1=some q1:=by exact rfl) (b1:Qd4 [⟨n0,0⟩,⟨n1,0⟩,⟨n2,0⟩,⟨n3,0⟩] [r0,r1,r2,r3].length n 1 ⟨n1,0⟩ r1 q1:=by exact QaK (by assumption) rfl) (a2:hp n2=some q2:=by exact rfl) (b2:Qd4 [⟨n0,0⟩,⟨n1,0⟩,⟨n2,0⟩,⟨n3,0⟩] [r0,r1,r2,r3].length n 2 ⟨n2,0⟩ r2 q2:=by exact QaK (by assumption) rfl) (a3:hp n3=some q3:=by exact rfl) (b3:Qd4 [⟨n0,0⟩,⟨n1,0⟩,⟨n2,0⟩,⟨n3,0⟩] [r0,r1,r2,r3].length n 3 ⟨n3,0⟩ r3 q3:=by exact QaK (by assumption) rfl) (h5:Nat.ble R.nw.length Qao=true∧∀ p∈R.up,p.1< [r0,r1,r2,r3].length:=by exact ⟨rfl,Qc8 rfl⟩):Cll P det f l hp n K:=Qae hF [⟨n0,0⟩,⟨n1,0⟩,⟨n2,0⟩,⟨n3,0⟩] [(n0,q0),(n1,q1),(n2,q2),(n3,q3)] h2 ⟨a0,a1,a2,a3,trivial⟩ ⟨rfl,b0,rfl,b1,rfl,b2,rfl,b3,trivial⟩ h5 k
theorem Qax {P:Program} {det:Bool} {f:FuncId} {l:List AV} {hp:Hp} {n:Nat} {K:KK} {args:List AV} {r0 r1 r2 r3 r4:Row} {R:Res} {n0 n1 n2 n3 n4:Nat} {q0 q1 q2 q3 q4:Row} (hF:Fn P f args [r0,r1,r2,r3,r4] (· =R)) (k:Vl (R.ef [⟨n0,0⟩,⟨n1,0⟩,⟨n2,0⟩,⟨n3,0⟩,⟨n4,0⟩] [r0,r1,r2,r3,r4].length n) fun e=>K [(n0,q0),(n1,q1),(n2,q2),(n3,q3),(n4,q4)] e) (h2:l=args.map (Qc1 [⟨n0,0⟩,⟨n1,0⟩,⟨n2,0⟩,⟨n3,0⟩,⟨n4,0⟩] [r0,r1,r2,r3,r4].length n):=by exact aRn) (a0:hp n0=some q0:=by exact rfl) (b0:Qd4 [⟨n0,0⟩,⟨n1,0⟩,⟨n2,0⟩,⟨n3,0⟩,⟨n4,0⟩] [r0,r1,r2,r3,r4].length n 0 ⟨n0,0⟩ r0 q0:=by exact Qcd rfl rfl) (a1:hp n1=some q1:=by exact rfl) (b1:Qd4 [⟨n0,0⟩,⟨n1,0⟩,⟨n2,0⟩,⟨n3,0⟩,⟨n4,0⟩] [r0,r1,r2,r3,r4].length n 1 ⟨n1,0⟩ r1 q1:=by exact QaK (by assumption) rfl) (a2:hp n2=some q2:=by exact rfl) (b2:Qd4 [⟨n0,0⟩,⟨n1,0⟩,⟨n2,0⟩,⟨n3,0⟩,⟨n4,0⟩] [r0,r1,r2,r3,r4].length n 2 ⟨n2,0⟩ r2 q2:=by exact QaK (by assumption) rfl) (a3:hp n3=some q3:=by exact rfl) (b3:Qd4 [⟨n0,0⟩,⟨n1,0⟩,⟨n2,0⟩,⟨n3,0⟩,⟨n4,0⟩] [r0,r1,r2,r3,r4].length n 3 ⟨n3,0⟩ r3 q3:=by exact QaK (by assumption) rfl) (a4:hp n4=some q4:=by exact rfl) (b4:Qd4 [⟨n0,0⟩,⟨n1,0⟩,⟨n2,0⟩,⟨n3,0⟩,⟨n4,0⟩] [r0,r1,r2,r3,r4].length n 4 ⟨n4,0⟩ r4 q4:=by exact QaK (by assumption) rfl) (h5:Nat.ble R.nw.length Qao=true∧∀ p∈R.up,p.1< [r0,r1,r2,r3,r4].length:=by exact ⟨rfl,Qc8 rfl⟩):Cll P det f l hp n K:=Qae hF [⟨n0,0⟩,⟨n1,0⟩,⟨n2,0⟩,⟨n3,0⟩,⟨n4,0⟩] [(n0,q0),(n1,q1),(n2,q2),(n3,q3),(n4,q4)] h2 ⟨a0,a1,a2,a3,a4,trivial⟩ ⟨rfl,b0,rfl,b1,rfl,b2,rfl,b3,rfl,b4,trivial⟩ h5 k
theorem Qjj {P:Program} {det:Bool} {f:FuncId} {l:List AV} {hp:Hp} {n:Nat} {K:KK} {args:List AV} {r0 r1 r2 r3 r4 r5:Row} {R:Res} {n0 n1 n2 n3 n4 n5:Nat} {q0 q1 q2 q3 q4 q5:Row} (hF:Fn P f args [r0,r1,r2,r3,r4,r5] (· =R)) (k:Vl (R.ef [⟨n0,0⟩,⟨n1,0⟩,⟨n2,0⟩,⟨n3,0⟩,⟨n4,0⟩,⟨n5,0⟩] [r0,r1,r2,r3,r4,r5].length n) fun e=>K [(n0,q0),(n1,q1),(n2,q2),(n3,q3),(n4,q4),(n5,q5)] e) (h2:l=args.map (Qc1 [⟨n0,0⟩,⟨n1,0⟩,⟨n2,0⟩,⟨n3,0⟩,⟨n4,0⟩,⟨n5,0⟩] [r0,r1,r2,r3,r4,r5].length n):=by exact aRn) (a0:hp n0=some q0:=by exact rfl) (b0:Qd4 [⟨n0,0⟩,⟨n1,0⟩,⟨n2,0⟩,⟨n3,0⟩,⟨n4,0⟩,⟨n5,0⟩] [r0,r1,r2,r3,r4,r5].length n 0 ⟨n0,0⟩ r0 q0:=by exact Qcd rfl rfl) (a1:hp n1=some q1:=by exact rfl) (b1:Qd4 [⟨n0,0⟩,⟨n1,0⟩,⟨n2,0⟩,⟨n3,0⟩,⟨n4,0⟩,⟨n5,0⟩] [r0,r1,r2,r3,r4,r5].length n 1 ⟨n1,0⟩ r1 q1:=by exact QaK (by assumption) rfl) (a2:hp n2=some q2:=by exact rfl) (b2:Qd4 [⟨n0,0⟩,⟨n1,0⟩,⟨n2,0⟩,⟨n3,0⟩,⟨n4,0⟩,⟨n5,0⟩] [r0,r1,r2,r3,r4,r5].length n 2 ⟨n2,0⟩ r2 q2:=by exact QaK (by assumption) rfl) (a3:hp n3=some q3:=by exact rfl) (b3:Qd4 [⟨n0,0⟩,⟨n1,0⟩,⟨n2,0⟩,⟨n3,0⟩,⟨n4,0⟩,⟨n5,0⟩] [r0,r1,r2,r3,r4,r5].length n 3 ⟨n3,0⟩ r3 q3:=by exact QaK (by assumption) rfl) (a4:hp n4=some q4:=by exact rfl) (b4:Qd4 [⟨n0,0⟩,⟨n1,0⟩,⟨n2,0⟩,⟨n3,0⟩,⟨n4,0⟩,⟨n5,0⟩] [r0,r1,r2,r3,r4,r5].length n 4 ⟨n4,0⟩ r4 q4:=by exact QaK (by assumption) rfl) (a5:hp n5=some q5:=by exact rfl) (b5:Qd4 [⟨n0,0⟩,⟨n1,0⟩,⟨n2,0⟩,⟨n3,0⟩,⟨n4,0⟩,⟨n5,0⟩] [r0,r1,r2,r3,r4,r5].length n 5 ⟨n5,0⟩ r5 q5:=by exact Qar (by assumption)) (h5:Nat.ble R.nw.length Qao=true∧∀ p∈R.up,p.1< [r0,r1,r2,r3,r4,r5].length:=by exact ⟨rfl,Qc8 rfl⟩):Cll P det f l hp n K:=Qae hF [⟨n0,0⟩,⟨n1,0⟩,⟨n2,0⟩,⟨n3,0⟩,⟨n4,0⟩,⟨n5,0⟩] [(n0,q0),(n1,q1),(n2,q2),(n3,q3),(n4,q4),(n5,q5)] h2 ⟨a0,a1,a2,a3,a4,a5,trivial⟩ ⟨rfl,b0,rfl,b1,rfl,b2,rfl,b3,rfl,b4,rfl,b5,trivial⟩ h5 k
theorem fnW {f : FuncId} {fn : Func} (hf : Tryz.prog.funcs[f]? = some fn) {c : Code} {args : List AV} {H : List Row} {Post : Res → Prop} {tm : Tm} {hl : Hl} (k : vc Tryz.prog tys fn.ntmps H.length c ⟨tm,hl,[0]⟩ (QH8 tys H Post fn.results.toList)) (hb : fn.body = some c := by exact rfl) (h1 : Qlx 0 args = tm := by (dsimp only [Qlx,Nat.zero_add,Nat.reduceAdd]); first | done | exact rfl) (h2 : Qc9 0 H = hl := by (dsimp only [Qc9,Nat.zero_add,Nat.reduceAdd]); first | done | exact rfl) (gG : (Nat.ble args.length fn.ntmps && Nat.ble H.length 1000) = true := by exact rfl) (hn : (fn.name == "runtime.NumGoroutine") = false := by kernel_rfl) : FN f args H Post := by
 subst h1 h2;exact Ql7 Qzn QmD _ _ hf hn hb rfl rfl gG k
theorem zpu {P:Program} {det:Bool} {f:FuncId} {l:List AV} {hp:Hp} {n0:Nat} {K:KK} {args:List AV} {v:TV} (hF:Fn P f args [] (· =⟨v,[],[]⟩)) (k:Vl (QAN [] 0 n0 v) fun v=>K [] ⟨v,[],[]⟩) (h2:l=args.map (Qc1 [] 0 n0):=by exact aRn):Cll P det f l hp n0 K:=Qac hF h2 k
theorem zwL (m:Rn) {N k:Nat} {σ σ':St} (h1:TmL m (tmG σ.tm) σ'.tm:=by ((repeat' (first|exact Qa1|apply QaP));all_goals exact aFi)) (h2:HlL m (hpG σ.h) σ'.h:=by ((show HlS _ _ [] _);exact aFi)) (h3:(QCh m σ'.ids&&idn m k)=true:=by (first|exact rfl|rfl|kernel_rfl)):Wk N k σ σ':=Qcb m h1 h2 h3
theorem zwV (m:Rn) {N k:Nat} {σ σ':St} (h1:TmL m (tmG σ.tm) σ'.tm:=by ((repeat' (first|exact Qa1|apply QaP));all_goals exact aFi)) (h2:HlV m (hpG σ.h) σ'.h:=by ((show QcK _ _ _ [] _);exact aFi)) (h3:(QCh m σ'.ids&&idn m k)=true:=by (first|exact rfl|rfl|kernel_rfl)):Wk N k σ σ':=QHl m h1 h2 h3
def kEq:IntKind→IntKind→Bool
 | .i8,.i8=>true| .i16,.i16=>true| .i32,.i32=>true| .i64,.i64=>true
 | .u8,.u8=>true| .u16,.u16=>true| .u32,.u32=>true| .u64,.u64=>true
 | _,_=>false
theorem Qj1 {a b:IntKind} (h:kEq a b=true):a=b:=by cases a<;>cases b<;>first|rfl|cases h
def Qeg:List UInt8→List UInt8→Bool
 | [],[]=>true
 | a::l,b::m=>match Nat.beq a.toNat b.toNat with
  | true=>Qeg l m
  | false=>false
 | _,_=>false
theorem QbR:∀ l m:List UInt8,Qeg l m=(l==m)
 | [],[]=>rfl
 | a::l,[]=>rfl
 | [],b::m=>rfl
 | a::l,b::m=>by
  unfold Qeg;rw [QbR l m]
  cases hb:Nat.beq a.toNat b.toNat with
  | true =>
   have:a=b:=UInt8.toNat_inj.1 (Nat.eq_of_beq_eq_true hb);subst this;simp
  | false=>grind [Nat.beq_refl,Qeg,Nat.beq,Nat.eq_of_beq_eq_true]
inductive SK where
 | int|bool|str
def eqS:SK→SV→SV→Option Bool
 | .int,.int k m,.int k' n=>match kEq k k' with
  | true=>some (m==n)
  | false=>none
 | .bool,.bool m,.bool n=>some (m==n)
 | .str,.str m,.str n=>some (Qeg m.data.toList n.data.toList)
 | _,_,_=>none
def QaS:List SK→List SV→List SV→Option Bool
 | [],[],[]=>some true
 | k::ks,a::l,b::m=>match eqS k a b with
  | some x=>match QaS ks l m with
   | some y=>some (x&&y)
   | none=>none
  | none=>none
 | _,_,_=>none
theorem Qd6:∀ {ks:List SK} {l m:List SV} {b:Bool},QaS ks l m=some b→l.length=ks.length∧m.length=ks.length
 | [],[],[],b,_=>⟨rfl,rfl⟩
 | k::ks,a::l,c::m,b,h=>by
  unfold QaS at h;split at h
  ·split at h
   ·rename_i y hy;have:=Qd6 hy;simp [this]
   ·cases h
  ·cases h
 | [],_::_,_,_,h=>by cases h
 | [],[],_::_,_,h=>by cases h
 | _::_,[],_,_,h=>by cases h
 | _::_,_::_,[],_,h=>by cases h
theorem QcC:∀ {ks ks':List SK} {l m:List SV} {b:Bool},QaS (ks++ks') l m=some b →
  ∃ x y,QaS ks (l.take ks.length) (m.take ks.length)=some x∧QaS ks' (l.drop ks.length) (m.drop ks.length)=some y∧b=(x&&y)
 | [],ks',l,m,b,h=>⟨true,b,by simp [QaS],by simpa using h,by simp⟩
 | k::ks,ks',a::l,c::m,b,h=>by
  change QaS (k::(ks++ks')) (a::l) (c::m)=some b at h;unfold QaS at h;split at h
  ·rename_i x hx
   split at h
   ·rename_i y hy
    injection h with h
    obtain ⟨u,v,h1,h2,rfl⟩:=QcC hy;refine ⟨x&&u,v,?_,by simpa using h2,by rw [← h,Bool.and_assoc]⟩;simp only [List.length_cons,List.take_succ_cons];unfold QaS;rw [hx,h1]
   ·cases h
  ·cases h
 | _::_,_,[],_,_,h=>by cases h
 | _::_,_,_::_,[],_,h=>by cases h
def QFV (ag:Bool) (ρ:Nm) (l:List SV) (v:Value):Prop:=match ag with
 | true=>∃ cs,v= .agg cs∧VSs ρ l cs.toList
 | false=>∃ s,l= [s]∧VS ρ s v
def QAf (P:Program) (d:Nat) (t:TypeId) (ag:Bool) (ks:List SK):Prop :=
 ∀ (ρ:Nm) (w:World) (l l':List SV) (v v':Value) (b:Bool),QFV ag ρ l v→QFV ag ρ l' v'→QaS ks l l'=some b→(Op.equalIn d t v v').run P w= .ok b w
theorem QfY {P:Program} {T:Tys} (hT:QaV P T) {t:TypeId} {y:Ty} (hy:T t=some y) {ρ:Nm} {w:World} {l:List SV} {cs:Array Value} (h:VSs ρ l cs.toList) (off:Nat) (hl:off+y.size≤l.length) (hs:y.kind.agg=false→y.size=1) :
  ∃ v,(part t cs off).run P w= .ok v w∧QFV y.kind.agg ρ ((l.drop off).take y.size) v:=by
 have ha:=(hT t y hy).agg w;have hz:=(hT t y hy).sizeOf w;have gG:l.length=cs.size:=by have:=h.1;simpa using this
 cases e:y.kind.agg with
 | true =>
  rw [e] at ha;refine ⟨.agg (cs.extract off (off+y.size)),by simp [part,ha,hz],_,rfl,?_⟩;exact Qve h off y.size
 | false =>
  rw [e] at ha;have h1:=hs e;rw [h1] at hl ⊢;have gT:off<l.length:=by omega
  obtain ⟨v,h2,h3⟩:=h.2 off _ (List.getElem?_eq_getElem gT);have h2:cs[off]?=some v:=by simpa using h2
  refine ⟨v,by simp [part,ha,h2],l[off],?_,h3⟩;rw [List.drop_eq_getElem_cons gT];rfl
theorem QtU {P:Program} {d:Nat} {t:TypeId} {k:IntKind} (h:P.underlying t=some (.int k)):QAf P (d+1) t false [.int]:=by
 rintro ρ w l l' v v' b ⟨s,rfl,h1⟩ ⟨s',rfl,h2⟩ he;unfold QaS at he;split at he
 ·rename_i x hx
  simp only [QaS,Option.some.injEq,Bool.and_true] at he;subst he;unfold eqS at hx;split at hx<;>try cases hx
  ·split at hx
   ·rename_i hk
    injection hx with hx;subst hx
    have:=Qj1 hk;subst this;have h1:v=_:=h1;have h2:v'=_:=h2;rw [h1,h2];exact run_equalIn_int w d t _ k _ _ h
   ·cases hx
  all_goals contradiction
 ·cases he
theorem Qo6 {P:Program} {d:Nat} {t:TypeId} (h:P.underlying t=some .bool):QAf P (d+1) t false [.bool]:=by
 rintro ρ w l l' v v' b ⟨s,rfl,h1⟩ ⟨s',rfl,h2⟩ he;unfold QaS at he;split at he
 ·rename_i x hx
  simp only [QaS,Option.some.injEq,Bool.and_true] at he;subst he;unfold eqS at hx;split at hx<;>try cases hx
  ·grind
  ·have h1:v=_:=h1
   have h2:v'=_:=h2;rw [h1,h2];exact run_equalIn_bool w d t _ _ h
  ·grind
 ·cases he
theorem Qux {P:Program} {d:Nat} {t:TypeId} (h:P.underlying t=some .string):QAf P (d+1) t false [.str]:=by
 rintro ρ w l l' v v' b ⟨s,rfl,h1⟩ ⟨s',rfl,h2⟩ he;unfold QaS at he;split at he
 ·rename_i x hx
  simp only [QaS,Option.some.injEq,Bool.and_true] at he;subst he;unfold eqS at hx;split at hx<;>try cases hx
  ·grind
  ·grind
  ·have h1:v=_:=h1
   have h2:v'=_:=h2;rw [h1,h2,run_equalIn_string w d t _ _ h,QbR,ByteArray.toList_eq,ByteArray.toList_eq]
 ·cases he
def QBF (sh:TypeId→Option (List SK)):Nat→List (Nat × TypeId)→Option (List SK)
 | _,[]=>some []
 | o,p::l=>match Nat.beq p.1 o with
  | true=>match sh p.2 with
   | some a=>match QBF sh (o+a.length) l with
    | some b=>some (a++b)
    | none=>none
   | none=>none
  | false=>none
def QzT (a:List SK):Nat→List SK
 | 0=> []
 | n+1=>a++QzT a n
def shp (T:Tys):Nat→TypeId→Option (List SK)
 | 0,_=>none
 | d+1,t=>match T t with
  | some y=>match y.kind with
   | .int _=>match Nat.beq y.size 1 with|true=>some [.int]|false=>none
   | .bool=>match Nat.beq y.size 1 with|true=>some [.bool]|false=>none
   | .str=>match Nat.beq y.size 1 with|true=>some [.str]|false=>none
   | .struct fs=>match QBF (shp T d) 0 fs with
    | some a=>match Nat.beq a.length y.size&&Nat.blt 0 y.size with|true=>some a|false=>none
    | none=>none
   | .array n e=>match shp T d e with
    | some a=>match Nat.beq (QzT a n).length y.size&&Nat.blt 0 y.size with|true=>some (QzT a n)|false=>none
    | none=>none
   | _=>none
  | none=>none
def Qmp (c:TypeId→Bool):List Field→Bool
 | []=>true
 | f :: l => (f.name != "_") && c f.type && Qmp c l
def Qi9 (P:Program):Nat→TypeId→Bool
 | 0,_=>true
 | d+1,t=>match P.underlying t with
  | some (.struct fs)=> !P.stoodInHeld t&&Qmp (Qi9 P d) fs.toList
  | some (.array _ e)=>Qi9 P d e
  | _=>true
theorem QzL {T:Tys} {d:Nat} {t:TypeId} {a:List SK} (h:shp T d t=some a):∃ y,T t=some y∧a.length=y.size∧(y.kind.agg=false→y.size=1)∧0<y.size:=by
 cases d with
 | zero=>cases h
 | succ d =>
  unfold shp at h;split at h
  ·rename_i y hy
   refine ⟨y,hy,?_⟩;split at h<;>rename_i hk
   ·split at h
    ·rename_i hb;injection h with h;subst h;have hb:=Nat.eq_of_beq_eq_true hb;exact ⟨hb.symm,fun _=>hb,by omega⟩
    ·cases h
   ·split at h
    ·rename_i hb;injection h with h;subst h;have hb:=Nat.eq_of_beq_eq_true hb;exact ⟨hb.symm,fun _=>hb,by omega⟩
    ·cases h
   ·split at h
    ·rename_i hb;injection h with h;subst h;have hb:=Nat.eq_of_beq_eq_true hb;exact ⟨hb.symm,fun _=>hb,by omega⟩
    ·cases h
   ·split at h
    ·split at h
     ·rename_i hb;injection h with h;subst h;rw [Bool.and_eq_true] at hb;exact ⟨Nat.eq_of_beq_eq_true hb.1,fun e=>(by rw [hk] at e;cases e),by simpa using hb.2⟩
     ·cases h
    ·cases h
   ·split at h
    ·split at h
     ·rename_i hb;injection h with h;subst h;rw [Bool.and_eq_true] at hb;exact ⟨Nat.eq_of_beq_eq_true hb.1,fun e=>(by rw [hk] at e;cases e),by simpa using hb.2⟩
     ·cases h
    ·cases h
   ·cases h
  ·cases h
theorem QvD {P:Program} {T:Tys} (hT:QaV P T) {d:Nat} {sh:TypeId→Option (List SK)} {c:TypeId→Bool} (hd:∀ t a,sh t=some a→c t=true→∃ y,T t=some y∧a.length=y.size∧(y.kind.agg=false→y.size=1)∧0<y.size∧QAf P d t y.kind.agg a)
  {ρ:Nm} {w:World}:∀ (fs:List Field) (o:Nat) (ks:List SK) (l l':List SV) (cs cs':Array Value) (b:Bool),QBF sh o (fs.map fun f=>(f.offset,f.type))=some ks→Qmp c fs=true→VSs ρ l cs.toList→VSs ρ l' cs'.toList →
  QaS ks (l.drop o) (l'.drop o)=some b→(Op.eqFields d cs cs' fs).run P w= .ok b w
 | [],o,ks,l,l',cs,cs',b,h,_,_,_,he=>by
  simp only [List.map_nil,QBF,Option.some.injEq] at h;subst h
  have:b=true:=by
   cases e1:l.drop o<;>cases e2:l'.drop o<;>rw [e1,e2] at he<;>simp [QaS] at he
   first|exact he|exact he.symm
  subst this;simp [Op.eqFields]
 | f::fs,o,ks,l,l',cs,cs',b,h,hc,h1,h2,he=>by
  simp only [List.map_cons] at h;unfold QBF at h;simp only [] at h;split at h
  ·rename_i ho
   have ho:=Nat.eq_of_beq_eq_true ho;split at h
   ·rename_i a ha
    split at h
    ·rename_i r hr
     injection h with h;subst h
     unfold Qmp at hc;rw [Bool.and_eq_true,Bool.and_eq_true] at hc;obtain ⟨⟨hn,gK⟩,hc⟩:=hc;obtain ⟨y,hy,gG,fZ,_,qB⟩:=hd _ _ ha gK;obtain ⟨u,v,g1,g2,rfl⟩:=QcC he;have hL:=Qd6 g1
     have VO:o+y.size≤l.length:=by
      have:=hL.1;rw [gG] at this;simp at this;omega
     have KX:o+y.size≤l'.length:=by
      have:=hL.2;rw [gG] at this;simp at this;omega
     obtain ⟨p,p1,p2⟩:=QfY (P:=P) hT hy (w:=w) h1 o VO fZ;obtain ⟨p',p1',p2'⟩:=QfY (P:=P) hT hy (w:=w) h2 o KX fZ;rw [gG] at g1 g2;have hq:=qB ρ w _ _ p p' u p2 p2' g1;have jE:=QvD hT hd (w:=w) fs (o+a.length) r l l' cs cs' v hr hc h1 h2 (by rw [gG];simpa [List.drop_drop,Nat.add_comm] using g2);have uG : f.name ≠ "_" := by simpa using hn
     unfold Op.eqFields;rw [zP uG,ho];simp only [Sem.run_bind,p1,p1',Result.andThen_ok,hq];cases u
     ·simp
     ·simp [jE]
    ·cases h
   ·cases h
  ·cases h
theorem QvA {P:Program} {T:Tys} (hT:QaV P T) {d:Nat} {e:TypeId} {a:List SK} {y:Ty} (hy:T e=some y) (gG:a.length=y.size) (fZ:y.kind.agg=false→y.size=1) (uK:0<y.size) (qB:QAf P d e y.kind.agg a)
  {ρ:Nm} {w:World} {l l':List SV} {cs cs':Array Value} (h1:VSs ρ l cs.toList) (h2:VSs ρ l' cs'.toList):∀ (n i:Nat) (b:Bool),QaS (QzT a n) (l.drop (i*y.size)) (l'.drop (i*y.size))=some b →
   ((
    forIn (List.range' i n) ((none,()):Option Bool × PUnit) fun i r=>do
    if !(← Op.equalIn d e (← part e cs (i*y.size)) (← part e cs' (i*y.size))) then pure (ForInStep.done (some false,())) else pure (ForInStep.yield (none,()))):Sem (Option Bool × PUnit)).run P w= .ok (if b then (none,()) else (some false,())) w
 | 0,i,b,he=>by
  have:b=true:=by
   cases e1:l.drop (i*y.size)<;>cases e2:l'.drop (i*y.size)<;>rw [e1,e2] at he<;>simp [QaS,QzT] at he
   first|exact he|exact he.symm
  subst this;simp
 | n+1,i,b,he=>by
  unfold QzT at he;obtain ⟨u,v,g1,g2,rfl⟩:=QcC he;have hL:=Qd6 g1
  have VO:i*y.size+y.size≤l.length:=by
   have:=hL.1;rw [gG] at this;simp at this;omega
  have KX:i*y.size+y.size≤l'.length:=by
   have:=hL.2;rw [gG] at this;simp at this;omega
  obtain ⟨p,p1,p2⟩:=QfY (P:=P) hT hy (w:=w) h1 (i*y.size) VO fZ;obtain ⟨p',p1',p2'⟩:=QfY (P:=P) hT hy (w:=w) h2 (i*y.size) KX fZ;rw [gG] at g1 g2;have hq:=qB ρ w _ _ p p' u p2 p2' g1;have jE:=QvA hT hy gG fZ uK qB (w:=w) h1 h2 n (i+1) v (by rw [Nat.succ_mul];simpa [List.drop_drop,Nat.add_comm] using g2);rw [List.range'_succ,List.forIn_cons];simp only [Sem.run_bind,p1,p1',Result.andThen_ok,hq];cases u
  ·simp
  ·simp only [Bool.not_true,Bool.false_eq_true,if_false,Sem.run_pure,Result.andThen_ok,Bool.true_and]
   exact jE
theorem QvJ {P:Program} {T:Tys} (hT:QaV P T):∀ (d d':Nat) (t:TypeId) (a:List SK),shp T d t=some a→Qi9 P d t=true→d≤d'→∃ y,T t=some y∧a.length=y.size∧(y.kind.agg=false→y.size=1)∧0<y.size∧QAf P d' t y.kind.agg a
 | 0,_,_,_,h,_,_=>by cases h
 | d+1,0,_,_,_,_,h=>by omega
 | d+1,d'+1,t,a,h,hc,vF=>by
  obtain ⟨y,hy,h1,h2,h3⟩:=QzL h;refine ⟨y,hy,h1,h2,h3,?_⟩;have ih:=fun t a h hc=>QvJ hT d d' t a h hc (by omega)
  unfold shp at h;rw [hy] at h;simp only [] at h;split at h<;>rename_i hk
  ·split at h
   ·injection h with h;subst h;rw [hk];exact QtU ((hT t y hy).int hk)
   ·cases h
  ·split at h
   ·injection h with h;subst h;rw [hk];exact Qo6 ((hT t y hy).bool hk)
   ·cases h
  ·split at h
   ·injection h with h;subst h;rw [hk];exact Qux ((hT t y hy).str hk)
   ·cases h
  ·rename_i fs
   split at h
   ·rename_i a' KC
    split at h
    ·injection h with h;subst h
     obtain ⟨fields,hu,UR⟩:=(hT t y hy).struct hk;unfold Qi9 at hc;rw [hu] at hc;simp only [Bool.and_eq_true,Bool.not_eq_true'] at hc;rw [hk];rintro ρ w l l' v v' b ⟨cs,rfl,g1⟩ ⟨cs',rfl,g2⟩ he;have GS:P.fieldsOf t=fields:=by unfold Program.fieldsOf;rw [hu]
     rw [run_equalIn_struct w d' t cs cs' (by rw [GS];exact hu) hc.1,GS];refine QvD hT (sh:=shp T d) (c:=Qi9 P d) ih fields.toList 0 _ l l' cs cs' b (by rw [UR];exact KC) hc.2 g1 g2 ?_;simpa using he
    ·cases h
   ·cases h
  ·rename_i n e
   split at h
   ·rename_i a' KC
    split at h
    ·injection h with h;subst h
     have hu:=(hT t y hy).arr hk;unfold Qi9 at hc;rw [hu] at hc;simp only [] at hc;obtain ⟨ye,q1,q2,q3,q5,q4⟩:=ih e a' KC hc;rw [hk];rintro ρ w l l' v v' b ⟨cs,rfl,g1⟩ ⟨cs',rfl,g2⟩ he;have hz:=(hT e ye q1).sizeOf w;have:=QvA hT q1 q2 q3 q5 q4 (w:=w) g1 g2 n 0 b (by simpa using he);unfold Op.equalIn;simp only [Sem.run_bind,run_underlying hu,Result.andThen_ok,hz,Std.Legacy.Range.forIn_eq_forIn_range',Std.Legacy.Range.size,Nat.sub_zero,Nat.add_one_sub_one,Nat.add_sub_cancel,Nat.div_one];rw [this];cases b<;>simp
    ·cases h
   ·cases h
  ·cases h
theorem QHd {P:Program} {T:Tys} (hT:QaV P T) {t:TypeId} {y:Ty} {ks:List SK} {l l':List SV} {b:Bool} (hy:T t=some y) (zU:y.kind.agg=true) (hs:shp T 8 t=some ks) (hc:Qi9 P 8 t=true) (hg:P.eqGuardType P.depth t=false) (he:QaS ks l l'=some b):QAL P t l l' b:=by
 intro ρ w cs cs' x z h1 h2;obtain ⟨_,q1,_,_,_,q4⟩:=QvJ hT 8 10000 t ks hs hc (by omega);rw [hy] at q1;injection q1 with q1;subst q1
 rw [zU] at q4;have hr:=q4 ρ w l l' (.agg cs) (.agg cs') b ⟨cs,rfl,h1⟩ ⟨cs',rfl,h2⟩ he;refine ⟨run_eqGuard_agg w .eql t x z cs cs' hg,run_eqGuard_agg w .neq t x z cs cs' hg,?_,?_⟩
 ·rw [run_eql_struct,hr];rfl
 ·rw [run_neq_struct,hr];rfl
end Go.Proofs.YtflelebfmdggkaaGreat
