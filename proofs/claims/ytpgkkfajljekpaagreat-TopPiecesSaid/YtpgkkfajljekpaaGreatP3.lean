import Derived.Test.YtpgkkfajljekpaaGreatP2
import Derived.Below
import Derived.Test.YtpgkkfajljekpaaGreatProg
import Derived.KernelRfl
set_option linter.unusedSimpArgs false
set_option linter.unusedVariables false
set_option maxHeartbeats 0
set_option maxRecDepth 100000
namespace Go.Proofs.YtpgkkfajljekpaaGreat
open Go Go.RowKit
def QHA (w:World) (v:Value) (len:Nat) (cells:List SV):Prop :=
 ∃ p:PL,∀ (ρ:Nm) (n:Nat),ρ n=some p->RowOk ρ w n ⟨false,1,cells⟩/\VS ρ (.sl n 0 len) v
def isv (k:IntKind) (ls:List Int):List SV:=ls.map fun x=>SV.int k x
theorem lrow_ints {k:IntKind} {w:World} {a:Option Addr} {len cap:Nat} {zs:List Int} (h:RowIn k w a len cap zs):∃ ls:List Int,ls.length=len/\(∀ n∈ls,(Lit.int k n).wf=true)/\QHA w (.slice a len cap) len (isv k ls):=by
 obtain ⟨h1,_,h3⟩:=h.rd;refine ⟨zs.take len,h1,h3,?_⟩;rcases h with ⟨rfl,rfl,rfl,rfl⟩|⟨x,rfl,hl,_,hz,hc,hw⟩
 .refine ⟨.empty,fun ρ n hn=>⟨?_,none,0,rfl,Nat.le_refl _,.inr ⟨hn,rfl⟩⟩⟩
  unfold RowOk;rw [hn];rfl
 .by_cases h0:cap=0
  .refine ⟨.empty,fun ρ n hn=>⟨?_,some x,cap,rfl,hl,.inr ⟨hn,h0⟩⟩⟩
   unfold RowOk;rw [hn];have:len=0:=by omega
   subst this;simp [isv]
  .have fC:=hc 0 (by omega)
   obtain ⟨b,off,spot⟩:=x;have hs:spot=none:=by simpa [Addr.add] using World.cell?_spot fC
   subst hs;have hadd:∀ j,(⟨b,off,none⟩:Addr).add j=⟨b,off+j,none⟩:=fun j=>by by_cases h:j=0<;>simp [Addr.add,h]
   obtain ⟨c,t,fz,hb⟩:∃ c t fz,w.heap[b]?=some (.cells c t fz):=by
    rw [hadd] at fC;unfold World.cell? at fC;simp only [] at fC;split at fC
    .rename_i c t fz e;exact ⟨c,t,fz,e⟩
    .cases fC
   have hcell:∀ i,i<cap->c[off+i]?=some (.int k (zs.getD i 0)):=fun i hi=>by
    have:=hc i (by omega);rw [hadd] at this;simpa [World.cell?,hb] using this
   have fZ:off+cap<=c.size:=by
    have:=hcell (cap-1) (by omega);have:=(Array.getElem?_eq_some_iff.1 this).1;omega
   refine ⟨.at ⟨b,off,c.size,1⟩,fun ρ n hn=>⟨?_,some ⟨b,off,none⟩,cap,rfl,hl,.inl ⟨_,hn,.inl ⟨by simp,by simp only [];omega⟩⟩⟩⟩;unfold RowOk;rw [hn];refine ⟨rfl,by simp [isv];omega,c,t,fz,hb,rfl,fun h=>(by cases h),fun i s hs=>?_⟩;unfold isv at hs;rw [List.getElem?_map,List.getElem?_take] at hs;split at hs
   .rename_i hi
    rw [List.getElem?_eq_getElem (by omega)] at hs;injection hs with hs;subst hs
    refine ⟨_,hcell i (by omega),?_⟩;show Value.int k _= .int k _;rw [List.getD_eq_getElem?_getD,List.getElem?_eq_getElem (by omega)];rfl
   .cases hs
def Qwp (w:World):List (Value × Nat × List SV)->List PL->Prop
 | [],[]=>True
 | q::l,p::ps=>(∀ (ρ:Nm) (n:Nat),ρ n=some p->RowOk ρ w n ⟨false,1,q.2.2⟩/\VS ρ (.sl n 0 q.2.1) q.1)/\Qwp w l ps
 | _,_=>False
theorem Qmj {w:World}:∀ {l:List (Value × Nat × List SV)} {ps:List PL},Qwp w l ps->l.length=ps.length/\∀ (i:Nat) q p,l[i]?=some q->ps[i]?=some p->∀ (ρ:Nm) (n:Nat),ρ n=some p->RowOk ρ w n ⟨false,1,q.2.2⟩/\VS ρ (.sl n 0 q.2.1) q.1
 | [],[],_=>⟨rfl,fun i q p h=>by simp at h⟩
 | q::l,p::ps,h=>by
  obtain ⟨h1,h2⟩:=Qmj h.2;refine ⟨by simp [h1],fun i q' p' hq hp=>?_⟩
  cases i with
  | zero=>injection hq with hq;injection hp with hp;subst hq hp;exact h.1
  | succ i=>exact h2 i q' p' hq hp
 | [],_::_,h=>h.elim
 | _::_,[],h=>h.elim
theorem vas_nil (ρ:Nm):VAs ρ [] []:=⟨rfl,fun k s h=>by simp at h⟩
theorem vas_cons {ρ:Nm} {a:AV} {v:Value} {l:List AV} {vs:List Value} (h:VA ρ a v) (hl:VAs ρ l vs):VAs ρ (a::l) (v::vs) :=
 ⟨by simp [hl.1],fun k s hs=>by
  cases k with
  | zero=>injection hs with hs;subst hs;exact ⟨v,rfl,h⟩
  | succ k=>exact hl.2 k s hs⟩
theorem law_of_fn {P:Program} {f:FuncId} {args:List AV} {H:List Row} {vs:Array Value} {w:World} (q:List (Value × Nat × List SV)) (hq:∀ x∈q,QHA w x.1 x.2.1 x.2.2) (hH:H=q.map fun x=>⟨false,1,x.2.2⟩) (hF:Fn P f args H (. =⟨.a (.s (.bool true)),[],[]⟩))
  (ha:∀ ρ:Nm,(∀ (i:Nat) x,q[i]?=some x->VS ρ (.sl i 0 x.2.1) x.1)->VAs ρ args vs.toList):Calls P f vs w fun e w'=>e= .returned (.bool true)/\Below w.heap.size w w':=by
 obtain ⟨ps,vX⟩:∃ ps:List PL,Qwp w q ps:=by
  clear hH ha
  induction q with
  | nil=>exact ⟨[],trivial⟩
  | cons x q ih =>
   obtain ⟨ps,h⟩:=ih fun y hy=>hq y (by simp [hy])
   obtain ⟨p,hp⟩:=hq x (by simp);exact ⟨p::ps,hp,h⟩
 obtain ⟨gG,KX⟩:=Qmj vX;have hHl:H.length=ps.length:=by rw [hH];simp [gG]
 have qL:∀ (i:Nat) r,H[i]?=some r->∃ x p,q[i]?=some x/\ps[i]?=some p/\r=⟨false,1,x.2.2⟩:=fun i r hr=>by
  rw [hH,List.getElem?_map] at hr
  cases e:q[i]? with
  | none=>rw [e] at hr;cases hr
  | some x =>
   rw [e] at hr;injection hr with hr
   have hi:i<ps.length:=by rw [<- gG];exact (List.getElem?_eq_some_iff.1 e).1
   exact ⟨x,ps[i],rfl,List.getElem?_eq_getElem hi,hr.symm⟩
 have jV:∀ (i:Nat) r,H[i]?=some r->r.own=false:=fun i r hr=>by obtain ⟨x,p,_,_,rfl⟩:=qL i r hr;rfl
 refine (hF.2 ⟨fun n=>ps[n]?,fun _ _=>False⟩ w vs (fun n hn=>List.getElem?_eq_none (by omega)) (ha _ fun i x hx=>?_) ⟨fun n r hn=>?_,fun n r m s Ln Lm h1 h2=>?_,fun n r L h1 h2=>?_,rfl,rfl,rfl,Nat.le_refl _,fun _ _ _=>rfl,fun _ _ h=>h.elim⟩).mono fun e w' he=>?_
 .have hi:i<ps.length:=by rw [<- gG];exact (List.getElem?_eq_some_iff.1 hx).1
  exact (KX i x ps[i] hx (List.getElem?_eq_getElem hi) _ i (List.getElem?_eq_getElem hi)).2
 .obtain ⟨x,p,h1,h2,rfl⟩:=qL n r hn
  exact (KX n x p h1 h2 _ n h2).1
 .rw [jV n r h1] at h2;cases h2
 .rw [jV n r h1] at h2;cases h2
 .obtain ⟨_,v,_,rfl,rfl,_,_,hv,hc,_⟩:=he
  have hv:v= .bool true:=hv;refine ⟨by rw [hv],hc.os,hc.tape,hc.output,hc.size,fun b hb=>hc.block b hb ?_⟩;rintro ⟨n,r,L,h1,h2,_⟩;rw [jV n r h1] at h2;cases h2
end Go.Proofs.YtpgkkfajljekpaaGreat
namespace Go.Proofs.YtpgkkfajljekpaaGreat
open Go
def ty2:Ty:=⟨1,8,[.int .i64 0],.int .i64⟩
abbrev ty3:Ty:=ty2
def ty4:Ty:=⟨1,1,[.bool false],.bool⟩
def ty5:Ty:=⟨1,1,[.int .u8 0],.int .u8⟩
abbrev ty6:Ty:=ty5
def ty7:Ty:=⟨4,24,[.int .i64 0,.int .i64 0,.bool false,.int .u8 0],.struct [(0,2),(1,3),(2,4),(3,6)]⟩
abbrev ty8:Ty:=ty7
def ty9:Ty:=⟨1,16,[.str { data:= #[] }],.str⟩
abbrev QJs:Ty:=ty9
abbrev QJt:Ty:=ty9
def ty12:Ty:=⟨1,8,[.int .u64 0],.int .u64⟩
def ty13:Ty:=⟨2,24,[.str { data:= #[] },.int .u64 0],.struct [(0,9),(1,12)]⟩
abbrev QJu:Ty:=ty13
def ty15:Ty:=⟨1,8,[.nil],.ptr 335⟩
def ty16:Ty:=⟨1,8,[.nil],.ptr 338⟩
def ty17:Ty:=⟨1,8,[.nil],.ptr 345⟩
def ty18:Ty:=⟨1,8,[.nil],.struct [(0,17)]⟩
abbrev QJv:Ty:=ty18
def ty21:Ty:=⟨1,4,[.int .i32 0],.int .i32⟩
def ty22:Ty:=⟨1,24,[.nilsl],.slice 3⟩
def ty24:Ty:=⟨1,4,[.int .u32 0],.int .u32⟩
def ty25:Ty:=⟨16,64,[.int .u32 0,.int .u32 0,.int .u32 0,.int .u32 0,.int .u32 0,.int .u32 0,.int .u32 0,.int .u32 0,.int .u32 0,.int .u32 0,.int .u32 0,.int .u32 0,.int .u32 0,.int .u32 0,.int .u32 0,.int .u32 0],.array 16 24⟩
def ty26:Ty:=⟨8,32,[.int .u32 0,.int .u32 0,.int .u32 0,.int .u32 0,.int .u32 0,.int .u32 0,.int .u32 0,.int .u32 0],.array 8 24⟩
def ty27:Ty:=⟨25,100,[.int .u32 0,.int .u32 0,.int .u32 0,.int .u32 0,.int .u32 0,.int .u32 0,.int .u32 0,.int .u32 0,.int .u32 0,.int .u32 0,.int .u32 0,.int .u32 0,.int .u32 0,.int .u32 0,.int .u32 0,.int .u32 0,.int .u32 0,.int .u32 0,.int .u32 0,.int .u32 0,.int .u32 0,.int .u32 0,.int .u32 0,.int .u32 0,.int .u32 0],.struct [(0,25),(16,24),(17,26)]⟩
abbrev QJw:Ty:=ty27
def ty29:Ty:=⟨1,24,[.nilsl],.slice 24⟩
def ty30:Ty:=⟨1,16,[.str { data:= #[] }],.struct [(0,9)]⟩
abbrev QJx:Ty:=ty30
def ty32:Ty:=⟨3,12,[.bool false,.int .u32 0,.bool false],.struct [(0,4),(1,24),(2,4)]⟩
abbrev QJy:Ty:=ty32
def ty34:Ty:=⟨8,56,[.int .u32 0,.int .u32 0,.int .u32 0,.int .i64 0,.int .i64 0,.int .u32 0,.int .u32 0,.str { data:= #[] }],.struct [(0,24),(1,24),(2,24),(3,3),(4,3),(5,24),(6,24),(7,9)]⟩
abbrev QJz:Ty:=ty34
def ty36:Ty:=⟨6,24,[.int .u32 0,.int .u32 0,.bool false,.int .u32 0,.bool false,.int .u32 0],.struct [(0,24),(1,24),(2,4),(3,24),(4,4),(5,24)]⟩
abbrev QJA:Ty:=ty36
def ty38:Ty:=⟨2,8,[.int .u32 0,.int .u32 0],.struct [(0,24),(1,24)]⟩
abbrev QJB:Ty:=ty38
abbrev QJC:Ty:=ty12
def ty41:Ty:=⟨49,264,[.int .u32 0,.int .u32 0,.int .u32 0,.int .u32 0,.int .u32 0,.int .u32 0,.int .u32 0,.int .u32 0,.int .u32 0,.int .u32 0,.int .u32 0,.int .u32 0,.int .u32 0,.int .u32 0,.int .u32 0,.int .u32 0,.int .u32 0,.int .u32 0,.int .u32 0,.int .u32 0,.int .u32 0,.int .u32 0,.int .u32 0,.int .u32 0,.int .u32 0,.nilsl,.str { data:= #[] },.bool false,.int .u32 0,.bool false,.int .u32 0,.int .u32 0,.int .u32 0,.int .i64 0,.int .i64 0,.int .u32 0,.int .u32 0,.str { data:= #[] },.int .u32 0,.int .u32 0,.bool false,.int .u32 0,.bool false,.int .u32 0,.int .u32 0,.int .u32 0,.int .u64 0,.bool false,.bool false],.struct [(0,28),(25,29),(26,31),(27,33),(30,35),(38,37),(44,39),(46,40),(47,4),(48,4)]⟩
abbrev QJD:Ty:=ty41
abbrev QJE:Ty:=ty12
def ty46:Ty:=⟨1,24,[.nilsl],.slice 137⟩
def ty49:Ty:=⟨1,24,[.nilsl],.slice 149⟩
def ty50:Ty:=⟨1,24,[.nilsl],.slice 153⟩
def ty51:Ty:=⟨51,312,[.int .u32 0,.int .u32 0,.int .u32 0,.int .u32 0,.int .u32 0,.int .u32 0,.int .u32 0,.int .u32 0,.int .u32 0,.int .u32 0,.int .u32 0,.int .u32 0,.int .u32 0,.int .u32 0,.int .u32 0,.int .u32 0,.int .u32 0,.int .u32 0,.int .u32 0,.int .u32 0,.int .u32 0,.int .u32 0,.int .u32 0,.int .u32 0,.int .u32 0,.nilsl,.str { data:= #[] },.bool false,.int .u32 0,.bool false,.int .u32 0,.int .u32 0,.int .u32 0,.int .i64 0,.int .i64 0,.int .u32 0,.int .u32 0,.str { data:= #[] },.int .u32 0,.int .u32 0,.bool false,.int .u32 0,.bool false,.int .u32 0,.int .u32 0,.int .u32 0,.int .u64 0,.bool false,.bool false,.nilsl,.nilsl],.struct [(0,42),(49,49),(50,50)]⟩
abbrev QJF:Ty:=ty51
abbrev QJG:Ty:=ty2
def ty62:Ty:=⟨3,32,[.int .i64 0,.int .u32 0,.str { data:= #[] }],.struct [(0,3),(1,24),(2,9)]⟩
abbrev QKc:Ty:=ty62
def ty64:Ty:=⟨4,40,[.int .u64 0,.int .i64 0,.int .u32 0,.str { data:= #[] }],.struct [(0,40),(1,63)]⟩
abbrev QKd:Ty:=ty64
def ty66:Ty:=⟨1,24,[.nilsl],.slice 65⟩
def ty68:Ty:=⟨2,16,[.int .i64 0,.int .i64 0],.struct [(0,56),(1,3)]⟩
abbrev QJI:Ty:=ty68
def ty77:Ty:=⟨4,32,[.int .i64 0,.int .i64 0,.int .i64 0,.int .u32 0],.struct [(0,3),(1,3),(2,3),(3,24)]⟩
abbrev QKe:Ty:=ty77
def ty86:Ty:=⟨1,8,[.nil],.ptr 88⟩
def ty87:Ty:=⟨54,352,[.int .u32 0,.int .u32 0,.int .u32 0,.int .u32 0,.int .u32 0,.int .u32 0,.int .u32 0,.int .u32 0,.int .u32 0,.int .u32 0,.int .u32 0,.int .u32 0,.int .u32 0,.int .u32 0,.int .u32 0,.int .u32 0,.int .u32 0,.int .u32 0,.int .u32 0,.int .u32 0,.int .u32 0,.int .u32 0,.int .u32 0,.int .u32 0,.int .u32 0,.nilsl,.str { data:= #[] },.bool false,.int .u32 0,.bool false,.int .u32 0,.int .u32 0,.int .u32 0,.int .i64 0,.int .i64 0,.int .u32 0,.int .u32 0,.str { data:= #[] },.int .u32 0,.int .u32 0,.bool false,.int .u32 0,.bool false,.int .u32 0,.int .u32 0,.int .u32 0,.int .u64 0,.bool false,.bool false,.nilsl,.nilsl,.nilsl,.int .i64 0,.bool false],.struct [(0,52),(51,46),(52,3),(53,4)]⟩
abbrev QJK:Ty:=ty87
def ty93:Ty:=⟨1,8,[.nil],.ptr 42⟩
def ty95:Ty:=⟨1,8,[.nil],.ptr 26⟩
def ty97:Ty:=⟨1,24,[.nilsl],.slice 180⟩
def ty98:Ty:=⟨1,24,[.nilsl],.slice 103⟩
def ty101:Ty:=⟨1,24,[.nilsl],.slice 105⟩
def ty102:Ty:=⟨6,72,[.str { data:= #[] },.int .i64 0,.nilsl,.int .i64 0,.int .i64 0,.int .i64 0],.struct [(0,9),(1,3),(2,101),(3,3),(4,3),(5,3)]⟩
abbrev QJW:Ty:=ty102
def ty104:Ty:=⟨3,32,[.int .i64 0,.int .i64 0,.str { data:= #[] }],.struct [(0,3),(1,2),(2,9)]⟩
abbrev QJX:Ty:=ty104
def ty109:Ty:=⟨5,40,[.int .i64 0,.int .i64 0,.int .i64 0,.int .i64 0,.int .i32 0],.struct [(0,3),(1,3),(2,3),(3,3),(4,21)]⟩
abbrev QJY:Ty:=ty109
def ty135:Ty:=⟨1,24,[.nilsl],.slice 5⟩
def ty136:Ty:=⟨4,40,[.int .i64 0,.int .u64 0,.int .u32 0,.str { data:= #[] }],.struct [(0,3),(1,40),(2,24),(3,9)]⟩
abbrev ty137:Ty:=ty136
def ty148:Ty:=⟨4,12,[.int .u32 0,.int .u32 0,.bool false,.bool false],.struct [(0,24),(1,24),(2,4),(3,4)]⟩
abbrev ty149:Ty:=ty148
def ty151:Ty:=⟨1,24,[.nilsl],.slice 156⟩
def ty152:Ty:=⟨3,40,[.int .u32 0,.int .i64 0,.nilsl],.struct [(0,24),(1,3),(2,151)]⟩
abbrev ty153:Ty:=ty152
def ty155:Ty:=⟨6,48,[.int .i64 0,.int .i64 0,.int .i64 0,.int .i64 0,.int .u32 0,.int .i64 0],.struct [(0,3),(1,3),(2,3),(3,3),(4,24),(5,3)]⟩
abbrev ty156:Ty:=ty155
def ty175:Ty:=⟨1,24,[.nilsl],.slice 9⟩
def ty179:Ty:=⟨2,24,[.str { data:= #[] },.int .u32 0],.struct [(0,9),(1,24)]⟩
abbrev QJZ:Ty:=ty179
def ty194:Ty:=⟨5,12,[.bool false,.bool false,.bool false,.int .i32 0,.int .i32 0],.struct [(0,4),(1,4),(2,4),(3,21),(4,21)]⟩
abbrev QJ0:Ty:=ty194
def ty230:Ty:=⟨1,24,[.nilsl],.slice 234⟩
def ty233:Ty:=⟨3,32,[.int .i64 0,.str { data:= #[] },.bool false],.struct [(0,3),(1,9),(2,4)]⟩
abbrev QJ1:Ty:=ty233
def ty244:Ty:=⟨1,2,[.int .i16 0],.int .i16⟩
def ty247:Ty:=⟨5,5,[.bool false,.bool false,.bool false,.bool false,.bool false],.array 5 4⟩
def ty250:Ty:=⟨3,16,[.int .u32 0,.int .u32 0,.int .i64 0],.struct [(0,24),(1,24),(2,3)]⟩
abbrev QJ2:Ty:=ty250
def ty266:Ty:=⟨1,8,[.nil],.ptr 268⟩
def ty267:Ty:=⟨2,32,[.nil,.nilsl],.struct [(0,266),(1,135)]⟩
abbrev QJ3:Ty:=ty267
def ty276:Ty:=⟨16,16,[.bool false,.bool false,.bool false,.bool false,.bool false,.bool false,.bool false,.bool false,.bool false,.bool false,.bool false,.bool false,.bool false,.bool false,.bool false,.bool false],.array 16 4⟩
def ty277:Ty:=⟨32,80,[.bool false,.bool false,.bool false,.bool false,.bool false,.bool false,.bool false,.bool false,.bool false,.bool false,.bool false,.bool false,.bool false,.bool false,.bool false,.bool false,.int .u32 0,.int .u32 0,.int .u32 0,.int .u32 0,.int .u32 0,.int .u32 0,.int .u32 0,.int .u32 0,.int .u32 0,.int .u32 0,.int .u32 0,.int .u32 0,.int .u32 0,.int .u32 0,.int .u32 0,.int .u32 0],.struct [(0,276),(16,25)]⟩
abbrev QJ4:Ty:=ty277
def ty293:Ty:=⟨1,8,[.nil],.ptr 28⟩
def ty307:Ty:=⟨1,8,[.nil],.ptr 5⟩
def ty314:Ty:=⟨2,48,[.nilsl,.nilsl],.struct [(0,29),(1,50)]⟩
abbrev QJ5:Ty:=ty314
def ty319:Ty:=⟨1,1,[.int .i8 0],.int .i8⟩
def ty320:Ty:=⟨1,8,[.nil],.ptr 24⟩
def ty325:Ty:=⟨2,48,[.nilsl,.nilsl],.struct [(0,22),(1,50)]⟩
abbrev QJ6:Ty:=ty325
def ty330:Ty:=⟨1,8,[.nil],.ptr 315⟩
def ty332:Ty:=⟨1,8,[.nil],.ptr 326⟩
def ty334:Ty:=⟨4,40,[.nil,.nil,.nil,.str { data:= #[] }],.struct [(0,17),(1,17),(2,17),(3,9)]⟩
abbrev QGU:Ty:=ty334
def ty336:Ty:=⟨0,0,[],.array 0 16⟩
def ty337:Ty:=⟨0,0,[],.struct [(0,336)]⟩
abbrev QJ7:Ty:=ty337
abbrev QJ8:Ty:=ty5
abbrev QJ9:Ty:=ty5
abbrev QKa:Ty:=ty21
abbrev QKb:Ty:=ty21
theorem zty {t:TypeId} {d:TypeDesc} (i:TypeInfo) {y:Ty} {z:Value} (h1:Tryz.prog.underlying t=some d) (h2:Tryz.prog.info? t=some i:=by kernel_rfl) (h3:i.size=y.size:=by exact rfl) (h4:i.bytes=y.bytes:=by exact rfl) (h5:Qey d y.kind:=by first|exact rfl|exact trivial|exact ⟨rfl,rfl⟩) (h6:i.zero=some z:=by exact rfl) (h7:z.cells.toList.map QlL=y.zero:=by exact rfl) (h8:y.zero.length=y.size:=by exact rfl):TyOk Tryz.prog t y:=⟨d,i,z,h1,h2,h3,h4,h5,h6,h7,h8⟩
inductive Tr
 | l
 | n (k:Nat) (y:Ty) (a b:Tr)
noncomputable def Tr.get (t:Tr) (k:Nat):Option Ty:=Tr.rec none (fun i y _ _ p q=>match Nat.beq k i with|true=>some y|false=>match Nat.blt k i with|true=>p|false=>q) t
def Tr.ok:Tr->Prop
 | .l=>True
 | .n k y a b=>TyOk Tryz.prog k y/\a.ok/\b.ok
theorem Qsc:∀ {t:Tr} {k:Nat} {y:Ty},t.ok->t.get k=some y->TyOk Tryz.prog k y
 | .l,_,_,_,h=>by cases h
 | .n i z a b,k,y,⟨h1,h2,h3⟩,h=>by
  change (match Nat.beq k i with|true=>some z|false=>match Nat.blt k i with|true=>a.get k|false=>b.get k)=some y at h;split at h
  .rename_i e
   injection h with h
   subst h;rw [Nat.eq_of_beq_eq_true e];exact h1
  split at h
  .exact Qsc h2 h
  .exact Qsc h3 h
def tr:Tr:= .n 93 ty93 (.n 33 QJy (.n 16 ty16 (.n 9 ty9 (.n 5 ty5 (.n 3 ty3 (.n 2 ty2 .l .l) (.n 4 ty4 .l .l)) (.n 7 ty7 (.n 6 ty6 .l .l) (.n 8 ty8 .l .l))) (.n 13 ty13 (.n 11 QJt (.n 10 QJs .l .l) (.n 12 ty12 .l .l)) (.n 15 ty15 (.n 14 QJu .l .l) .l))) (.n 26 ty26 (.n 21 ty21 (.n 18 ty18 (.n 17 ty17 .l .l) (.n 19 QJv .l .l)) (.n 24 ty24 (.n 22 ty22 .l .l) (.n 25 ty25 .l .l))) (.n 30 ty30 (.n 28 QJw (.n 27 ty27 .l .l) (.n 29 ty29 .l .l)) (.n 32 ty32 (.n 31 QJx .l .l) .l)))) (.n 52 QJF (.n 41 ty41 (.n 37 QJA (.n 35 QJz (.n 34 ty34 .l .l) (.n 36 ty36 .l .l)) (.n 39 QJB (.n 38 ty38 .l .l) (.n 40 QJC .l .l))) (.n 49 ty49 (.n 45 QJE (.n 42 QJD .l .l) (.n 46 ty46 .l .l)) (.n 51 ty51 (.n 50 ty50 .l .l) .l))) (.n 68 ty68 (.n 64 ty64 (.n 62 ty62 (.n 56 QJG .l .l) (.n 63 QKc .l .l)) (.n 66 ty66 (.n 65 QKd .l .l) .l)) (.n 86 ty86 (.n 77 ty77 (.n 69 QJI .l .l) (.n 78 QKe .l .l)) (.n 88 QJK (.n 87 ty87 .l .l) .l))))) (.n 244 ty244 (.n 149 ty149 (.n 105 QJX (.n 101 ty101 (.n 97 ty97 (.n 95 ty95 .l .l) (.n 98 ty98 .l .l)) (.n 103 QJW (.n 102 ty102 .l .l) (.n 104 ty104 .l .l))) (.n 136 ty136 (.n 110 QJY (.n 109 ty109 .l .l) (.n 135 ty135 .l .l)) (.n 148 ty148 (.n 137 ty137 .l .l) .l))) (.n 179 ty179 (.n 155 ty155 (.n 152 ty152 (.n 151 ty151 .l .l) (.n 153 ty153 .l .l)) (.n 175 ty175 (.n 156 ty156 .l .l) .l)) (.n 230 ty230 (.n 194 ty194 (.n 180 QJZ .l .l) (.n 195 QJ0 .l .l)) (.n 234 QJ1 (.n 233 ty233 .l .l) .l)))) (.n 320 ty320 (.n 277 ty277 (.n 266 ty266 (.n 250 ty250 (.n 247 ty247 .l .l) (.n 251 QJ2 .l .l)) (.n 268 QJ3 (.n 267 ty267 .l .l) (.n 276 ty276 .l .l))) (.n 314 ty314 (.n 293 ty293 (.n 278 QJ4 .l .l) (.n 307 ty307 .l .l)) (.n 319 ty319 (.n 315 QJ5 .l .l) .l))) (.n 336 ty336 (.n 332 ty332 (.n 326 QJ6 (.n 325 ty325 .l .l) (.n 330 ty330 .l .l)) (.n 335 QGU (.n 334 ty334 .l .l) .l)) (.n 340 QJ9 (.n 338 QJ7 (.n 337 ty337 .l .l) (.n 339 QJ8 .l .l)) (.n 343 QKb (.n 342 QKa .l .l) .l)))))
theorem QGK:tr.ok:=⟨zty Tryz.t93 Tryz.underlying93,⟨zty Tryz.t33 Tryz.underlying33,⟨zty Tryz.t16 Tryz.underlying16,⟨zty Tryz.t9 Tryz.underlying9,⟨zty Tryz.t5 Tryz.underlying5,⟨zty Tryz.t3 Tryz.underlying3,⟨zty Tryz.t2 Tryz.underlying2,trivial,trivial⟩,⟨zty Tryz.t4 Tryz.underlying4,trivial,trivial⟩⟩,⟨zty Tryz.t7 Tryz.underlying7,⟨zty Tryz.t6 Tryz.underlying6,trivial,trivial⟩,⟨zty Tryz.t8 Tryz.underlying8,trivial,trivial⟩⟩⟩,⟨zty Tryz.t13 Tryz.underlying13,⟨zty Tryz.t11 Tryz.underlying11,⟨zty Tryz.t10 Tryz.underlying10,trivial,trivial⟩,⟨zty Tryz.t12 Tryz.underlying12,trivial,trivial⟩⟩,⟨zty Tryz.t15 Tryz.underlying15,⟨zty Tryz.t14 Tryz.underlying14,trivial,trivial⟩,trivial⟩⟩⟩,⟨zty Tryz.t26 Tryz.underlying26,⟨zty Tryz.t21 Tryz.underlying21,⟨zty Tryz.t18 Tryz.underlying18,⟨zty Tryz.t17 Tryz.underlying17,trivial,trivial⟩,⟨zty Tryz.t19 Tryz.underlying19,trivial,trivial⟩⟩,⟨zty Tryz.t24 Tryz.underlying24,⟨zty Tryz.t22 Tryz.underlying22,trivial,trivial⟩,⟨zty Tryz.t25 Tryz.underlying25,trivial,trivial⟩⟩⟩,⟨zty Tryz.t30 Tryz.underlying30,⟨zty Tryz.t28 Tryz.underlying28,⟨zty Tryz.t27 Tryz.underlying27,trivial,trivial⟩,⟨zty Tryz.t29 Tryz.underlying29,trivial,trivial⟩⟩,⟨zty Tryz.t32 Tryz.underlying32,⟨zty Tryz.t31 Tryz.underlying31,trivial,trivial⟩,trivial⟩⟩⟩⟩,⟨zty Tryz.t52 Tryz.underlying52,⟨zty Tryz.t41 Tryz.underlying41,⟨zty Tryz.t37 Tryz.underlying37,⟨zty Tryz.t35 Tryz.underlying35,⟨zty Tryz.t34 Tryz.underlying34,trivial,trivial⟩,⟨zty Tryz.t36 Tryz.underlying36,trivial,trivial⟩⟩,⟨zty Tryz.t39 Tryz.underlying39,⟨zty Tryz.t38 Tryz.underlying38,trivial,trivial⟩,⟨zty Tryz.t40 Tryz.underlying40,trivial,trivial⟩⟩⟩,⟨zty Tryz.t49 Tryz.underlying49,⟨zty Tryz.t45 Tryz.underlying45,⟨zty Tryz.t42 Tryz.underlying42,trivial,trivial⟩,⟨zty Tryz.t46 Tryz.underlying46,trivial,trivial⟩⟩,⟨zty Tryz.t51 Tryz.underlying51,⟨zty Tryz.t50 Tryz.underlying50,trivial,trivial⟩,trivial⟩⟩⟩,⟨zty Tryz.t68 Tryz.underlying68,⟨zty Tryz.t64 Tryz.underlying64,⟨zty Tryz.t62 Tryz.underlying62,⟨zty Tryz.t56 Tryz.underlying56,trivial,trivial⟩,⟨zty Tryz.t63 Tryz.underlying63,trivial,trivial⟩⟩,⟨zty Tryz.t66 Tryz.underlying66,⟨zty Tryz.t65 Tryz.underlying65,trivial,trivial⟩,trivial⟩⟩,⟨zty Tryz.t86 Tryz.underlying86,⟨zty Tryz.t77 Tryz.underlying77,⟨zty Tryz.t69 Tryz.underlying69,trivial,trivial⟩,⟨zty Tryz.t78 Tryz.underlying78,trivial,trivial⟩⟩,⟨zty Tryz.t88 Tryz.underlying88,⟨zty Tryz.t87 Tryz.underlying87,trivial,trivial⟩,trivial⟩⟩⟩⟩⟩,⟨zty Tryz.t244 Tryz.underlying244,⟨zty Tryz.t149 Tryz.underlying149,⟨zty Tryz.t105 Tryz.underlying105,⟨zty Tryz.t101 Tryz.underlying101,⟨zty Tryz.t97 Tryz.underlying97,⟨zty Tryz.t95 Tryz.underlying95,trivial,trivial⟩,⟨zty Tryz.t98 Tryz.underlying98,trivial,trivial⟩⟩,⟨zty Tryz.t103 Tryz.underlying103,⟨zty Tryz.t102 Tryz.underlying102,trivial,trivial⟩,⟨zty Tryz.t104 Tryz.underlying104,trivial,trivial⟩⟩⟩,⟨zty Tryz.t136 Tryz.underlying136,⟨zty Tryz.t110 Tryz.underlying110,⟨zty Tryz.t109 Tryz.underlying109,trivial,trivial⟩,⟨zty Tryz.t135 Tryz.underlying135,trivial,trivial⟩⟩,⟨zty Tryz.t148 Tryz.underlying148,⟨zty Tryz.t137 Tryz.underlying137,trivial,trivial⟩,trivial⟩⟩⟩,⟨zty Tryz.t179 Tryz.underlying179,⟨zty Tryz.t155 Tryz.underlying155,⟨zty Tryz.t152 Tryz.underlying152,⟨zty Tryz.t151 Tryz.underlying151,trivial,trivial⟩,⟨zty Tryz.t153 Tryz.underlying153,trivial,trivial⟩⟩,⟨zty Tryz.t175 Tryz.underlying175,⟨zty Tryz.t156 Tryz.underlying156,trivial,trivial⟩,trivial⟩⟩,⟨zty Tryz.t230 Tryz.underlying230,⟨zty Tryz.t194 Tryz.underlying194,⟨zty Tryz.t180 Tryz.underlying180,trivial,trivial⟩,⟨zty Tryz.t195 Tryz.underlying195,trivial,trivial⟩⟩,⟨zty Tryz.t234 Tryz.underlying234,⟨zty Tryz.t233 Tryz.underlying233,trivial,trivial⟩,trivial⟩⟩⟩⟩,⟨zty Tryz.t320 Tryz.underlying320,⟨zty Tryz.t277 Tryz.underlying277,⟨zty Tryz.t266 Tryz.underlying266,⟨zty Tryz.t250 Tryz.underlying250,⟨zty Tryz.t247 Tryz.underlying247,trivial,trivial⟩,⟨zty Tryz.t251 Tryz.underlying251,trivial,trivial⟩⟩,⟨zty Tryz.t268 Tryz.underlying268,⟨zty Tryz.t267 Tryz.underlying267,trivial,trivial⟩,⟨zty Tryz.t276 Tryz.underlying276,trivial,trivial⟩⟩⟩,⟨zty Tryz.t314 Tryz.underlying314,⟨zty Tryz.t293 Tryz.underlying293,⟨zty Tryz.t278 Tryz.underlying278,trivial,trivial⟩,⟨zty Tryz.t307 Tryz.underlying307,trivial,trivial⟩⟩,⟨zty Tryz.t319 Tryz.underlying319,⟨zty Tryz.t315 Tryz.underlying315,trivial,trivial⟩,trivial⟩⟩⟩,⟨zty Tryz.t336 Tryz.underlying336,⟨zty Tryz.t332 Tryz.underlying332,⟨zty Tryz.t326 Tryz.underlying326,⟨zty Tryz.t325 Tryz.underlying325,trivial,trivial⟩,⟨zty Tryz.t330 Tryz.underlying330,trivial,trivial⟩⟩,⟨zty Tryz.t335 Tryz.underlying335,⟨zty Tryz.t334 Tryz.underlying334,trivial,trivial⟩,trivial⟩⟩,⟨zty Tryz.t340 Tryz.underlying340,⟨zty Tryz.t338 Tryz.underlying338,⟨zty Tryz.t337 Tryz.underlying337,trivial,trivial⟩,⟨zty Tryz.t339 Tryz.underlying339,trivial,trivial⟩⟩,⟨zty Tryz.t343 Tryz.underlying343,⟨zty Tryz.t342 Tryz.underlying342,trivial,trivial⟩,trivial⟩⟩⟩⟩⟩⟩
noncomputable def tys:Tys:=tr.get
theorem QmO:QaT Tryz.prog tys:=fun _ _ h=>Qsc QGK h
theorem QHZ:ty2.bytes=8/\ty4.bytes=1/\ty5.bytes=1/\ty7.bytes=24/\ty9.bytes=16/\ty12.bytes=8/\ty13.bytes=24/\ty15.bytes=8/\ty16.bytes=8/\ty17.bytes=8/\ty18.bytes=8/\ty21.bytes=4/\ty22.bytes=24/\ty24.bytes=4/\ty25.bytes=64/\ty26.bytes=32/\ty27.bytes=100/\ty29.bytes=24/\ty30.bytes=16/\ty32.bytes=12/\ty34.bytes=56/\ty36.bytes=24/\ty38.bytes=8/\ty41.bytes=264/\ty46.bytes=24/\ty49.bytes=24/\ty50.bytes=24/\ty51.bytes=312/\ty62.bytes=32/\ty64.bytes=40/\ty66.bytes=24/\ty68.bytes=16/\ty77.bytes=32/\ty86.bytes=8/\ty87.bytes=352/\ty93.bytes=8/\ty95.bytes=8/\ty97.bytes=24/\ty98.bytes=24/\ty101.bytes=24/\ty102.bytes=72/\ty104.bytes=32/\ty109.bytes=40/\ty135.bytes=24/\ty136.bytes=40/\ty148.bytes=12/\ty151.bytes=24/\ty152.bytes=40/\ty155.bytes=48/\ty175.bytes=24/\ty179.bytes=24/\ty194.bytes=12/\ty230.bytes=24/\ty233.bytes=32/\ty244.bytes=2/\ty247.bytes=5/\ty250.bytes=16/\ty266.bytes=8/\ty267.bytes=32/\ty276.bytes=16/\ty277.bytes=80/\ty293.bytes=8/\ty307.bytes=8/\ty314.bytes=48/\ty319.bytes=1/\ty320.bytes=8/\ty325.bytes=48/\ty330.bytes=8/\ty332.bytes=8/\ty334.bytes=40/\ty336.bytes=0/\ty337.bytes=0:=⟨rfl,rfl,rfl,rfl,rfl,rfl,rfl,rfl,rfl,rfl,rfl,rfl,rfl,rfl,rfl,rfl,rfl,rfl,rfl,rfl,rfl,rfl,rfl,rfl,rfl,rfl,rfl,rfl,rfl,rfl,rfl,rfl,rfl,rfl,rfl,rfl,rfl,rfl,rfl,rfl,rfl,rfl,rfl,rfl,rfl,rfl,rfl,rfl,rfl,rfl,rfl,rfl,rfl,rfl,rfl,rfl,rfl,rfl,rfl,rfl,rfl,rfl,rfl,rfl,rfl,rfl,rfl,rfl,rfl,rfl,rfl,rfl⟩
theorem QH0:ty2.size=1/\ty4.size=1/\ty5.size=1/\ty7.size=4/\ty9.size=1/\ty12.size=1/\ty13.size=2/\ty15.size=1/\ty16.size=1/\ty17.size=1/\ty18.size=1/\ty21.size=1/\ty22.size=1/\ty24.size=1/\ty25.size=16/\ty26.size=8/\ty27.size=25/\ty29.size=1/\ty30.size=1/\ty32.size=3/\ty34.size=8/\ty36.size=6/\ty38.size=2/\ty41.size=49/\ty46.size=1/\ty49.size=1/\ty50.size=1/\ty51.size=51/\ty62.size=3/\ty64.size=4/\ty66.size=1/\ty68.size=2/\ty77.size=4/\ty86.size=1/\ty87.size=54/\ty93.size=1/\ty95.size=1/\ty97.size=1/\ty98.size=1/\ty101.size=1/\ty102.size=6/\ty104.size=3/\ty109.size=5/\ty135.size=1/\ty136.size=4/\ty148.size=4/\ty151.size=1/\ty152.size=3/\ty155.size=6/\ty175.size=1/\ty179.size=2/\ty194.size=5/\ty230.size=1/\ty233.size=3/\ty244.size=1/\ty247.size=5/\ty250.size=3/\ty266.size=1/\ty267.size=2/\ty276.size=16/\ty277.size=32/\ty293.size=1/\ty307.size=1/\ty314.size=2/\ty319.size=1/\ty320.size=1/\ty325.size=2/\ty330.size=1/\ty332.size=1/\ty334.size=4/\ty336.size=0/\ty337.size=0:=⟨rfl,rfl,rfl,rfl,rfl,rfl,rfl,rfl,rfl,rfl,rfl,rfl,rfl,rfl,rfl,rfl,rfl,rfl,rfl,rfl,rfl,rfl,rfl,rfl,rfl,rfl,rfl,rfl,rfl,rfl,rfl,rfl,rfl,rfl,rfl,rfl,rfl,rfl,rfl,rfl,rfl,rfl,rfl,rfl,rfl,rfl,rfl,rfl,rfl,rfl,rfl,rfl,rfl,rfl,rfl,rfl,rfl,rfl,rfl,rfl,rfl,rfl,rfl,rfl,rfl,rfl,rfl,rfl,rfl,rfl,rfl,rfl⟩
end Go.Proofs.YtpgkkfajljekpaaGreat
namespace Go.Proofs.YtpgkkfajljekpaaGreat
open Go Go.RowKit
noncomputable def fNb (n:Nat) (K:Nat->Bool):Bool:=Nat.rec (K 0) (fun m _=>K (Nat.succ m)) n
theorem Qp2 (n:Nat) (K:Nat->Bool):fNb n K=K n:=by cases n<;>rfl
noncomputable def fLb (l:List Nat):(List Nat->Bool)->Bool:=List.rec (fun K=>K []) (fun a _ ih K=>fNb a fun a=>ih fun l=>K (a::l)) l
theorem QvF:∀ (l:List Nat) (K:List Nat->Bool),fLb l K=K l
 | [],K=>rfl
 | a::l,K=>by
  show fNb a (fun a=>fLb l fun l=>K (a::l))=_;rw [Qp2,QvF l]
structure Inf where
 (dst:Option Nat) (lk rd wr:List Nat)
noncomputable def fPb (l:List Inf):(List Inf->Bool)->Bool:=List.rec (fun K=>K []) (fun a _ ih K=>ih fun l=>K (a::l)) l
theorem QvG:∀ (l:List Inf) (K:List Inf->Bool),fPb l K=K l
 | [],K=>rfl
 | a::l,K=>by
  show fPb l (fun l=>K (a::l))=_;rw [QvG l]
noncomputable def QEJ (l m:List Nat):Bool:=List.rec true (fun x _ ih=>match QcY x m with
 | true=>false
 | false=>ih) l
theorem QkN:∀ {l m:List Nat},QEJ l m=true->Qof l m=true
 | [],m,h=>rfl
 | x::l,m,h=>by
  change (match QcY x m with|true=>false|false=>QEJ l m)=true at h;split at h
  .cases h
  .rename_i hb
   unfold Qof;rw [List.all_cons,Bool.and_eq_true];refine ⟨?_,QkN h⟩;rw [List.all_eq_true];intro y hy
   cases hc:Nat.beq x y with
   | true=>have:=Nat.eq_of_beq_eq_true hc;subst this;exact absurd hy (QgK hb)
   | false=>rfl
def Qt2 (d:Option Nat) (l:List Nat):Bool:=match d with
 | some d=> !QcY d l
 | none=>true
def neD (d e:Option Nat):Bool:=match d,e with
 | some d,some e=> !Nat.beq d e
 | _,_=>true
noncomputable def apI (x y:Inf):Bool:=Qt2 x.dst y.lk&&neD x.dst y.dst&&Qt2 y.dst x.lk&&QEJ x.wr y.rd&&QEJ y.wr x.rd
def Qnl (arr:Array Oper) (o:Oper) (d:Did):Inf:=⟨o.dst,o.looksAt arr,d.rd,d.wr⟩
theorem Qfz {d:Nat} {l:List Nat} (h:QcY d l=false):l.contains d=false:=by grind [List.contains_iff_mem,QgK,QcY]
theorem QAW {arr:Array Oper} {x y:Oper} {d e:Did} (h:apI (Qnl arr x d) (Qnl arr y e)=true):(x.apart arr y&&Qof d.wr e.rd&&Qof e.wr d.rd)=true:=by
 unfold apI Qnl at h;simp only [Bool.and_eq_true] at h;obtain ⟨⟨⟨⟨h1,h2⟩,_⟩,h4⟩,h5⟩:=h;rw [QkN h4,QkN h5,Bool.and_true,Bool.and_true];unfold Oper.apart;rw [Bool.and_eq_true];constructor
 .cases hx:x.dst with
  | none=>rfl
  | some a =>
   rw [hx] at h1 h2;simp only [Qt2,Bool.not_eq_true'] at h1;simp only [Bool.and_eq_true];refine ⟨by rw [Qfz h1];rfl,?_⟩
   cases hy:y.dst with
   | none=>rfl
   | some b=>grind [neD,Bool.not_eq_true',Nat.ne_of_beq_eq_false,apI,Qnl,Qof]
 .grind [Qt2,Bool.not_eq_true',Qfz,apI,Qnl,Qof]
noncomputable def chk (m:Nat) (cur:Inf) (l:List Inf):Nat->Bool:=List.rec (fun _=>true) (fun p _ ih i=>match m.testBit i with
 | true=>fNb (i+1) ih
 | false=>match apI p cur with
  | true=>fNb (i+1) ih
  | false=>false) l
theorem Qvp {m:Nat} {cur:Inf}:∀ {l:List Inf} {s:Nat},chk m cur l s=true->∀ (i:Nat) p,l[i]?=some p->m.testBit (s+i)=true\/apI p cur=true
 | [],s,_,i,p,h=>by simp at h
 | q::l,s,h,i,p,hi=>by
  change (match m.testBit s with|true=>fNb (s+1) (chk m cur l)|false=>match apI q cur with|true=>fNb (s+1) (chk m cur l)|false=>false)=true at h;rw [Qp2] at h
  have next:chk m cur l (s+1)=true:=by
   split at h
   .exact h
   .split at h
    .exact h
    .cases h
  cases i with
  | zero =>
   injection hi with hi;subst hi
   split at h
   .rename_i hb;exact .inl hb
   .split at h
    .rename_i hb;exact .inr hb
    .cases h
  | succ i =>
   rw [show s+(i+1)=s+1+i by omega];exact Qvp next i p (by simpa using hi)
noncomputable def Qpg (arr:Array Oper) (l:List Oper):List Did->List Nat->List Inf->Bool :=
 List.rec (fun _ _ _=>true) (fun o _ ih ds acc prev=>match ds with
  | []=>false
  | d::ds=>fNb (Qfy o acc) fun m=>fLb (o.looksAt arr) fun lk=>fLb d.rd fun rd=>fLb d.wr fun wr=>match chk m ⟨o.dst,lk,rd,wr⟩ prev 0 with
   | true=>fLb (acc++ [m]) fun acc=>fPb (prev++ [⟨o.dst,lk,rd,wr⟩]) fun prev=>ih ds acc prev
   | false=>false) l
theorem QjJ:∀ (l:List Oper) (acc:List Nat) (k:Nat),k<acc.length->(QbL l acc).getD k 0=acc.getD k 0
 | [],acc,k,_=>rfl
 | o::l,acc,k,h=>by
  show (QbL l (acc++ [Qfy o acc])).getD k 0=_;rw [QjJ l _ k (by simp;omega),List.getD_eq_getElem?_getD,List.getElem?_append_left h,<- List.getD_eq_getElem?_getD]
theorem Qjg {arr:Array Oper} {all:List Oper} {dsA:List Did} (harr:arr=all.toArray):∀ (l:List Oper) (ds:List Did) (acc:List Nat) (prev:List Inf) (pre:List Oper) (dpre:List Did),Qpg arr l ds acc prev=true->all=pre++l->dsA=dpre++ds ->
  acc.length=pre.length->dpre.length=pre.length->prev.length=pre.length->QbL all []=QbL l acc->(∀ (i:Nat) p,prev[i]?=some p->∃ o d,pre[i]?=some o/\dpre[i]?=some d/\p=Qnl arr o d) ->
  ∀ j,pre.length<=j->j<all.length->∀ i,i<j->(((QbL all []).getD j 0).testBit i||Qdj all dsA i j)=true
 | [],ds,acc,prev,pre,dpre,_,h1,_,_,_,_,_,_,j,hj,JA,i,hi=>by subst h1;simp at JA;omega
 | o::l,ds,acc,prev,pre,dpre,hq,h1,h2,h3,h4,h5,h6,h7,j,hj,JA,i,hi=>by
  cases ds with
  | nil=>cases hq
  | cons d ds =>
   change (fNb (Qfy o acc) fun m=>fLb (o.looksAt arr) fun lk=>fLb d.rd fun rd=>fLb d.wr fun wr=>match chk m ⟨o.dst,lk,rd,wr⟩ prev 0 with
    | true=>fLb (acc++ [m]) fun acc=>fPb (prev++ [⟨o.dst,lk,rd,wr⟩]) fun prev=>Qpg arr l ds acc prev
    | false=>false)=true at hq
   simp only [Qp2,QvF,QvG] at hq;split at hq
   .rename_i hc
    by_cases hjp:j=pre.length
    .subst hjp
     have hm:(QbL all []).getD pre.length 0=Qfy o acc:=by
      rw [h6];show (QbL l (acc++ [Qfy o acc])).getD pre.length 0=_;rw [QjJ l _ _ (by simp;omega),<- h3];simp [List.getD]
     obtain ⟨p,hp⟩:∃ p,prev[i]?=some p:=⟨_,List.getElem?_eq_getElem (by omega)⟩;obtain ⟨o',d',q1,q2,rfl⟩:=h7 i p hp;rw [hm,Bool.or_eq_true];rcases Qvp hc i _ hp with h8|h8
     .rw [Nat.zero_add] at h8;exact .inl h8
     .right
      unfold Qdj;have e1:all[i]?=some o':=by rw [h1,List.getElem?_append_left hi];exact q1
      have e2:all[pre.length]?=some o:=by rw [h1,List.getElem?_append_right (Nat.le_refl _)];simp
      have e3:dsA[i]?=some d':=by rw [h2,List.getElem?_append_left (by omega)];exact q2
      have e4:dsA[pre.length]?=some d:=by rw [h2,<- h4,List.getElem?_append_right (Nat.le_refl _)];simp
      rw [e1,e2,e3,e4];simp only [];rw [<- harr];exact QAW h8
    .refine Qjg harr l ds _ _ (pre++ [o]) (dpre++ [d]) hq (by simp [h1]) (by simp [h2]) (by simp [h3]) (by simp [h4]) (by simp [h5]) h6 (fun i p hp=>?_) j (by simp;omega) JA i hi
     by_cases UD:i<prev.length
     .rw [List.getElem?_append_left UD] at hp
      obtain ⟨o',d',q1,q2,q3⟩:=h7 i p hp;exact ⟨o',d',by rw [List.getElem?_append_left (by omega)];exact q1,by rw [List.getElem?_append_left (by omega)];exact q2,q3⟩
     .rw [List.getElem?_append_right (by omega)] at hp
      have:i=prev.length:=by
       have:=(List.getElem?_eq_some_iff.1 hp).1;simp at this;omega
      subst this;simp at hp;exact ⟨o,d,by rw [h5,List.getElem?_append_right (Nat.le_refl _)];simp,by rw [h5,<- h4,List.getElem?_append_right (Nat.le_refl _)];simp,hp.symm⟩
   .cases hq
noncomputable def Qpf (all:List Oper) (ds:List Did):Bool:=match Qhw all 0 with
 | true=>Qpg all.toArray all ds [] []
 | false=>false
theorem QlZ {all:List Oper} {ds:List Did} (h:Qpf all ds=true):Qeb all ds=true:=by
 unfold Qpf at h;split at h
 .rename_i he
  unfold Qeb;rw [he,Bool.true_and,List.all_eq_true];intro j hj;rw [List.all_eq_true];intro i hi;exact Qjg rfl all ds [] [] [] [] h rfl rfl rfl rfl rfl rfl (fun i p hp=>by simp at hp) j (Nat.zero_le _) (by simpa using hj) i (by simpa using hi)
 .cases h
theorem Qx6:Tryz.prog.follows .mixedOrders=true:=by kernel_rfl
theorem Qb1 {x:Int} (h1: -9223372036854775808<=x) (h2:x<=9223372036854775807):IntKind.i64.wrap x=x:=by rw [IntKind.wrap_i64];omega
theorem Qe4 {x:Int} (h1:0<=x) (h2:x<=4294967295):IntKind.u32.wrap x=x:=by
 show x%4294967296=x;omega
theorem Qcf (x:Int):IntKind.u32.wrap x=x%4294967296:=rfl
theorem wu8 {x:Int} (h1:0<=x) (h2:x<=255):IntKind.u8.wrap x=x:=by show x%256=x;omega
theorem Qol (x:Int):IntKind.u8.wrap x=x%256:=rfl
theorem QuW {x:Int} (h1:0<=x) (h2:x<=18446744073709551615):IntKind.u64.wrap x=x:=by show x%18446744073709551616=x;omega
theorem Qn5 (x:Int):IntKind.u64.wrap x=x%18446744073709551616:=rfl
theorem QC4 {x:Int} (h1: -2147483648<=x) (h2:x<=2147483647):IntKind.i32.wrap x=x:=by
 have e:IntKind.i32.wrap x=if x%4294967296>=2147483648 then x%4294967296-4294967296 else x%4294967296:=by
  unfold IntKind.wrap;simp [IntKind.signed,IntKind.bits]
 rw [e];split<;>omega
theorem QbH {c l:List SV} (h:c.length=l.length):QaC c 0 l=l:=by
 apply List.ext_getElem?;intro j;rw [Qbg c 0 l j (by omega)];split
 .rfl
 .grind
theorem Qj0 {c l:List SV} (h:Nat.beq c.length l.length=true):QaC c 0 l=l:=QbH (Nat.eq_of_beq_eq_true h)
theorem QoE (op:BinOp) (k:IntKind) (a b:Int):bits op k a b=bits op k a b:=rfl
theorem QmK {x y:Int} (h1:0<=x):x.tdiv y=x / y:=Int.tdiv_eq_ediv_of_nonneg h1
theorem Qge {x y:Int} (h1:0<=x):x.tmod y=x%y:=Int.tmod_eq_emod_of_nonneg h1
theorem Qzb {all:List Oper} {ds:List Did} {k:Prop} (h:Qpf all ds=true) (hk:k):Sd (Qeb all ds=true) k:= .mk (QlZ h) hk
inductive Fc {α:Type}:α->α->Prop
 | mk {a b:α} (h:a=b):Fc a b
theorem Fc.eq {α:Type} {a b:α} (h:Fc a b):a=b:=by cases h;assumption
theorem QBz {α:Type} {a b:α} (h:Fc a b):a=b:=h.eq
theorem Qp4 {α:Type} {a b:α} (h:Fc a b):Fc (some a) (some b):=⟨h.eq ▸ rfl⟩
theorem QBC {α:Type}:Fc ([]:List α) []:=⟨rfl⟩
theorem Qxu {α:Type} {a b:α} {l m:List α} (h1:Fc a b) (h2:Fc l m):Fc (a::l) (b::m):=⟨by rw [h1.eq,h2.eq]⟩
theorem QBA {k:IntKind} {x:Int}:Fc (SV.int k x) (.int k x):=⟨rfl⟩
theorem Qxt {b:Bool}:Fc (SV.bool b) (.bool b):=⟨rfl⟩
theorem QIT:Fc SV.nil .nil:=⟨rfl⟩
theorem QFN:Fc SV.nilsl .nilsl:=⟨rfl⟩
theorem QBH:Fc SV.unk .unk:=⟨rfl⟩
theorem QBD {i o}:Fc (SV.ptr i o) (.ptr i o):=⟨rfl⟩
theorem QFO {i o n}:Fc (SV.sl i o n) (.sl i o n):=⟨rfl⟩
theorem QBF {s}:Fc (SV.str s) (.str s):=⟨rfl⟩
theorem QFL {f c}:Fc (SV.fn f c) (.fn f c):=⟨rfl⟩
theorem QFI:Fc ([]:List AV) []:=⟨rfl⟩
theorem QFH {a b:AV} {l m:List AV} (h1:Fc a b) (h2:Fc l m):Fc (a::l) (b::m):=⟨by rw [h1.eq,h2.eq]⟩
theorem QIU {a b:SV} (h:Fc a b):Fc (AV.s a) (.s b):=⟨by rw [h.eq]⟩
theorem QBy {a b:List SV} (h:Fc a b):Fc (AV.agg a) (.agg b):=⟨by rw [h.eq]⟩
theorem QFP {a b:AV} (h:Fc a b):Fc (TV.a a) (.a b):=⟨by rw [h.eq]⟩
theorem QBG {a b:List AV} (h:Fc a b):Fc (TV.tup a) (.tup b):=⟨by rw [h.eq]⟩
theorem QFQ:Fc TV.unk .unk:=⟨rfl⟩
theorem QBB {n:Nat}:Fc n n:=⟨rfl⟩
theorem QFJ {b:Bool}:Fc b b:=⟨rfl⟩
theorem Qxv {α:Type}:Fc (none:Option α) none:=⟨rfl⟩
theorem Qxw {α β:Type} {a a':α} {b b':β} (h1:Fc a a') (h2:Fc b b'):Fc (a,b) (a',b'):=⟨by rw [h1.eq,h2.eq]⟩
theorem QBE {o:Bool} {e e':Nat} {c c':List SV} (h1:Fc e e') (h2:Fc c c'):Fc (Row.mk o e c) ⟨o,e',c'⟩:=⟨by rw [h1.eq,h2.eq]⟩
theorem QFK {v v':TV} {u u':List (Nat × Option Row)} {n n':List (Nat × Row)} (h1:Fc v v') (h2:Fc u u') (h3:Fc n n'):Fc (Ef.mk v u n) ⟨v',u',n'⟩:=⟨by rw [h1.eq,h2.eq,h3.eq]⟩
def wsv (xs:List Nat):List SV:=xs.map fun (x:Nat)=>SV.int .u32 x
@[simp] theorem wsv_length (xs:List Nat):(wsv xs).length=xs.length:=by simp [wsv]
theorem QaY (xs:List Nat) (i:Nat) (h:i<xs.length):(wsv xs)[i]?=some (.int .u32 (xs.getD i 0:Nat)):=by grind [wsv,List.getElem?_eq_getElem,List.getD]
theorem Qaa (xs:List Nat):Qad (wsv xs)=true:=by
 induction xs with
 | nil=>rfl
 | cons x xs ih=>exact ih
theorem QbD (xs:List Nat):Qat (wsv xs)=true:=by
 induction xs with
 | nil=>rfl
 | cons x xs ih=>exact ih
theorem QeT {m:List Em} {k n0:Nat} {l:List SV} (h:Qad l=true):l.map (QcM m k n0)=l:=by
 induction l with
 | nil=>rfl
 | cons s l ih =>
  unfold Qad at h
  cases e:s.scal with
  | false=>grind
  | true =>
   rw [e] at h;rw [List.map_cons,ih h];cases s<;>simp [SV.scal] at e<;>rfl
theorem QvJ {m:List Em} {k n0:Nat} {l:List SV} (h:Qad l=true):Fc (l.map (QcM m k n0)) l:=⟨QeT h⟩
@[simp] theorem ren_wsv {m:List Em} {k n0:Nat} (xs:List Nat):(wsv xs).map (QcM m k n0)=wsv xs:=QeT (Qaa xs)
theorem Qa6 {cells:List SV} {n:Nat} (l:List SV) (h:cells.length=n) (e:cells=l:=by rfl):l.length=n/\∀ (j:Nat) s,l[j]?=some s->cells[0+j]?=some s:=by grind
theorem Qv6 {cells l:List SV} {o n:Nat} (h:(cells.drop o).take n=l) (hn:l.length=n):l.length=n/\∀ (j:Nat) s,l[j]?=some s->cells[o+j]?=some s:=by grind
theorem QGr {cells l:List SV} {o n:Nat} (h:Fc ((cells.drop o).take n) l) (hn:l.length=n):l.length=n/\∀ (j:Nat) s,l[j]?=some s->cells[o+j]?=some s:=Qv6 h.eq hn
theorem Qc8 {cells:List SV} {n:Nat} (l:List SV) (h:cells.length=n) (hk:Qat cells=true) (e:cells=l:=by rfl):l.length=n/\Qat l=true/\∀ (j:Nat) s,l[j]?=some s->cells[0+j]?=some s:=by grind
theorem QGw {cells l:List SV} {o n:Nat} (h:Fc ((cells.drop o).take n) l) (hn:l.length=n) (hk:Qat l=true):l.length=n/\Qat l=true/\∀ (j:Nat) s,l[j]?=some s->cells[o+j]?=some s :=
 ⟨hn,hk,(Qv6 h.eq hn).2⟩
theorem Qag {P:Program} {det:Bool} {f:FuncId} {l:List AV} {hp:Hp} {n0:Nat} {K:KK} {args:List AV} {H:List Row} {R:Res} (hF:Fn P f args H (. =R)) (m:List Em) (fp:List (Nat × Row)) (h2:l=args.map (QcZ m H.length n0)) (h3:QAr hp fp)
  (h4:QhQ m H.length n0 0 m H fp) (h5:Nat.ble R.nw.length Qap=true/\∀ p∈R.up,p.1<H.length) (k:Vl (R.ef m H.length n0) fun e=>K fp e):Cll P det f l hp n0 K :=
 .mk args H m fp _ hF h2 h3 h4 (fun _ e=>e ▸ ⟨Nat.le_of_ble_eq_true h5.1,h5.2⟩) (fun _=>⟨R,rfl⟩) (fun _ e=>e ▸ k)
theorem Qbn {H:List Row}:∀ p∈([]:List (Nat × Option Row)),p.1<H.length:=fun _ h=>by cases h
theorem Qac {P:Program} {det:Bool} {f:FuncId} {l:List AV} {hp:Hp} {n0:Nat} {K:KK} {args:List AV} {v:TV} (hF:Fn P f args [] (. =⟨v,[],[]⟩)) (h2:l=args.map (QcZ [] 0 n0)) (k:Vl (QCv [] 0 n0 v) fun v=>K [] ⟨v,[],[]⟩):Cll P det f l hp n0 K :=
 Qag hF [] [] h2 trivial trivial ⟨rfl,Qbn⟩ (by obtain ⟨_,h,k⟩:=k;exact ⟨_,rfl,by rw [<- h] at k;exact k⟩)
theorem Qas {mm:List Em} {k n0 i n es:Nat} {cells:List SV} {own:Bool} (h:Qad cells=true):Qd8 mm k n0 i ⟨n,0⟩ ⟨false,es,cells⟩ ⟨own,es,cells⟩ :=
 ⟨rfl,fun q s hs=>by
  simp only [] at hs |-;rw [Nat.zero_add,hs];have:=QcT h s (List.mem_of_getElem? hs)
  cases s<;>simp [SV.scal] at this<;>rfl,by simp,fun h=>by cases h⟩
theorem QyL {mm:List Em} {k n0 i n es:Nat} {cells:List SV} (h:Qad cells=true) (hi:∀ (j:Nat) (f:Em),mm[j]?=some f->j≠i->f.n≠n):Qd8 mm k n0 i ⟨n,0⟩ ⟨true,es,cells⟩ ⟨true,es,cells⟩ :=
 ⟨rfl,fun q s hs=>by
  simp only [] at hs |-;rw [Nat.zero_add,hs];have:=QcT h s (List.mem_of_getElem? hs)
  cases s<;>simp [SV.scal] at this<;>rfl,by simp,fun _=>⟨rfl,rfl,rfl,hi⟩⟩
def Qy9:AV->Bool
 | .s s=>s.scal
 | .agg l=>Qad l
def QmC:List AV->Bool
 | []=>true
 | x::l=>Qy9 x&&QmC l
def Qza:TV->Bool
 | .unk=>true
 | .a x=>Qy9 x
 | .tup l=>QmC l
theorem Qak {m:Rn}:∀ {l:List SV},Qad l=true->SVsM m l l
 | [],_=> .nil
 | s::l,h=>by
  unfold Qad at h;split at h
  .rename_i hs;exact .cons (Qgd hs) (Qak h)
  .cases h
theorem QlN {m:Rn}:∀ {x:AV},Qy9 x=true->AVm m x x
 | .s _,h=>Qgd h
 | .agg _,h=>Qak h
theorem Qi0 {m:Rn}:∀ {l:List AV},QmC l=true->QsM m l l
 | [],_=>trivial
 | x::l,h=>by
  unfold QmC at h;simp at h;exact ⟨QlN h.1,Qi0 h.2⟩
theorem QmN {m:Rn}:∀ {x:TV},Qza x=true->TVm m x x
 | .unk,_=>trivial
 | .a _,h=>⟨_,rfl,QlN h⟩
 | .tup _,h=>⟨_,rfl,Qi0 h⟩
theorem Qan {σ:St} {x v:TV} (hs:Qza v=true) (e:x=v):Fin [] (. =⟨v,[],[]⟩) σ x:=by
 subst e;exact Fin.mk _ [] rfl (QmN hs) trivial rfl
theorem Qa2 {l l':List SV} (h:Qad l=true) (h':Qad l'=true):Qad (l++l')=true:=by
 induction l with
 | nil=>exact h'
 | cons s l ih=>grind [Qad]
theorem QcJ {m:Rn} {z y:AV} (h:AVm m z y):TVm m (.a z) (.a y):=⟨_,rfl,h⟩
theorem QiE {m:Rn} {z y:List AV} (h:QsM m z y):TVm m (.tup z) (.tup y):=⟨_,rfl,h⟩
theorem Qkt {m:Rn} {z y:List SV} (h:SVsM m z y):AVm m (.agg z) (.agg y):=h
theorem Qcu {m:Rn} {z y:SV} (h:SVm m z y):AVm m (.s z) (.s y):=h
theorem QfT {m:Rn}:QsM m [] []:=trivial
theorem QeA {m:Rn} {x y:AV} {l l':List AV} (h:AVm m x y) (h':QsM m l l'):QsM m (x::l) (y::l'):=⟨h,h'⟩
theorem Qr5 {m:Rn} {n c o:Nat} (h:QaW m n=some (some c)):SVm m (.ptr c o) (.ptr n o):=⟨c,h,rfl⟩
theorem Qcz {m:Rn} {n c o k:Nat} (h:QaW m n=some (some c)):SVm m (.sl c o k) (.sl n o k):= .inl ⟨c,h,rfl⟩
theorem QeY {m:Rn} {n o:Nat} (h:QaW m n=some none):SVm m .nilsl (.sl n o 0):= .inr ⟨h,rfl,rfl⟩
theorem Qj4 {m:Rn} {es:Nat}:SVm m .nilsl (.fz es 0 []):= .inr ⟨rfl,rfl,rfl⟩
theorem QaK {m:Rn} {hp:Hp} {s:List Nat}:HlS m hp s []:=trivial
theorem Qf1 {m:Rn} {hp:Hp} {s:List Nat} {p:Nat × Option Row} {l:Hl} (h:QcY p.1 s=true) (h':HlS m hp (p.1::s) l):HlS m hp s (p::l):=⟨by rw [h];trivial,h'⟩
theorem Qid {m:Rn} {hp:Hp} {s:List Nat} {n:Nat} {l:Hl} (h':HlS m hp (n::s) l):HlS m hp s ((n,none)::l):=⟨by cases QcY n s<;>trivial,h'⟩
theorem Qar {m:Rn} {hp:Hp} {s:List Nat} {n:Nat} {r:Row} {l:Hl} (h:RowMt m hp n r) (h':HlS m hp (n::s) l):HlS m hp s ((n,some r)::l):=⟨by cases QcY n s;exact h;trivial,h'⟩
theorem Qao {m:Rn} {hp:Hp} {n c:Nat} {r r':Row} (h1:QaW m n=some (some c)) (h2:hp c=some r) (h3:r.es=r'.es) (h4:(!r'.own||(r.own&&QAu m n c))=true) (h5:SVsM m r.cells r'.cells):RowMt m hp n r' :=
 .inl ⟨c,r,h1,h2,h3,fun h=>by rw [h] at h4;simpa using h4,h5⟩
theorem QcQ {m:Rn} {hp:Hp} {n:Nat} {r':Row} (h1:QaW m n=some none) (h2:r'.cells= []):RowMt m hp n r':= .inr ⟨h1,h2⟩
theorem QxL {m:Rn} {hp fY:Hp} {s:List Nat}:QcL m hp fY s []:=trivial
theorem QtK {m:Rn} {hp fY:Hp} {s:List Nat} {p:Nat × Option Row} {l:Hl} (h:QcY p.1 s=true) (h':QcL m hp fY (p.1::s) l):QcL m hp fY s (p::l):=⟨by rw [h];trivial,h'⟩
theorem QtJ {m:Rn} {hp fY:Hp} {s:List Nat} {n:Nat} {l:Hl} (h':QcL m hp fY (n::s) l):QcL m hp fY s ((n,none)::l):=⟨by cases QcY n s<;>trivial,h'⟩
theorem QxM {m:Rn} {hp fY:Hp} {s:List Nat} {n:Nat} {r:Row} {l:Hl} (h:Qve m hp fY n r) (h':QcL m hp fY (n::s) l):QcL m hp fY s ((n,some r)::l):=⟨by cases QcY n s;exact h;trivial,h'⟩
theorem QyM {m:Rn} {hp fY:Hp} {n c:Nat} {r r':Row} (h1:QaW m n=some (some c)) (h2:hp c=some r) (h3:r.es=r'.es) (h4:(!r'.own||(r.own&&QEO m fY n c))=true) (h5:SVsM m r.cells r'.cells):Qve m hp fY n r' :=
 .inl ⟨c,r,h1,h2,h3,fun h=>by rw [h] at h4;simpa using h4,h5⟩
theorem Qun {m:Rn} {hp fY:Hp} {n:Nat} {r':Row} (h1:QaW m n=some none) (h2:r'.cells= []):Qve m hp fY n r':= .inr ⟨h1,h2⟩
theorem QaX {m:Rn} {tm:Nat->TV}:TmL m tm []:=trivial
theorem QaL {m:Rn} {tm:Nat->TV} {t:Nat} {v:TV} {l:Tm} (h:TVm m (tm t) v) (h':TmL m tm l):TmL m tm ((t,v)::l):=⟨h,h'⟩
theorem QaJ {m:Rn} {s:SV} (h:s.scal=true):SVm m s s:=Qgd h
def QAA (n:Nat):Nat->Nat->List Em->Bool
 | _,_,[]=>true
 | i,j,f::l=>(Nat.beq j i|| !Nat.beq f.n n)&&QAA n i (j+1) l
theorem Qq0 {n i:Nat}:∀ {l:List Em} {s:Nat},QAA n i s l=true->∀ (j:Nat) (f:Em),l[j]?=some f->s+j≠i->f.n≠n
 | f::l,s,h,0,g,e,fJ=>by
  injection e with e;subst e
  unfold QAA at h;rw [Bool.and_eq_true,Bool.or_eq_true] at h;rcases h.1 with h|h
  .simp_all
  .intro e
   rw [e,Nat.beq_refl] at h;cases h
 | f::l,s,h,j+1,g,e,fJ=>by
  unfold QAA at h;rw [Bool.and_eq_true] at h;exact Qq0 h.2 j g e (by omega)
theorem QaI {mm:List Em} {k n0 i n es:Nat} {cells:List SV} (h:Qad cells=true) (ho:QAA n i 0 mm=true):Qd8 mm k n0 i ⟨n,0⟩ ⟨true,es,cells⟩ ⟨true,es,cells⟩ :=
 QyL h fun j f hj fJ=>Qq0 ho j f hj (by omega)
theorem Qcb {mm:List Em} {k n0 i n es:Nat} {cells cells':List SV} (h:cells'=cells.map (QcM mm k n0)) (ho:QAA n i 0 mm=true):Qd8 mm k n0 i ⟨n,0⟩ ⟨true,es,cells⟩ ⟨true,es,cells'⟩:=by
 subst h;exact ⟨rfl,fun q s hs=>by simp only [] at hs |-;rw [Nat.zero_add,List.getElem?_map,hs];rfl,by simp,fun _=>⟨rfl,rfl,by simp,fun j f hj fJ=>Qq0 ho j f hj (by omega)⟩⟩
theorem Qmz {mm:List Em} {k n0 i n es:Nat} {own:Bool} {cells cells':List SV} (h:cells'=cells.map (QcM mm k n0)):Qd8 mm k n0 i ⟨n,0⟩ ⟨false,es,cells⟩ ⟨own,es,cells'⟩:=by
 subst h;exact ⟨rfl,fun q s hs=>by simp only [] at hs |-;rw [Nat.zero_add,List.getElem?_map,hs];rfl,by simp,fun h=>by cases h⟩
theorem QiL (a b:List Nat):wsv (a++b)=wsv a++wsv b:=by unfold wsv;rw [List.map_append]
def upB (n:Nat):List (Nat × Option Row)->Bool
 | []=>true
 | p::l=>Nat.ble (p.1+1) n&&upB n l
theorem Qdc {n:Nat}:∀ {l:List (Nat × Option Row)},upB n l=true->∀ p∈l,p.1<n
 | q::l,h,p,hp=>by
  unfold upB at h;rw [Bool.and_eq_true] at h;rcases List.mem_cons.1 hp with e|e
  .subst e;exact Nat.le_of_ble_eq_true h.1
  .exact Qdc h.2 p e
theorem d1 {p:Prop} [Decidable p]:(decide p=true)=p:=decide_eq_true_eq
theorem d2 {p:Prop} [Decidable p]:decide p=false↔¬ p:=decide_eq_false_iff_not
theorem d3 {α:Type} [BEq α] [LawfulBEq α] {a b:α}:(a==b)=false↔a≠b:=beq_eq_false_iff_ne
theorem d4 {α:Type} [BEq α] [LawfulBEq α] {a b:α}:(a !=b)=false↔a=b:=bne_eq_false_iff_eq
theorem d5 (b:Bool):((!b)=true)=(b=false):=Bool.not_eq_true' b
theorem d6 {b:Bool}:((!b)=false)=(b=true):=Bool.not_eq_false' b
theorem d7 {a:Prop}:¬ ¬ a↔a:=Classical.not_not
theorem aAr {P:Prop} (h:P:=by (first|(with_reducible exact QoE _ _ _ _)|((rewrite [QmK]);(focus (first|exact Qb1 (by omega) (by omega)|exact Qe4 (by omega) (by omega)|exact QC4 (by omega) (by omega)));omega)|exact Qge (by omega)|exact Qb1 (by omega) (by omega)|exact Qe4 (by omega) (by omega)|exact Qcf _|exact wu8 (by omega) (by omega)|exact QuW (by omega) (by omega)|exact QC4 (by omega) (by omega)|rfl)):P:=h
theorem aCl {P:Prop} (h:P:=by (first|exact Qj0 rfl|exact Qa6 _ rfl|exact Qc8 _ rfl rfl|((first|apply QGr|apply QGw|(apply QBz;(conv=>arg 1;whnf);apply Qp4)|apply QBz);(repeat' (first|exact QvJ (Qaa _)|exact QvJ (by assumption)|((conv=>arg 1;whnf);first|exact QBC|apply Qxu|exact QBA|exact Qxt|exact QIT|exact QFN|exact QBD|exact QFO|exact QBF|exact QFM|exact QBH|exact QFL|apply QIU|apply QBy|apply QFP|apply QBG|exact QFI|apply QFH|exact QFQ|exact QBB|exact QFJ|exact Qxv|apply Qp4|apply Qxw|apply QBE|apply QFK)));(all_goals exact rfl))|((dsimp only [Res.ef,QCv,QcZ,QcM,Qc5,nwN,upN,Qdw,List.map_cons,List.map_nil,List.length_cons,List.length_nil]);first|done|exact rfl)|(dsimp only [QaC,List.set_cons_zero,List.set_cons_succ,List.cons_append,List.nil_append];exact rfl)|exact rfl)):P:=h
theorem aSd {P:Prop} (h:P:=by (first|exact rfl|trivial|omega|(repeat' apply And.intro)<;>first|exact rfl|exact Nat.le_of_ble_eq_true rfl|omega|decide)):P:=h
theorem aNt {P:Prop} (h:P:=by ((try simp only [QH0,QHZ,Int.toNat_natCast,Int.toNat_zero,Int.toNat_one,Nat.zero_add,Nat.zero_mul,Nat.mul_one,Nat.one_mul,Nat.add_zero,Int.sub_zero,Option.getD_some,Option.getD_none,Int.toNat_natCast_add_one]);exact rfl)):P:=h
theorem aS2 {P:Prop} (h:P:=by (repeat' apply And.intro)<;>(try simp only [QH0,QHZ,Int.toNat_natCast,Int.toNat_zero,Int.toNat_one,Nat.zero_add,Nat.zero_mul,Nat.mul_one,Nat.one_mul,Nat.add_zero,Int.sub_zero,Option.getD_some,Option.getD_none,Int.toNat_natCast_add_one])<;>first|exact rfl|omega):P:=h
theorem aFi {P:Prop} (h:P:=by ((repeat' (first|exact SVsM.nil|exact QfT|exact QaJ rfl|exact Qr5 rfl|exact Qcz rfl|exact QeY rfl|exact Qj4|exact Qak rfl|exact Qak (Qaa _)|exact Qak (by assumption)|exact QaK|apply SVsM.cons|apply QcJ|apply QiE|apply Qkt|apply Qcu|apply QeA|exact trivial|(refine Qf1 rfl ?_)|apply Qid|apply Qar|(refine Qao rfl rfl rfl rfl ?_)|exact QcQ rfl rfl|exact QxL|(refine QtK rfl ?_)|apply QtJ|apply QxM|(refine QyM rfl rfl rfl rfl ?_)|exact Qun rfl rfl));first|done|fail)):P:=h
theorem aKl {b c:Bool} {P:Prop} (hb:b=c) (h:¬ (b=c):=by intro hb;first|(exact absurd hb (by decide))|exact Bool.noConfusion (hb.symm.trans (by assumption):true=false)|exact Bool.noConfusion (hb.symm.trans (by assumption):false=true)):P:=absurd hb h
theorem aK2 {b c:Bool} {P:Prop} (hb:b=c) (h:¬ (b=c):=by first|(intro hb;first|(exact absurd hb (by decide))|exact Bool.noConfusion (hb.symm.trans (by assumption):true=false)|exact Bool.noConfusion (hb.symm.trans (by assumption):false=true))|(simp only [beq_self_eq_true,Bool.and_true,Bool.and_self,reduceCtorEq,false_implies,bne_self_eq_false,imp_false,not_true_eq_false,not_false_eq_true,Bool.true_eq_false,Bool.false_eq_true];first|done|fail)):P:=absurd hb h
theorem QCp {m:List Em} {k n0:Nat}:([]:List AV)=([]:List AV).map (QcZ m k n0):=rfl
theorem QI2 {m:List Em} {k n0:Nat} {C:List SV} {l l':List AV} (h:Qad C=true) (t:l=l'.map (QcZ m k n0)):AV.agg C::l=(AV.agg C::l').map (QcZ m k n0):=by rw [List.map_cons,<- t];show _=AV.agg (C.map (QcM m k n0))::l;rw [QeT h]
theorem QI3 {m:List Em} {k n0:Nat} {a b:AV} {l l':List AV} (h:b=QcZ m k n0 a) (t:l=l'.map (QcZ m k n0)):b::l=(a::l').map (QcZ m k n0):=by rw [List.map_cons,<- t,<- h]
theorem aRn {P:Prop} (h:P:=by first|exact rfl|(repeat' first|exact QCp|(refine QI2 (by assumption) ?_)|(refine QI3 rfl ?_));first|done|fail):P:=h
theorem sdk {p K:Prop} (h:p):K->Sd p K:=fun k=> .mk h k
theorem sdd {all:List Oper} {ds:List Did} {k:Prop} (h:Qpf all ds=true):k->Sd (Qeb all ds=true) k:=fun q=>Qzb h q
theorem vlk {α:Type} {e z:α} {K:α->Prop} (h:e=z):K z->Vl e K:=fun k=> .mk z h k
theorem gek {α:Type} {e:Option α} {z:α} {K:α->Prop} (h:e=some z):K z->Ge e K:=fun k=> .mk z h k
theorem sgk {c:List SV} {o n:Nat} {K:List SV->Prop} {l:List SV} (h:l.length=n/\∀ (j:Nat) s,l[j]?=some s->c[o+j]?=some s):K l->Sg c o n K:=fun k=> .mk l h k
theorem skk {c:List SV} {o n:Nat} {K:List SV->Prop} {l:List SV} (h:l.length=n/\Qat l=true/\∀ (j:Nat) s,l[j]?=some s->c[o+j]?=some s):K l->Sk c o n K:=fun k=> .mk l h k
theorem QFp {p q:Prop} (h:p):q->p/\q:=fun k=>⟨h,k⟩
theorem zst {P Q:Prop} (k:Q) (h:Q->P:=by (first|((with_reducible apply vlk (α:=Nat));exact aNt)|((with_reducible apply sdd);kernel_rfl)|(apply sdk;exact aSd)|((with_reducible apply vlk (α:=Int));exact aAr)|((with_reducible first|apply vlk (α:=Bool)|apply vlk (α:=Nat)|apply vlk (α:=ByteArray)|apply gek (α:=Row)|apply gek (α:=SV)|apply gek (α:=AV));exact rfl)|(exact QFp rfl)|((with_reducible first|apply vlk (α:=List SV)|apply vlk (α:=Ef)|apply vlk (α:=TV)|apply gek (α:=List SV)|apply sgk|apply skk);exact aCl)|(apply sdk;exact aS2))):P:=h k
theorem zs0 {P Q:Prop} (k:Q) (h:Q->P:=by (first|((with_reducible apply sdd);kernel_rfl)|(apply sdk;exact aSd)|((with_reducible apply vlk (α:=Int));exact aAr)|((with_reducible first|apply vlk (α:=Bool)|apply vlk (α:=Nat)|apply vlk (α:=ByteArray)|apply gek (α:=Row)|apply gek (α:=SV)|apply gek (α:=AV));exact rfl)|(exact QFp rfl)|((with_reducible first|apply vlk (α:=List SV)|apply vlk (α:=Ef)|apply vlk (α:=TV)|apply gek (α:=List SV)|apply sgk|apply skk);exact aCl))):P:=h k
theorem zk0 {b c:Bool} {P:Prop} (hb:b=c) (h:¬ (b=c):=by (intro hb;(first|exact aKl hb|(simp only [d1,d2,beq_iff_eq,bne_iff_ne,d3,d4,d5,d6,Int.not_lt,Int.not_le,ge_iff_le,gt_iff_lt,ne_eq,d7] at hb;first|done|(exfalso;omega)));first|done|fail)):P:=absurd hb h
theorem zk1 {b c:Bool} {P:Prop} (hb:b=c) (h:¬ (b=c):=by (intro hb;(first|exact aKl hb|(exfalso;revert hb;simp;done)|(simp only [d1,d2,beq_iff_eq,bne_iff_ne,d3,d4,d5,d6,Int.not_lt,Int.not_le,ge_iff_le,gt_iff_lt,ne_eq,d7] at hb;first|done|(exfalso;omega)|(exfalso;simp_all;first|done|fail)));first|done|fail)):P:=absurd hb h
theorem zk2 {b c:Bool} {P:Prop} (hb:b=c) (h:¬ (b=c):=by (intro hb;(first|exact aK2 hb|(simp only [d1,d2,beq_iff_eq,bne_iff_ne,d3,d4,d5,d6,Int.not_lt,Int.not_le,ge_iff_le,gt_iff_lt,ne_eq,d7] at hb;first|done|(exfalso;omega)));first|done|fail)):P:=absurd hb h
theorem zk3 {b c:Bool} {P:Prop} (hb:b=c) (h:¬ (b=c):=by (intro hb;(first|(exfalso;simp only [decide_eq_true_eq,decide_eq_false_iff_not,beq_iff_eq,beq_eq_false_iff_ne,ne_eq] at hb;omega)|exact aK2 hb|(simp only [d1,d2,beq_iff_eq,bne_iff_ne,d3,d4,d5,d6,Int.not_lt,Int.not_le,ge_iff_le,gt_iff_lt,ne_eq,d7] at hb;first|done|(exfalso;omega)));first|done|fail)):P:=absurd hb h
theorem zk4 {b c:Bool} {P:Prop} (hb:b=c) (h:¬ (b=c):=by (intro hb;(first|(exfalso;simp only [decide_eq_true_eq,decide_eq_false_iff_not,beq_iff_eq,bne_iff_ne,beq_eq_false_iff_ne,bne_eq_false_iff_eq,ne_eq,Int.not_lt,Int.not_le,Classical.not_not] at hb;omega)|(exfalso;simp at hb;first|done|fail));first|done|fail)):P:=absurd hb h
theorem zn0 {b c:Bool} {Q:Prop} (hb:b=c) (h:b=c->Q:=by (intro hb;simp only [d1,d2,beq_iff_eq,bne_iff_ne,d3,d4,d5,d6,Int.not_lt,Int.not_le,ge_iff_le,gt_iff_lt,ne_eq,d7] at hb;exact hb)):Q:=h hb
theorem zn4 {b c:Bool} {Q:Prop} (hb:b=c) (h:b=c->Q:=by (intro hb;(simp only [decide_eq_true_eq,decide_eq_false_iff_not,beq_iff_eq,bne_iff_ne,beq_eq_false_iff_ne,bne_eq_false_iff_eq,ne_eq,Int.not_lt,Int.not_le,Classical.not_not] at hb);exact hb)):Q:=h hb
theorem zi0 {b c:Bool} {P:Prop} (h:¬ (b=c):=by (intro hb;(first|exact aKl hb|(simp only [d1,d2,beq_iff_eq,bne_iff_ne,d3,d4,d5,d6,Int.not_lt,Int.not_le,ge_iff_le,gt_iff_lt,ne_eq,d7] at hb;first|done|(exfalso;omega)));first|done|fail)):b=c->P:=fun e=>absurd e h
theorem zi1 {b c:Bool} {P:Prop} (h:¬ (b=c):=by (intro hb;(first|exact aKl hb|(exfalso;revert hb;simp;done)|(simp only [d1,d2,beq_iff_eq,bne_iff_ne,d3,d4,d5,d6,Int.not_lt,Int.not_le,ge_iff_le,gt_iff_lt,ne_eq,d7] at hb;first|done|(exfalso;omega)|(exfalso;simp_all;first|done|fail)));first|done|fail)):b=c->P:=fun e=>absurd e h
theorem zi2 {b c:Bool} {P:Prop} (h:¬ (b=c):=by (intro hb;(first|exact aK2 hb|(simp only [d1,d2,beq_iff_eq,bne_iff_ne,d3,d4,d5,d6,Int.not_lt,Int.not_le,ge_iff_le,gt_iff_lt,ne_eq,d7] at hb;first|done|(exfalso;omega)));first|done|fail)):b=c->P:=fun e=>absurd e h
theorem zi3 {b c:Bool} {P:Prop} (h:¬ (b=c):=by (intro hb;(first|(exfalso;simp only [decide_eq_true_eq,decide_eq_false_iff_not,beq_iff_eq,beq_eq_false_iff_ne,ne_eq] at hb;omega)|exact aK2 hb|(simp only [d1,d2,beq_iff_eq,bne_iff_ne,d3,d4,d5,d6,Int.not_lt,Int.not_le,ge_iff_le,gt_iff_lt,ne_eq,d7] at hb;first|done|(exfalso;omega)));first|done|fail)):b=c->P:=fun e=>absurd e h
theorem zi4 {b c:Bool} {P:Prop} (h:¬ (b=c):=by (intro hb;(first|(exfalso;simp only [decide_eq_true_eq,decide_eq_false_iff_not,beq_iff_eq,bne_iff_ne,beq_eq_false_iff_ne,bne_eq_false_iff_eq,ne_eq,Int.not_lt,Int.not_le,Classical.not_not] at hb;omega)|(exfalso;simp at hb;first|done|fail));first|done|fail)):b=c->P:=fun e=>absurd e h
theorem zj0 {b c:Bool} {P Q:Prop} (k:Q->P) (h:b=c->Q:=by first|(intro hb;simp only [d1,d2,beq_iff_eq,bne_iff_ne,d3,d4,d5,d6,Int.not_lt,Int.not_le,ge_iff_le,gt_iff_lt,ne_eq,d7] at hb;exact hb)|exact id):b=c->P:=fun e=>k (h e)
theorem zj4 {b c:Bool} {P Q:Prop} (k:Q->P) (h:b=c->Q:=by first|(intro hb;(simp only [decide_eq_true_eq,decide_eq_false_iff_not,beq_iff_eq,bne_iff_ne,beq_eq_false_iff_ne,bne_eq_false_iff_eq,ne_eq,Int.not_lt,Int.not_le,Classical.not_not] at hb);exact hb)|exact id):b=c->P:=fun e=>k (h e)
theorem zv {e z:Int} {K:Int->Prop} (h:e=z) (k:K z):Vl e K:= .mk z h k
theorem zbx {b:Bool} {A B:Prop} (ka:b=true->A) (kb:b=false->B):Br b A B:= .mk ka kb
theorem zgx {b v w:Bool} {A B:Prop} (ka:b=v->A) (kb:b=w->B):Gd b v w A B:= .mk ka kb
theorem zbb {P A B:Prop} (ka:A) (kb:B) (h:A->B->P:=by first|exact zbx|exact zgx):P:=h ka kb
theorem zca {α:Type _} {a:α} {l r:List α}:(a::l)++r=a::(l++r):=rfl
theorem zna {α:Type _} (l:List α): []++l=l:=rfl
theorem zde {p:Prop} [Decidable p]:(decide p=true)=p:=decide_eq_true_eq
theorem zgg {α:Type _} {l:List α} {i:Nat} (h:i<l.length):l[i]?=some l[i]:=List.getElem?_eq_getElem h
theorem zgs {α:Type _} {l:List α} {i:Nat} {a:α}:l[i]?=some a↔∃ h:i<l.length,l[i]=a:=List.getElem?_eq_some_iff
theorem zba (a b:Bool):((a&&b)=true)=(a=true/\b=true):=Bool.and_eq_true a b
theorem zdz {α:Type _} {x:α} {l:List α} {d:α}:(x::l).getD 0 d=x:=rfl
theorem zds {α:Type _} {x:α} {l:List α} {n:Nat} {d:α}:(x::l).getD (n+1) d=l.getD n d:=rfl
theorem zdt {p:Prop} [h:Decidable p]:p->decide p=true:=decide_eq_true
theorem zdf {p:Prop} [h:Decidable p]:¬ p->decide p=false:=decide_eq_false
theorem zbq {n m:Nat}:Nat.beq n m=true->n=m:=Nat.eq_of_beq_eq_true
theorem zgr {α:Type _} {l r:List α} {i:Nat} (h:l.length<=i):(l++r)[i]?=r[i-l.length]?:=List.getElem?_append_right h
theorem zgl {α:Type _} {l r:List α} {i:Nat} (h:i<l.length):(l++r)[i]?=l[i]?:=List.getElem?_append_left h
theorem zbi {a b:Bool}:a=b↔(a=true↔b=true):=Bool.eq_iff_iff
theorem zgd {α:Type _} {l:List α} {i:Nat} {a:α}:l.getD i a=l[i]?.getD a:=List.getD_eq_getElem?_getD
theorem zgm {α:Type _} {β:Type _} {f:α->β} {l:List α} {i:Nat}:(l.map f)[i]?=Option.map f l[i]?:=List.getElem?_map
theorem zbf (b:Bool):(false&&b)=false:=rfl
theorem zla {α:Type _} {l r:List α}:(l++r).length=l.length+r.length:=List.length_append
abbrev ZL (l:List Nat):Prop:=∀ y∈l,y<4294967296
abbrev FN (f:FuncId) (a:List AV) (H:List Row) (Q:Res->Prop):Prop:=Fn Tryz.prog f a H Q
theorem zN {c:Prop} {h:Decidable c} (n:¬c) {α:Sort _} {t e:α}:ite c t e=e:=if_neg n
theorem zP {c:Prop} {h:Decidable c} (n:c) {α:Sort _} {t e:α}:ite c t e=t:=if_pos n
theorem zq0 {P Q:Prop} (k:Q) (h:Q->P:=by (with_reducible apply vlk (α:=List SV));(with_reducible refine QGq ?_);exact rfl):P:=h k
theorem zq1 {P Q:Prop} (k:Q) (h:Q->P:=by apply sgk;first|exact Qa6 CC gS|exact Qa6 C3 gC):P:=h k
theorem zq2 {P Q:Prop} (k:Q) (h:Q->P:=by with_reducible first|exact vlk p1|exact vlk p2|exact vlk p3|exact vlk p4|exact vlk p5):P:=h k
theorem zq3 {P Q:Prop} (k:Q) (h:Q->P:=by (with_reducible apply vlk (α:=List SV));(with_reducible refine QCG ?_);exact rfl):P:=h k
theorem zq4 {P Q:Prop} (k:Q) (h:Q->P:=by (with_reducible apply vlk (α:=List SV));exact fE _ (by first|rfl|assumption)):P:=h k
theorem zq5 {P Q:Prop} (k:Q) (h:Q->P:=by apply sdk;first|exact ⟨jG,yJ,rfl,(by show 0+C3.length<=25;omega)⟩|exact ⟨hl2,jE,rfl,(by show 0+C2.length<=CC.length;omega)⟩|(refine ⟨rfl,rfl,rfl,?_⟩;show 16+1<=C2.length;omega)|(show (0:Int)<=A/\(A:Int)<16;omega)|(show (0:Int)<=B/\(B:Int)<16;omega)):P:=h k
theorem zq6 {P Q:Prop} (k:Q) (h:Q->P:=by (with_reducible apply vlk (α:=Nat));with_reducible exact x1):P:=h k
theorem zq7 {P Q:Prop} (k:Q) (h:Q->P:=by (with_reducible apply vlk (α:=List SV));with_reducible exact gZ):P:=h k
theorem zq8 {P Q:Prop} (k:Q) (h:Q->P:=by apply sdk;first|exact ⟨gS,qU,rfl,(by show 0+CC.length<=25;omega)⟩|exact ⟨gC,gR,rfl,(by show 0+C3.length<=25;omega)⟩|exact ⟨gS,qU,rfl,(by show 0+CC.length<=C3.length;omega)⟩|exact ⟨gC,gR,rfl,(by show 0+C3.length<=CC.length;omega)⟩|(show (0:Int)<=A/\(A:Int)<16;omega)|(show (0:Int)<=B/\(B:Int)<16;omega)|(refine ⟨rfl,rfl,rfl,?_⟩;show 0+16+1<=CC.length;omega)|(refine ⟨rfl,rfl,rfl,?_⟩;show 0+16+1<=C3.length;omega)):P:=h k
theorem zq9 {P Q:Prop} (k:Q) (h:Q->P:=by apply sdk;first|exact ⟨gC,gR,rfl,(by show 0+C3.length<=25;omega)⟩|(show (0:Int)<=A/\(A:Int)<16;omega)|(show (0:Int)<=B/\(B:Int)<16;omega)|(refine ⟨rfl,rfl,rfl,?_⟩;show 0+16+1<=CC.length;omega)):P:=h k
theorem QAG {P Q:Prop} (k:Q) (h:Q->P:=by apply sdk;first|omega|(show (0:Int)<=_/\_<_;omega)|exact ⟨rfl,rfl,rfl,Nat.le_trans qQ (Nat.le_of_ble_eq_true rfl)⟩):P:=h k
theorem QHa {P Q:Prop} (k:Q) (h:Q->P:=by apply sdk;first|exact ⟨gC,gR,rfl,(by show 0+C3.length<=25;omega)⟩|exact ⟨qR,jS,rfl,(by show 0+C2.length<=CC.length;omega)⟩|(show (0:Int)<=B/\(B:Int)<16;omega)|(refine ⟨rfl,rfl,rfl,?_⟩;show 0+16+1<=C2.length;omega)):P:=h k
theorem Qwh {P Q:Prop} (k:Q) (h:Q->P:=by apply sdk;first|omega|exact ⟨rfl,rfl,rfl,Nat.le_trans qQ (Nat.le_of_ble_eq_true rfl)⟩):P:=h k
theorem QDi {P Q:Prop} (k:Q) (h:Q->P:=by (with_reducible apply vlk (α:=List SV));first|exact jC|exact wW _ (by first|rfl|assumption)|exact fE _ (by first|rfl|assumption)):P:=h k
theorem QmU {P Q:Prop} (k:Q) (h:Q->P:=by (with_reducible apply gek (α:=SV));exact g0):P:=h k
theorem Qwi {P Q:Prop} (k:Q) (h:Q->P:=by apply sdk;exact ⟨gC,gR,rfl,(by show 0+C3.length<=25;omega)⟩):P:=h k
theorem Qex {P Q:Prop} (k:Q) (h:Q->P:=by apply sdk;omega):P:=h k
theorem QfN {P Q:Prop} (k:Q) (h:Q->P:=by apply sgk;exact seg):P:=h k
theorem QDj {P Q:Prop} (k:Q) (h:Q->P:=by with_reducible first|exact vlk p1|exact vlk p2|exact vlk p3|exact vlk p4|exact vlk p5|exact vlk p6):P:=h k
theorem QE2 {P Q:Prop} (k:Q) (h:Q->P:=by (with_reducible apply vlk (α:=List SV));first|exact WZ _ (by first|rfl|assumption)|exact fE _ (by first|rfl|assumption)):P:=h k
theorem QiQ {P Q:Prop} (k:Q) (h:Q->P:=by with_reducible exact vlk q2):P:=h k
theorem QE3 {P Q:Prop} (k:Q) (h:Q->P:=by apply sdk;first|exact ⟨rfl,rfl,rfl,Nat.le_of_ble_eq_true rfl⟩|exact ⟨rfl,rfl,wA,bnd (by omega) (by decide),by omega⟩):P:=h k
theorem QH2 {P Q:Prop} (k:Q) (h:Q->P:=by apply sdk;first|exact ⟨gC,gR,rfl,(by show 0+C3.length<=25;omega)⟩|(show (0:Int)<=B/\(B:Int)<16;omega)):P:=h k
theorem Qwj {P Q:Prop} (k:Q) (h:Q->P:=by (with_reducible apply vlk (α:=Nat));with_reducible exact ix1):P:=h k
theorem QE4 {P Q:Prop} (k:Q) (h:Q->P:=by apply sdk;first|exact ⟨jG,yJ,rfl,(by show 0+C3.length<=25;omega)⟩|(refine ⟨rfl,rfl,rfl,?_⟩;show 16+1<=CC.length;omega)|(show (0:Int)<=A/\(A:Int)<16;omega)|(show (0:Int)<=B/\(B:Int)<16;omega)):P:=h k
theorem QH3 {P Q:Prop} (k:Q) (h:Q->P:=by (with_reducible apply gek (α:=SV));exact HM):P:=h k
theorem QuY {P Q:Prop} (k:Q) (h:Q->P:=by (with_reducible apply vlk (α:=List SV));first|exact wT|exact jC|exact zG _ rfl):P:=h k
theorem QDk {P Q:Prop} (k:Q) (h:Q->P:=by with_reducible exact vlk KC):P:=h k
theorem QsL {P Q:Prop} (k:Q) (h:Q->P:=by (with_reducible apply vlk (α:=Nat));exact ldi a):P:=h k
theorem Qwk {P Q:Prop} (k:Q) (h:Q->P:=by apply sdk;first|exact ⟨gC,gR,rfl,(by show 0+C3.length<=25;omega)⟩|exact ⟨gC,gR,rfl,(by show 0+C3.length<=CC.length;omega)⟩|exact ⟨el,ek,rfl,(by show 0+EE.length<=4;omega)⟩):P:=h k
theorem QH4 {P Q:Prop} (k:Q) (h:Q->P:=by apply sgk;first|exact Qa6 C3 jG|exact Qa6 CC hl):P:=h k
theorem QzN {P Q:Prop} (k:Q) (h:Q->P:=by (with_reducible apply vlk (α:=List SV));first|exact jC|exact fE _ (by first|rfl|assumption)):P:=h k
theorem QE5 {P Q:Prop} (k:Q) (h:Q->P:=by with_reducible exact vlk e1):P:=h k
theorem QHb {P Q:Prop} (k:Q) (h:Q->P:=by (with_reducible apply vlk (α:=Nat));first|(with_reducible exact rix ma)|(with_reducible exact rix mb)|(with_reducible exact rix mc)):P:=h k
theorem QHc {P Q:Prop} (k:Q) (h:Q->P:=by (with_reducible apply vlk (α:=List SV));exact QbH (by rw [JL];rfl)):P:=h k
theorem QE6 {P Q:Prop} (k:Q) (h:Q->P:=by (with_reducible apply gek (α:=SV));first|exact rA|exact rB|exact gp):P:=h k
theorem QDl {P Q:Prop} (k:Q) (h:Q->P:=by apply sdk;exact ⟨rfl,rfl,rfl,(by show 0+_<=Z.length;rw [JL];exact Nat.le_refl 49)⟩):P:=h k
theorem QzO {P Q:Prop} (k:Q) (h:Q->P:=by with_reducible first|exact vlk qm|exact vlk q4):P:=h k
theorem QE7 {P Q:Prop} (k:Q) (h:Q->P:=by apply sdk;first|omega|(refine ⟨rfl,rfl,rfl,?_⟩;show _<=XV.length;simp;omega)):P:=h k
theorem QHd {P Q:Prop} (k:Q) (h:Q->P:=by (with_reducible apply gek (α:=SV));with_reducible first|exact ra|exact rb|exact rc|exact wa|exact wb|exact wc):P:=h k
theorem QAH {P Q:Prop} (k:Q) (h:Q->P:=by (with_reducible apply gek (α:=SV));exact gpCC):P:=h k
theorem QzP {P Q:Prop} (k:Q) (h:Q->P:=by (with_reducible apply vlk (α:=Nat));exact YX):P:=h k
theorem QH5 {P Q:Prop} (k:Q) (h:Q->P:=by with_reducible first|exact vlk q1|exact vlk yF|exact vlk GF|exact vlk VK|exact vlk h8|exact vlk wi4|exact vlk e1|exact vlk e2|exact vlk FQ):P:=h k
theorem QE8 {P Q:Prop} (k:Q) (h:Q->P:=by with_reducible first|exact vlk qm|exact vlk q4|exact vlk q4m|exact vlk qT):P:=h k
theorem QDm {P Q:Prop} (k:Q) (h:Q->P:=by (with_reducible apply vlk (α:=List SV));with_reducible exact jK):P:=h k
theorem QDn {P Q:Prop} (k:Q) (h:Q->P:=by (with_reducible apply vlk (α:=List SV));exact jK):P:=h k
theorem QDo {P Q:Prop} (k:Q) (h:Q->P:=by apply sdk;first|omega|(show (0:Int)<=_/\_<_;omega)):P:=h k
theorem QDp {P Q:Prop} (k:Q) (h:Q->P:=by (with_reducible apply vlk (α:=Bool));with_reducible exact qJ):P:=h k
theorem QE9 {P Q:Prop} (k:Q) (h:Q->P:=by apply sgk;first|exact Qa6 CC gS|exact Qa6 C3 gC|exact Qa6 EE el):P:=h k
theorem QH6 {P Q:Prop} (k:Q) (h:Q->P:=by apply sdk;first|exact ⟨rfl,rfl,yQ,bnd (by omega) (by decide),by omega⟩|exact ⟨rfl,rfl,rfl,(by show 0+_<=Z.length;rw [JL];exact Nat.le_refl 49)⟩):P:=h k
theorem QFa {P Q:Prop} (k:Q) (h:Q->P:=by (with_reducible apply gek (α:=SV));first|exact rA|exact rB|exact gpCC):P:=h k
theorem QH7 {P Q:Prop} (k:Q) (h:Q->P:=by (with_reducible apply vlk (α:=Int));first|exact QFn _ fV|exact QGt _ _|exact QGv _ _|exact QGp _ _|exact QbV _ ha|exact QbV _ fV):P:=h k
theorem QJO {P Q:Prop} (k:Q) (h:Q->P:=by apply sdk;first|exact ⟨gC,gR,rfl,(by show 0+C3.length<=25;omega)⟩|exact ⟨gC,gR,rfl,(by show 0+C3.length<=CC.length;omega)⟩):P:=h k
theorem QH8 {P Q:Prop} (k:Q) (h:Q->P:=by apply sdk;refine ⟨rfl,rfl,?_,?_,?_⟩;(focus (show RR.length=R.length*6;omega));(focus (show (R.length+1)*48<=_;omega));(focus omega)):P:=h k
theorem QH9 {P Q:Prop} (k:Q) (h:Q->P:=by apply sdk;refine ⟨rfl,rfl,?_,?_,?_⟩;(focus (show RR.length=R.length*4;omega));(focus (show (R.length+1)*12<=_;omega));(focus omega)):P:=h k
theorem QAI {P Q:Prop} (k:Q) (h:Q->P:=by (with_reducible apply gek (α:=SV));exact hg):P:=h k
theorem QFb {P Q:Prop} (k:Q) (h:Q->P:=by apply sdk;exact ⟨rfl,rfl,wA,bnd (by omega) (by decide),by omega⟩):P:=h k
theorem QHe {P Q:Prop} (k:Q) (h:Q->P:=by (with_reducible apply gek (α:=SV));first|exact rA|exact rB|exact rC|exact gp|exact gp2):P:=h k
theorem QIa {P Q:Prop} (k:Q) (h:Q->P:=by (with_reducible apply vlk (α:=List SV));first|exact jC|exact fE _ (by first|rfl|assumption)|exact wW _ (by first|rfl|assumption)):P:=h k
theorem QIb {P Q:Prop} (k:Q) (h:Q->P:=by apply sdk;first|exact ⟨gC,gR,rfl,(by show 0+C3.length<=25;omega)⟩|exact ⟨el,ek,rfl,(by show 0+EE.length<=4;omega)⟩):P:=h k
theorem QFc {P Q:Prop} (k:Q) (h:Q->P:=by with_reducible first|exact vlk qm|exact vlk q4|exact vlk qv):P:=h k
theorem QIc {P Q:Prop} (k:Q) (h:Q->P:=by apply sdk;first|omega|(refine ⟨rfl,rfl,rfl,?_⟩;first|(show _<=X0.length;simp;omega)|(show _<=X1.length;simp;omega))):P:=h k
theorem QId {P Q:Prop} (k:Q) (h:Q->P:=by apply sdk;refine ⟨rfl,rfl,?_,?_,?_⟩;(focus (show RR.length=i*1;omega));(focus (show (i+1)*4<=_;omega));(focus omega)):P:=h k
theorem QAJ {P Q:Prop} (k:Q) (h:Q->P:=by with_reducible exact vlk b1):P:=h k
theorem QHf {P Q:Prop} (k:Q) (h:Q->P:=by (with_reducible apply gek (α:=UInt8));exact Qfi (f:=ln8) (by kernel_rfl) i kk):P:=h k
theorem QDq {P Q:Prop} (k:Q) (h:Q->P:=by apply sdk;exact ⟨rfl,Int.natCast_nonneg _⟩):P:=h k
theorem QHg {P Q:Prop} (k:Q) (h:Q->P:=by (with_reducible apply vlk (α:=List SV));with_reducible exact List.append_nil OL):P:=h k
theorem QFd {P Q:Prop} (k:Q) (h:Q->P:=by (with_reducible apply vlk (α:=Nat));exact Nat.zero_add N):P:=h k
theorem QFe {P Q:Prop} (k:Q) (h:Q->P:=by (with_reducible apply gek (α:=SV));first|exact wB):P:=h k
theorem QFf {P Q:Prop} (k:Q) (h:Q->P:=by (with_reducible apply vlk (α:=List SV));exact gZ):P:=h k
theorem QIe {P Q:Prop} (k:Q) (h:Q->P:=by (with_reducible apply vlk (α:=List SV));first|with_reducible exact hap|exact QbH (by rw [JL];rfl)):P:=h k
theorem QIf {P Q:Prop} (k:Q) (h:Q->P:=by (with_reducible apply vlk (α:=List SV));first|with_reducible exact a1|with_reducible exact a2|exact a2):P:=h k
theorem QIg {P Q:Prop} (k:Q) (h:Q->P:=by with_reducible first|exact vlk qm|exact vlk qv):P:=h k
theorem QFg {P Q:Prop} (k:Q) (h:Q->P:=by with_reducible first|exact vlk q1|exact vlk q2):P:=h k
theorem QFh {P Q:Prop} (k:Q) (h:Q->P:=by with_reducible first|exact vlk q2|exact vlk q5):P:=h k
theorem QHh {P Q:Prop} (k:Q) (h:Q->P:=by with_reducible first|exact vlk q1|exact vlk q2|exact vlk q3):P:=h k
theorem QHi {P Q:Prop} (k:Q) (h:Q->P:=by (with_reducible apply vlk (α:=List SV));with_reducible exact HU):P:=h k
theorem QHj {P Q:Prop} (k:Q) (h:Q->P:=by (with_reducible apply gek (α:=SV));first|exact wB|exact WI):P:=h k
theorem QHk {P Q:Prop} (k:Q) (h:Q->P:=by (with_reducible apply vlk (α:=Nat));with_reducible exact rix ma):P:=h k
theorem QIh {P Q:Prop} (k:Q) (h:Q->P:=by (with_reducible apply gek (α:=SV));first|exact rA|exact rB|exact rC|exact gpCC|exact gpC3):P:=h k
theorem QFi {P Q:Prop} (k:Q) (h:Q->P:=by (with_reducible apply vlk (α:=Nat));exact x1):P:=h k
theorem QAK {P Q:Prop} (k:Q) (h:Q->P:=by apply sgk;exact Qa6 C UQ):P:=h k
theorem QIi {P Q:Prop} (k:Q) (h:Q->P:=by (with_reducible apply gek (α:=SV));exact rB):P:=h k
theorem QFj {P Q:Prop} (k:Q) (h:Q->P:=by (with_reducible apply gek (α:=SV));exact g1):P:=h k
theorem QIj {P Q:Prop} (k:Q) (h:Q->P:=by apply sdk;refine ⟨rfl,rfl,rfl,?_,?_⟩<;>first|omega|(show (0+N)*48<=_;omega)):P:=h k
theorem QIk {P Q:Prop} (k:Q) (h:Q->P:=by (with_reducible apply vlk (α:=List SV));(with_reducible refine FO _ ?_);(focus exact rfl)):P:=h k
theorem QIl {P Q:Prop} (k:Q) (h:Q->P:=by apply sdk;first|exact wY|exact ⟨hl,wY,rfl,by show 0+KN.length<=32;omega⟩):P:=h k
theorem QIm {P Q:Prop} (k:Q) (h:Q->P:=by with_reducible first|exact vlk q1|exact vlk yF|exact vlk GF|exact vlk wi4):P:=h k
theorem QAL {P Q:Prop} (k:Q) (h:Q->P:=by with_reducible exact vlk q1):P:=h k
theorem QIn {P Q:Prop} (k:Q) (h:Q->P:=by with_reducible first|exact vlk q2|exact vlk q3|exact vlk q4|exact vlk q5):P:=h k
theorem QIo {P Q:Prop} (k:Q) (h:Q->P:=by with_reducible first|exact vlk e0|exact vlk e1|exact vlk e2|exact vlk e3):P:=h k
theorem QIp {P Q:Prop} (k:Q) (h:Q->P:=by with_reducible first|exact vlk (QFq a)|exact vlk (QID a)|exact vlk (QIE a)):P:=h k
theorem QIq {P Q:Prop} (k:Q) (h:Q->P:=by with_reducible first|exact vlk u1|exact vlk u3|exact vlk u4|exact vlk u5):P:=h k
theorem QHl {P Q:Prop} (k:Q) (h:Q->P:=by (with_reducible apply gek (α:=List Int));exact ht):P:=h k
theorem QIr {P Q:Prop} (k:Q) (h:Q->P:=by (with_reducible apply vlk (α:=Nat));with_reducible first|exact x1|exact x2):P:=h k
theorem QIs {P Q:Prop} (k:Q) (h:Q->P:=by (with_reducible apply vlk (α:=Nat));with_reducible first|exact e3|exact e4):P:=h k
theorem QHm {P Q:Prop} (k:Q) (h:Q->P:=by with_reducible first|exact vlk a2|exact vlk an):P:=h k
theorem QHn {P Q:Prop} (k:Q) (h:Q->P:=by with_reducible first|exact vlk s1|exact vlk s2):P:=h k
theorem QHo {P Q:Prop} (k:Q) (h:Q->P:=by with_reducible first|exact vlk m0|exact vlk b4):P:=h k
theorem QIt {P Q:Prop} (k:Q) (h:Q->P:=by (with_reducible apply gek (α:=SV));first|exact wB|exact WI|exact KY):P:=h k
theorem QG9 {P Q:Prop} (k:Q) (h:Q->P:=by with_reducible first|exact vlk u3|exact vlk u4):P:=h k
theorem QDh {P Q:Prop} (k:Q) (h:Q->P:=by (with_reducible apply vlk (α:=List SV));first|exact jC|exact zG _ rfl):P:=h k
theorem QuX {P Q:Prop} (k:Q) (h:Q->P:=by apply skk;exact Qc8 l KH KI):P:=h k
theorem QcK {P:Prop} (h:P:=by unfold exX;rw [zN (by omega),zN (by omega),zN (by omega),zN (by omega),zN (by omega)]):P:=h
theorem QaR {P:Prop} (h:P:=by rw [Qb1 (by omega) (by omega)];omega):P:=h
theorem Qdd {P:Prop} (h:P:=by unfold exP;rw [zN (by omega),zN (by omega),zN (by omega),zN (by omega),zN (by omega)]):P:=h
theorem Qd0 {P:Prop} (h:P:=by unfold exE;rw [zN (by omega),zN (by omega),zN (by omega),zN (by omega),zN (by omega)]):P:=h
theorem Qcg {P:Prop} (h:P:=by unfold exC;rw [zN (by omega),zN (by omega),zN (by omega)]):P:=h
theorem QfO {P:Prop} (h:P:=by first|exact QcJ (Qcu (QaJ rfl))|exact QcJ (Qcu (Qr5 rfl))|exact QcJ (Qcu (Qcz rfl))):P:=h
theorem QsB {P:Prop} (h:P:=by (try (conv=>whnf));first|(apply Fin.mv (m:= [(0,some 0),(1,some 1),(2,some 2),(3,some 3),(4,some 4),(5,some 1),(6,some 2),(7,some 3),(8,some 4)]);(focus exact rfl);(all_goals ((try (show QcL _ _ _ [] _));first|exact aFi|exact rfl)))):P:=h
theorem QDU {P:Prop} (h:P:=by (try (conv=>whnf));first|(exact Qb5)|(exfalso;simp only [zde,decide_eq_false_iff_not,beq_iff_eq,beq_eq_false_iff_ne,ne_eq] at *;omega)):P:=h
theorem Qeu {P:Prop} (h:P:=by (try (conv=>whnf));first|(exact Qb5)):P:=h
theorem QzW {P:Prop} (h:P:=by (try (conv=>whnf));first|(apply Fin.mv (m:= [(0,some 0),(1,some 1),(2,some 2),(3,some 3),(4,some 4),(5,some 1),(6,some 2),(7,some 3),(8,some 4)]);(focus exact rfl);(all_goals ((try (show QcL _ _ _ [] _));first|exact aFi|exact rfl)))|(exfalso;simp at hb;omega)):P:=h
theorem QzX {P:Prop} (h:P:=by (try (conv=>whnf));first|(exfalso;simp at hb;omega)|(apply Fin.mv (m:= [(0,some 0),(1,some 1),(2,some 2),(3,some 3),(4,some 4),(5,some 1),(6,some 2),(7,some 3),(8,some 4)]);(focus exact rfl);(all_goals ((try (show QcL _ _ _ [] _));first|exact aFi|exact rfl)))):P:=h
theorem QzY {P:Prop} (h:P:=by (try (conv=>whnf));first|(apply Fin.mv (m:= [(0,some 0),(1,some 1),(2,some 2),(3,some 3),(4,some 4),(5,some 132160),(6,some 132161),(7,some 132162),(8,some 132163)]);(focus exact rfl);(all_goals ((try (show QcL _ _ _ [] _));first|exact aFi|exact rfl)))):P:=h
theorem QdE {P:Prop} (h:P:=by rw [QuW (by omega) (by omega)];omega):P:=h
theorem Qu1 {P:Prop} (h:P:=by (try (conv=>whnf));first|(exact QdZ)|(exfalso;simp only [zde,decide_eq_false_iff_not,beq_iff_eq,beq_eq_false_iff_ne,ne_eq] at *;omega)):P:=h
theorem QfP {P:Prop} (h:P:=by rw [Int.tdiv_eq_ediv_of_nonneg (by omega)];rfl):P:=h
theorem QDV {P:Prop} (h:P:=by (try (conv=>whnf));first|(refine Ql5 vF ?_;(apply Fin.mk (m:= [(0,some 0),(1,some 3),(2,some 4)]);(focus exact rfl);(all_goals ((try (show HlS _ _ [] _));first|(exact aFi)|exact rfl))))):P:=h
theorem Qcv {P:Prop} (h:P:=by (try (conv=>whnf));first|(exact QbG)):P:=h
theorem QDW {P:Prop} (h:P:=by (try (conv=>whnf));first|(apply Fin.mv (m:= [(0,some 0),(1,some 1),(2,some 2),(3,some 3),(4,some 4),(5,some 327808),(6,some 327809),(7,some 327810),(8,some 327811)]);(focus exact rfl);(all_goals ((try (show QcL _ _ _ [] _));first|exact aFi|exact rfl)))):P:=h
theorem QHr {P:Prop} (h:P:=by (try (conv=>whnf));first|(apply Fin.mv (m:= [(0,some 0),(1,some 1),(2,some 2),(3,some 3),(4,some 4),(5,some 5),(6,some 6),(7,some 7),(8,some 8),(9,some 9)]);(focus exact rfl);(all_goals ((try (show QcL _ _ _ [] _));first|exact aFi|exact rfl)))):P:=h
theorem QHs {P:Prop} (h:P:=by (try (conv=>whnf));first|(exfalso;omega)|(exfalso;simp at hb;first|done|fail)|(refine hB _ ?_;(exact zwL [(0,some 0),(1,some 1),(2,some 2),(3,some 3),(4,some 4),(5,some 5)]))):P:=h
theorem Qfp {P:Prop} (h:P:=by (try (conv=>whnf));first|(exfalso;omega)|(exfalso;simp at hb;first|done|fail)|(refine hN _ ?_;(exact zwL [(0,some 0),(1,some 1),(2,some 2),(3,some 3),(4,some 4),(5,some 5)]))):P:=h
theorem QHt {P:Prop} (h:P:=by rw [Qe4 (by omega) (by omega)];omega):P:=h
theorem QzZ {P:Prop} (h:P:=by (try (conv=>whnf));first|(apply Fin.mv (m:= [(0,some 0),(1,some 1),(2,some 2),(3,some 3),(4,some 4),(5,some 5),(6,some 6),(7,some 7),(8,some 8)]);(focus exact rfl);(all_goals ((try (show QcL _ _ _ [] _));first|exact aFi|exact rfl)))):P:=h
theorem QHu {P:Prop} (h:P:=by (try (conv=>whnf));first|(exfalso;omega)|(exfalso;simp at hb;first|done|fail)|(refine hB _ ?_;(exact zwL [(0,some 0),(1,some 1),(2,some 2),(3,some 3),(4,some 4)]))):P:=h
theorem Qev {P:Prop} (h:P:=by (try (conv=>whnf));first|(exfalso;omega)|(exfalso;simp at hb;omega)|(exact zf_)):P:=h
theorem QsC {P:Prop} (h:P:=by unfold mpg;split<;>omega):P:=h
theorem QHv {P:Prop} (h:P:=by first|exact QcJ (Qcu (QaJ rfl))|exact QcJ (Qcu (Qcz rfl))):P:=h
theorem Qke {P:Prop} (h:P:=by (try (conv=>whnf));first|(apply Fin.mk (m:= [(0,some 0),(1,some 1),(2,some 2),(3,some 5),(4,some 6)]);(focus exact rfl);(all_goals ((try (show HlS _ _ [] _));first|(exact aFi)|exact rfl)))):P:=h
theorem Qhl {P:Prop} (h:P:=by rw [Int.tmod_eq_emod_of_nonneg (by omega)];rfl):P:=h
theorem QHw {P:Prop} (h:P:=by (try (conv=>whnf));first|exact QbQ rfl gL rfl rfl):P:=h
theorem Qu2 {P:Prop} (h:P:=by (try (conv=>whnf));first|(refine QcF ?_ ?_;(focus (exact zf_));rw [<- hB];first|(rw [zbi];simp;first|done|fail)|(rw [zbi];simp;omega)|(rw [zbi];simp;grind))):P:=h
theorem Qn8 {P:Prop} (h:P:=by unfold exX;rw [zN (by omega),zN (by omega),zN (by omega),zP (by omega)]):P:=h
theorem Qz0 {P:Prop} (h:P:=by rw [QmK (by omega),Qe4 (by omega) (by omega)];omega):P:=h
theorem QHx {P:Prop} (h:P:=by first|exact QcJ (Qcu (QaJ rfl))|exact QcJ (Qcu (QeY rfl))|exact QcJ (Qcu (Qcz rfl))):P:=h
theorem QDX {P:Prop} (h:P:=by (try (conv=>whnf));first|(exfalso;omega)|(exfalso;simp at hb;first|done|fail)|(refine hN _ ?_;(exact zwL [(0,some 0),(1,some 1),(2,some 2),(3,some 3),(4,some 4),(5,some 131136)]))):P:=h
theorem Qhm {P:Prop} (h:P:=by (try (conv=>whnf));first|(exfalso;omega)|(exfalso;simp at hb;first|done|fail)|(refine hN _ ?_;(exact zwL [(0,some 0),(1,some 1),(2,some 2),(3,some 655488),(4,some 721024)]))):P:=h
theorem Qhn {P:Prop} (h:P:=by (try (conv=>whnf));first|(exact QdZ)):P:=h
theorem QDY {P:Prop} (h:P:=by rw [Qb1 (by omega) (by omega)]):P:=h
theorem Qn9 {P:Prop} (h:P:=by (try (conv=>whnf));first|(refine hB _ ?_;(exact zwV [(0,some 0),(1,some 1),(2,some 2),(3,some 3),(4,some 4),(5,some 5),(6,some 6),(7,some 7),(8,some 8)]))):P:=h
theorem Qkf {P:Prop} (h:P:=by unfold szO;split;exact .inr rfl;exact .inl rfl):P:=h
theorem QHy {P:Prop} (h:P:=by (try (conv=>whnf));first|(exact zf_)):P:=h
theorem Qoa {P:Prop} (h:P:=by (try (conv=>whnf));first|(exact QbG)|(exfalso;simp only [zde,decide_eq_false_iff_not,beq_iff_eq,beq_eq_false_iff_ne,ne_eq] at *;omega)):P:=h
theorem Qu3 {P:Prop} (h:P:=by show 0+((i:Nat):Int).toNat * 4=_;omega):P:=h
theorem Qkg {P:Prop} (h:P:=by rw [zbi];simp only [zde,beq_iff_eq];omega):P:=h
theorem QsD {P:Prop} (h:P:=by rw [List.length_set];exact hE.M.x):P:=h
theorem QDZ {P:Prop} (h:P:=by rw [<- ZQ];exact zdf (by omega)):P:=h
theorem Qkh {P:Prop} (h:P:=by first|exact QcJ (Qcu (QaJ rfl))|exact QcJ (Qcu (Qcz rfl))|exact QcJ (Qcu (Qzv rfl))):P:=h
theorem Qki {P:Prop} (h:P:=by unfold QaD;rw [zN vQ]):P:=h
theorem QD0 {P:Prop} (h:P:=by unfold QaD;rw [zP vQ]):P:=h
theorem QD1 {P:Prop} (h:P:=by unfold exX;rw [zN (by omega),zN (by omega),zN (by omega),zN (by omega),zP (by omega)]):P:=h
theorem QD2 {P:Prop} (h:P:=by unfold exP;rw [zN (by omega),zN (by omega),zN (by omega),zN (by omega),zP (by omega)]):P:=h
theorem QlK {P:Prop} (h:P:=by unfold exE;rw [zN (by omega),zN (by omega),zN (by omega),zN (by omega),zP (by omega)]):P:=h
theorem QD3 {P:Prop} (h:P:=by rw [QuW (by omega) (by omega)]):P:=h
theorem QHz {P:Prop} (h:P:=by unfold rsK;rw [eO,zN (c:=QdM ac=false\/szB sz=false) (by rw [k1,k2];simp),zP gW]):P:=h
theorem Qu4 {P:Prop} (h:P:=by (try (conv=>whnf));first|(refine QcF ?_ ?_;(focus (exact zf_));unfold Qd5;rw [zbi];simp;try omega)):P:=h
theorem Qu5 {P:Prop} (h:P:=by unfold Qa8;rw [Qe4 (by omega) (by omega)];omega):P:=h
theorem QD4 {P:Prop} (h:P:=by (try (conv=>whnf));first|(exact Qb5)|(exfalso;simp at hb;omega)):P:=h
theorem Qu6 {P:Prop} (h:P:=by (try (conv=>whnf));first|(exfalso;simp at hb;omega)|(exact Qb5)):P:=h
theorem Qu7 {P:Prop} (h:P:=by simp only [Int.toNat_natCast,IntKind.bits];omega):P:=h
theorem Qu8 {P:Prop} (h:P:=by rw [Int.tmod_eq_emod_of_nonneg (by omega)];omega):P:=h
theorem Qu9 {P:Prop} (h:P:=by rw [<- uD];exact Qie .i64 ps i (by omega)):P:=h
theorem Qz1 {P:Prop} (h:P:=by show 0+((j:Nat):Int).toNat * 6=_;omega):P:=h
theorem QD5 {P:Prop} (h:P:=by show 0+(((Qa8 r va:Nat):Int) / 4).toNat * 1=_;omega):P:=h
theorem QD6 {P:Prop} (h:P:=by unfold exP;rw [zN (by omega),zN (by omega),zN (by omega),zP (by omega)]):P:=h
theorem Qz2 {P:Prop} (h:P:=by unfold exE;rw [zN (by omega),zN (by omega),zN (by omega),zP (by omega)]):P:=h
theorem Qva {P:Prop} (h:P:=by rw [<- hN];exact (zgs.1 he).1):P:=h
theorem Qvb {P:Prop} (h:P:=by unfold exP;rw [zP ho.1,ho.2];rfl):P:=h
theorem Qz3 {P:Prop} (h:P:=by rw [k.1,Qb1 (by omega) (by omega)]):P:=h
theorem Qz4 {P:Prop} (h:P:=by show 0+((i:Nat):Int).toNat * 6=_;omega):P:=h
theorem Qz5 {P:Prop} (h:P:=by show 0+((i:Nat):Int).toNat * 1=_;omega):P:=h
theorem Qz6 {P:Prop} (h:P:=by show 0+((i:Nat):Int).toNat * 3=_;omega):P:=h
theorem Qz7 {P:Prop} (h:P:=by show 0+((j:Nat):Int).toNat * 1=_;omega):P:=h
theorem QJQ {P:Prop} (h:P:=by rw [dv2];exact Qe4 (by omega) (by omega)):P:=h
theorem Qde {P:Prop} (h:P:=by (repeat' ((conv=>whnf);first|exact zi0|(refine zj0 ?_;intro hb)|refine QE5 ?_|(refine Qag (f:=36) cp [⟨0,0⟩] [(0,⟨false,1,XX⟩)] rfl ⟨rfl,trivial⟩ ⟨rfl,Qas gL,trivial⟩ ⟨rfl,Qbn⟩ ?_)|refine zs0 ?_|refine zbb ?_ ?_));all_goals exact Qb5):P:=h
theorem Qfq {P:Prop} (h:P:=by (repeat' ((conv=>whnf);first|exact zi2|(refine zj0 ?_;intro hb)|refine zse ?_|refine zbb ?_ ?_));all_goals exact Qeu):P:=h
theorem QD7 {P:Prop} (h:P:=by (repeat' ((conv=>whnf);first|exact zi2|(refine zj0 ?_;intro hb)|refine zse ?_|refine zbb ?_ ?_));all_goals exact zF_):P:=h
theorem Qkj {P:Prop} (h:P:=by (repeat' ((conv=>whnf);first|exact zi2|(refine zj0 ?_;intro hb)|(refine Qaz cb ?_)|(refine zpu cm ?_)|(refine zpu cl ?_)|(refine Qag cw [⟨131200,0⟩,⟨131136,0⟩,⟨131137,0⟩] [(131200,⟨true,1,[.sl 131136 0 N,.sl 131137 0 N]⟩),(131136,⟨true,1,CK⟩),(131137,⟨true,3,CV⟩)] rfl ⟨rfl,rfl,rfl,trivial⟩ ⟨rfl,Qmz rfl,rfl,Qas (by assumption),rfl,Qas (by assumption),trivial⟩ ⟨rfl,Qbn⟩ ?_)|(apply Sk.mk; . exact sk)|(apply Sd.mk; . first|omega)|refine QDn ?_|refine zse ?_|refine zbb ?_ ?_));all_goals exact QbG):P:=h
theorem Qob {P:Prop} (h:P:=by (repeat' ((conv=>whnf);first|exact zi2|(refine zj0 ?_;intro hb)|refine zse ?_|refine zbb ?_ ?_));all_goals exact QHy):P:=h
theorem Qz8 {P:Prop} (h:P:=by (repeat' ((conv=>whnf);first|exact zi2|(refine zj0 ?_;intro hb)|(refine Qaz q1 ?_)|refine zse ?_|refine zbb ?_ ?_));all_goals exact Qeu):P:=h
theorem Qoc {P:Prop} (h:P:=by (repeat' ((conv=>whnf);first|exact zi3|(refine zj0 ?_;intro hb)|refine zq0 ?_|refine zq3 ?_|refine QDk ?_|(refine Qaz hc ?_)|(refine Qaz q0 ?_)|(refine Qaz q1 ?_)|(refine Qaz q2 ?_)|refine zse ?_|refine zbb ?_ ?_));all_goals exact Qcv):P:=h
theorem QD8 {P:Prop} (h:P:=by (repeat' ((conv=>whnf);first|exact zi2|(refine zj0 ?_;intro hb)|refine zse ?_|refine zbb ?_ ?_));all_goals exact Qev):P:=h
theorem Qz9 {P:Prop} (h:P:=by (repeat' ((conv=>whnf);first|exact zi2|(refine zj0 ?_;intro hb)|refine Qwi ?_|refine zq4 ?_|refine zq1 ?_|refine QAH ?_|(refine Qhk hr ?_)|(refine Qaz qK ?_)|(refine zpu jR ?_)|(refine zpu gH ?_)|(refine Qhk jX ?_)|refine zse ?_|refine zbb ?_ ?_));all_goals exact Qgg):P:=h
theorem QAa {P:Prop} (h:P:=by (repeat' ((conv=>whnf);first|exact zi3|(refine zj0 ?_;intro hb)|refine QAJ ?_|(refine Qaz q0 ?_)|(refine Qaz l2 ?_)|(refine zpu d2 ?_)|refine zse ?_|refine zbb ?_ ?_));all_goals exact Qgg):P:=h
theorem QsE {P:Prop} (h:P:=by (repeat' ((conv=>whnf);first|exact zi3|(refine zj0 ?_;intro hb)|(refine Qaz q0 ?_)|(refine Qhk q1 ?_)|refine zq3 ?_|refine QDk ?_|refine zse ?_|refine zbb ?_ ?_));all_goals exact Qhn):P:=h
theorem Qvc {P:Prop} (h:P:=by (repeat' ((conv=>whnf);first|exact zi2|(refine zj0 ?_;intro hb)|refine zse ?_|refine zbb ?_ ?_));all_goals exact QDU):P:=h
theorem QD9 {P:Prop} (h:P:=by (repeat' ((conv=>whnf);first|exact zi2|(refine zj0 ?_;intro hb)|(refine zpu hg ?_)|refine zse ?_|refine zbb ?_ ?_));all_goals exact zF_):P:=h
theorem QEa {P:Prop} (h:P:=by (repeat' ((conv=>whnf);first|exact zi2|(refine zj0 ?_;intro hb)|refine QIg ?_|refine QH2 ?_|refine zq4 ?_|refine zq1 ?_|refine QIi ?_|(refine Qaz hr ?_)|(refine zpu WY ?_)|(refine zpu fQ ?_)|refine zse ?_|refine zbb ?_ ?_));all_goals exact Qet):P:=h
theorem QEb {P:Prop} (h:P:=by (repeat' ((conv=>whnf);first|exact zi2|(refine zj0 ?_;intro hb)|refine QJO ?_|refine zq4 ?_|refine zq1 ?_|(refine Qaz hf ?_)|(refine zpu jR ?_)|(refine zpu gH ?_)|(refine Qaz jX ?_)|refine zse ?_|refine zbb ?_ ?_));all_goals exact Qet):P:=h
theorem QEc {P:Prop} (h:P:=by (repeat' ((conv=>whnf);first|exact zi2|(refine zj0 ?_;intro hb)|refine QIg ?_|refine QH2 ?_|refine zq4 ?_|refine zq1 ?_|refine QIi ?_|(refine Qhk hr ?_)|(refine zpu fQ ?_)|refine zse ?_|refine zbb ?_ ?_));all_goals exact Qgg):P:=h
theorem QAb {P:Prop} (h:P:=by (repeat' ((conv=>whnf);first|exact zi2|(refine zj0 ?_;intro hb)|(with_reducible first|refine zv cv ?_|refine zv cf ?_)|(refine Qaz q1 ?_)|(refine Qaz q2 ?_)|(refine zpu q3 ?_)|refine zse ?_|refine zbb ?_ ?_));all_goals exact Qoa):P:=h
theorem QEd {P:Prop} (h:P:=by (repeat' ((conv=>whnf);first|exact zi2|(refine zj0 ?_;intro hb)|refine zq0 ?_|(refine zpu q3 ?_)|refine zse ?_|refine zbb ?_ ?_));all_goals exact Qeu):P:=h
theorem QAc {P:Prop} (h:P:=by (repeat' ((conv=>whnf);first|exact zi3|(refine zj0 ?_;intro hb)|refine QAJ ?_|(refine Qaz q0 ?_)|(refine Qaz l2 ?_)|(refine zpu z2 ?_)|refine zse ?_|refine zbb ?_ ?_));all_goals exact Qgg):P:=h
theorem QEe {P:Prop} (h:P:=by (repeat' ((conv=>whnf);first|exact zi4|(refine zj4 ?_;intro hb)|refine QG9 ?_|refine zse ?_|refine zbb ?_ ?_));all_goals exact Qfp):P:=h
theorem QAd {P:Prop} (h:P:=by (repeat' ((conv=>whnf);first|exact zi2|(refine zj0 ?_;intro hb)|(with_reducible refine zv cf ?_)|(refine Qaz q1 ?_)|(refine Qaz q2 ?_)|refine zse ?_|refine zbb ?_ ?_));all_goals exact Qcv):P:=h
theorem QEf {P:Prop} (h:P:=by (repeat' ((conv=>whnf);first|exact zi2|(refine zj0 ?_;intro hb)|refine zq0 ?_|refine zse ?_|refine zbb ?_ ?_));all_goals exact Qu6):P:=h
theorem QAe {P:Prop} (h:P:=by (repeat' ((conv=>whnf);first|exact zi4|(refine zj4 ?_;intro hb)|(with_reducible refine zv q3 ?_)|refine zq0 ?_|(refine Qaz cs ?_)|refine zse ?_|refine zbb ?_ ?_));all_goals exact QDX):P:=h
theorem QAf {P:Prop} (h:P:=by (repeat' ((conv=>whnf);first|exact zi2|(refine zj0 ?_;intro hb)|(with_reducible refine zv b2 ?_)|(refine Qaz he ?_)|refine zse ?_|refine zbb ?_ ?_));all_goals exact Qgg):P:=h
theorem QAg {P:Prop} (h:P:=by (repeat' ((conv=>whnf);first|exact zi2|(refine zj0 ?_;intro hb)|refine zse ?_|refine zbb ?_ ?_));all_goals exact Qhn):P:=h
theorem QEg {P:Prop} (h:P:=by (repeat' ((conv=>whnf);first|exact zi0|(refine zj0 ?_;intro hb)|refine zs0 ?_|refine zbb ?_ ?_));all_goals exact QdZ):P:=h
theorem QEh {P:Prop} (h:P:=by (repeat' ((conv=>whnf);first|exact zi2|(refine zj0 ?_;intro hb)|refine zse ?_|refine zbb ?_ ?_));all_goals exact QdZ):P:=h
theorem QEi {P:Prop} (h:P:=by (repeat' ((conv=>whnf);first|exact zi4|(refine zj4 ?_;intro hb)|refine zse ?_|refine zbb ?_ ?_));all_goals exact QHs):P:=h
theorem QEj {P:Prop} (h:P:=by (repeat' ((conv=>whnf);first|exact zi4|(refine zj4 ?_;intro hb)|(refine QiN csm ?_)|(refine zpu ca ?_)|refine zse ?_|refine zbb ?_ ?_));all_goals exact QDe):P:=h
theorem QEk {P:Prop} (h:P:=by (repeat' ((conv=>whnf);first|exact zi2|(refine zj0 ?_;intro hb)|(with_reducible refine zv qs ?_)|refine zse ?_|refine zbb ?_ ?_));all_goals exact zF_):P:=h
theorem QEl {P:Prop} (h:P:=by (repeat' ((conv=>whnf);first|exact zi4|(refine zj4 ?_;intro hb)|refine QHc ?_|refine QDl ?_|refine zse ?_|refine zbb ?_ ?_));all_goals exact QDV):P:=h
theorem QEm {P:Prop} (h:P:=by (repeat' ((conv=>whnf);first|exact zi3|(refine zj0 ?_;intro hb)|(refine zpu q3 ?_)|refine zse ?_|refine zbb ?_ ?_));all_goals exact Qhn):P:=h
theorem QEn {P:Prop} (h:P:=by (repeat' ((conv=>whnf);first|exact zi2|(refine zj0 ?_;intro hb)|(refine zpu qP ?_)|refine zse ?_|refine zbb ?_ ?_));all_goals exact Qeu):P:=h
theorem QEo {P:Prop} (h:P:=by (repeat' ((conv=>whnf);first|exact zi2|(refine zj0 ?_;intro hb)|refine zq0 ?_|refine zse ?_|refine zbb ?_ ?_));all_goals exact Qeu):P:=h
theorem QEp {P:Prop} (h:P:=by (repeat' ((conv=>whnf);first|exact zi2|(refine zj0 ?_;intro hb)|refine zse ?_|refine zbb ?_ ?_));all_goals exact Qu4):P:=h
theorem QEq {P:Prop} (h:P:=by (repeat' ((conv=>whnf);first|exact zi2|(refine zj0 ?_;intro hb)|refine zse ?_|refine zbb ?_ ?_));all_goals exact Qu2):P:=h
theorem QEr {P:Prop} (h:P:=by (repeat' ((conv=>whnf);first|exact zi2|(refine zj0 ?_;intro hb)|refine zse ?_|refine zbb ?_ ?_));all_goals exact zf_):P:=h
theorem QEs {P:Prop} (h:P:=by (repeat' ((conv=>whnf);first|exact zi0|(refine zj0 ?_;intro hb)|refine zs0 ?_|refine zbb ?_ ?_));all_goals exact Qb5):P:=h
theorem QEt {P:Prop} (h:P:=by (repeat' ((conv=>whnf);first|exact zi0|(refine zj0 ?_;intro hb)|refine zs0 ?_|refine zbb ?_ ?_));all_goals exact Qke):P:=h
theorem QEu {P:Prop} (h:P:=by (repeat' ((conv=>whnf);first|exact zi0|(refine zj0 ?_;intro hb)|refine zst ?_|refine zbb ?_ ?_));all_goals exact QdZ):P:=h
theorem QEv {P:Prop} (h:P:=by (repeat' ((conv=>whnf);first|exact zi3|(refine zj0 ?_;intro hb)|refine zse ?_|refine zbb ?_ ?_));all_goals exact QHr):P:=h
theorem QJR {P:Prop} (h:P:=by (repeat' ((conv=>whnf);first|exact zi3|(refine zj0 ?_;intro hb)|refine zse ?_|refine zbb ?_ ?_));all_goals exact QzZ):P:=h
theorem QJS {P:Prop} (h:P:=by (repeat' ((conv=>whnf);first|exact zi4|(refine zj4 ?_;intro hb)|refine zse ?_|refine zbb ?_ ?_));all_goals exact Qgg):P:=h
theorem Qom {P:Prop} (h:P:=by
  obtain ⟨qQ,qH,jT,jH⟩:=hm;have p1:IntKind.i64.wrap (m.n-1)=m.n-1:=Qb1 (by omega) (by omega);have p2:=Qau (m.n-1);have p3:=Qau (4*(w32 (m.n-1):Nat));have p4:=QbZ E.M.pc m.n;have p5:=Qau ((lpc E.M.pc m.n:Nat)+4);have p6:=Qau ((lpc E.M.pc m.n:Nat)+(m.k:Nat));have KY:=Qbp E hE 1 2 3 4 m.a qQ;have wB:=Qbp E hE 1 2 3 4 m.b qH;have ctk:=Qpt m.o (E.M.x.getD m.a 0) (E.M.x.getD m.b 0) (Qab hE.M.xr m.a) (Qab hE.M.xr m.b);rw [jW] at ctk;clear jW;have qD:QaD E.M.x 0 (0)=E.M.x:=by unfold QaD;rw [zP rfl]
  unfold fnE;rw [qD];clear qD;generalize w32 ((lpc E.M.pc m.n:Nat)+(m.k:Nat))=nxk,E.M.x.getD m.a 0=xa,E.M.x.getD m.b 0=xb at *;generalize lpc E.M.pc m.n=lp,w32 (4*(w32 (m.n-1):Nat))=p44 at *;generalize w32 (m.n-1)=p11,w32 ((lp:Int)+4)=nx4 at *;obtain ⟨_,ma,mb,mc,mk,_⟩:=m;dsimp only [Mi.C] at *;subst fK;have fH:=Qaa E.M.m;have gY:=Qah E.T;have fI:=Qae E.B;have qM:=(QaA hE.o).2.1;obtain ⟨hM,hT,_,hB,_,ho,_,_⟩:=hE;obtain ⟨M,T,B,o,_,s⟩:=E;dsimp only [Eg.H,Eg.R,Eg.Rk,Eg.C,wrt] at *;obtain ⟨hx,hc,hY,gA,gH,gB,gI,gD,gE,gF⟩:=hM;obtain ⟨x,pc,_,m,_,_,_,_,d,n⟩:=M;dsimp only at *;obtain ⟨_,_,_,_,_,_,_,_,_,_,_,_,_,_,_,_,rfl⟩:=QdY hx;obtain ⟨_,_,_,_,_,_,_,_,rfl⟩:=Qek hc;cases d;cases n;dsimp only [Mc.C,Mc.D,Dk.C,Nk.C,Dk.ok,Nk.ok] at *
  try dsimp only [cR,Mc.C,Mc.D,Dk.C,Nk.C] at *
  try simp only [Qaf,zca,zna,zds,zdz] at *
  generalize gO:wsv m=XX,hX3:bks B=BB,hX4:OLs o=OO,gJ:m.length=nn,gM:B.length=bn,gP:o.length=on,gU:tes T=TT,htn:T.length=tn at *;clear gO gU hX3 hX4 gJ gM gP htn hT hB ho hY gA gH gB gI gD gE gF;refine fnW Tryz.func142 ?_;(repeat' ((conv=>whnf);first|exact zi2|(refine zj0 ?_;intro hb)|refine QDj ?_|refine QHb ?_|((with_reducible apply Ge.mk (α:=SV)); . first|exact KY|exact wB)|refine QAG ?_|(refine zpu ctk ?_)|refine zse ?_|refine zbb ?_ ?_));all_goals (conv=>whnf)
  all_goals first|(exfalso;simp at hb;omega)|(apply Fin.mv (m:= [(0,some 0),(1,some 1),(2,some 2),(3,some 3),(4,some 4),(5,some 1),(6,some 2),(7,some 3),(8,some 4)]);(focus exact rfl);(all_goals ((try (show QcL _ _ _ [] _));first|exact aFi|exact rfl)))):P:=h
theorem QDy {P:Prop} (h:P:=by
  rw [eX,eP,eC,eE];have rA:=Qav x pc c A hx hA;have rB:=Qav x pc c B hx hB;have rC:=Qav x pc c C hx hC;have qm:IntKind.u32.wrap m=((w32 m:Nat):Int):=Qau m;have q4:IntKind.u32.wrap ((pc:Int)+4)=((w32 ((pc:Int)+4):Nat):Int):=Qau _;have q4m:IntKind.u32.wrap (4*((w32 m:Nat):Int))=((w32 (4*(w32 m:Nat)):Nat):Int):=Qau _;have xA:=Qab hY A;have xB:=Qab hY B;have lm:=QaF m;have gS:=Qaq (x) (pc) (c) hx hc;have jM:=Qam (x) (pc) (c);have qU:=Qai (x) (pc) (c);have qY:=Qaj gS;have gpCC:=QaB (x) (pc) (c) hx;obtain ⟨PP,qX⟩:∃ PP,w32 ((pc:Int)+4)=PP:=⟨_,rfl⟩;rw [qX];rw [qX] at q4;have jC:=QaN x pc c PP hx;have gC:=Qaq (x) (PP) (c) hx hc;have fW:=Qam (x) (PP) (c);have gR:=Qai (x) (PP) (c);have fE:=Qaj gC;have gpC3:=QaB (x) (PP) (c) hx;generalize Qax (x) (PP) (c)=C3 at *;clear eX eP eC eE;generalize x.getD A 0=vA,x.getD B 0=vB,x.getD C 0=vC,Qax (x) (pc) (c)=CC,w32 (4*((w32 m:Nat):Int))=m4 at *;generalize w32 m=mm,w32 ((pc:Int)+4)=p4 at *;refine fnW Tryz.func149 ?_;(repeat' ((conv=>whnf);first|exact zi2|(refine zj0 ?_;intro hb)|(with_reducible first|refine zv qm ?_|refine zv q4 ?_|refine zv q4m ?_)|refine zq8 ?_|((with_reducible apply Vl.mk (α:=List SV)); . first|exact jC|exact qY _ (by first|rfl|assumption)|exact fE _ (by first|rfl|assumption))|refine zq1 ?_|refine QIh ?_|refine zse ?_|refine zbb ?_ ?_));all_goals (conv=>whnf)
  all_goals exact zF_):P:=h
theorem QDG {P:Prop} (h:P:=by
  rw [eX,eP,eC,eE];have rA:=Qav x pc c A hx hA;have rB:=Qav x pc c B hx hB;have rC:=Qav x pc c C hx hC;have gp:=QaB x pc c hx;have qm:IntKind.u32.wrap m=((w32 m:Nat):Int):=Qau m;have q4:IntKind.u32.wrap ((pc:Int)+4)=((w32 ((pc:Int)+4):Nat):Int):=Qau _;have xA:=Qab hY A;have xB:=Qab hY B;have xC:=Qab hY C;have lm:=QaF m;have hl:=Qaq x pc c hx hc;have hs:=Qam x pc c;have hk:=Qai x pc c;have yR:=Qaj hl;obtain ⟨PP,qX⟩:∃ PP,w32 ((pc:Int)+4)=PP:=⟨_,rfl⟩;rw [qX];rw [qX] at q4;have jC:=QaN x pc c PP hx;have jG:=Qaq x PP c hx hc;have fI:=Qam x PP c;have yJ:=Qai x PP c;have zG:=Qaj jG;generalize Qax x PP c=C3 at *;clear eX eP eC eE hY gA hm;generalize x.getD A 0=vA,x.getD B 0=vB,x.getD C 0=vC at *;skip;generalize Qax x pc c=CC,w32 m=mm,w32 ((pc:Int)+4)=p4 at *;refine fnW Tryz.func58 ?_;(repeat' ((conv=>whnf);first|exact zi2|(refine zj0 ?_;intro hb)|refine QHe ?_|refine QzO ?_|((with_reducible apply Vl.mk (α:=List SV)); . first|exact jC|exact yR _ rfl|exact zG _ rfl)|refine QH4 ?_|(apply Sd.mk; . first|exact ⟨hl,hk,rfl,(by show 0+CC.length<=25;omega)⟩|exact ⟨jG,yJ,rfl,(by show 0+C3.length<=25;omega)⟩|(refine ⟨rfl,rfl,rfl,?_⟩;show 16+1<=CC.length;omega)|(refine ⟨rfl,rfl,rfl,?_⟩;show 0+16+1<=CC.length;omega)|(show (0:Int)<=A/\(A:Int)<16;omega)|(show (0:Int)<=B/\(B:Int)<16;omega)|(show (0:Int)<=C/\(C:Int)<16;omega))|(refine And.intro rfl ?_)|refine zse ?_|refine zbb ?_ ?_));all_goals (conv=>whnf)
  all_goals exact zF_):P:=h
theorem QHp {P:Prop} (h:P:=by
  have gN:=QgW x pc c A V hx hc hA;have jC:=QaN (QaD x A V) pc c PP (by rw [Qay];exact hx);have qR:=Qaq (QaD x A V) (pc) (c) (by rw [Qay];exact hx) hc;have HG:=Qam (QaD x A V) (pc) (c);have jS:=Qai (QaD x A V) (pc) (c);have wW:=Qaj qR;have gpC2:=QaB (QaD x A V) (pc) (c) (by rw [Qay];exact hx);have gC:=Qaq (QaD x A V) (PP) (c) (by rw [Qay];exact hx) hc;have fW:=Qam (QaD x A V) (PP) (c);have gR:=Qai (QaD x A V) (PP) (c);have fE:=Qaj gC;have gpC3:=QaB (QaD x A V) (PP) (c) (by rw [Qay];exact hx);generalize Qax (QaD x A V) (PP) (c)=C3,Qax (QaD x A V) (pc) (c)=C2 at *;clear eX eP eC;generalize x.getD A 0=vA,x.getD B 0=vB,x.getD C 0=vC,Qax (x) (pc) (c)=CC,w32 (4*((w32 m:Nat):Int))=m4 at *;generalize w32 m=mm,w32 ((pc:Int)+4)=p4 at *;refine fnW Tryz.func150 ?_;(repeat' ((conv=>whnf);first|exact zi2|(refine zj0 ?_;intro hb)|refine QE8 ?_|(apply Sd.mk; . first|exact ⟨gS,qU,rfl,(by show 0+CC.length<=25;omega)⟩|exact ⟨gC,gR,rfl,(by show 0+C3.length<=25;omega)⟩|exact ⟨qR,jS,rfl,(by show 0+C2.length<=25;omega)⟩|exact ⟨gS,qU,rfl,(by show 0+CC.length<=C3.length;omega)⟩|exact ⟨gS,qU,rfl,(by show 0+CC.length<=C2.length;omega)⟩|exact ⟨gC,gR,rfl,(by show 0+C3.length<=CC.length;omega)⟩|exact ⟨gC,gR,rfl,(by show 0+C3.length<=C2.length;omega)⟩|exact ⟨qR,jS,rfl,(by show 0+C2.length<=CC.length;omega)⟩|exact ⟨qR,jS,rfl,(by show 0+C2.length<=C3.length;omega)⟩|(show (0:Int)<=A/\(A:Int)<16;omega)|(show (0:Int)<=B/\(B:Int)<16;omega)|(refine ⟨rfl,rfl,rfl,?_⟩;show 0+16+1<=CC.length;omega)|(refine ⟨rfl,rfl,rfl,?_⟩;show 0+16+1<=C3.length;omega)|(refine ⟨rfl,rfl,rfl,?_⟩;show 0+16+1<=C2.length;omega))|((with_reducible apply Vl.mk (α:=List SV)); . first|exact jC|exact qY _ (by first|rfl|assumption)|exact fE _ (by first|rfl|assumption)|exact wW _ (by first|rfl|assumption))|(apply Sg.mk; . first|exact Qa6 CC gS|exact Qa6 C3 gC|exact Qa6 C2 qR)|((with_reducible apply Ge.mk (α:=SV)); . first|exact rA|exact rB|exact rC|exact gpCC|exact gpC3|exact gpC2)|(refine zpu gN ?_)|refine zse ?_|refine zbb ?_ ?_));all_goals (conv=>whnf)
  all_goals exact zF_):P:=h
theorem QIu {P:Prop} (h:P:=by
  refine fnW Tryz.func197 ?_;dsimp only [Mi.C];(repeat' ((conv=>whnf);first|exact zi0|(refine zj0 ?_;intro hb)|(apply Sd.mk; . exact fM)|refine QHd ?_|(refine Qac (f:=255) (vT) rfl ?_)|(refine Qac (f:=256) (h3) rfl ?_)|(refine Qac (f:=257) (uU) rfl ?_)|refine zs0 ?_|refine zbb ?_ ?_));all_goals (conv=>whnf)
  all_goals
   first
    | exact Qan rfl rfl
  ):P:=h
theorem QHq {P:Prop} (h:P:=by
  generalize QbT o=bb at *;have gN:=QhK x pc c A V hx hc hA;have hl2:=Qaq (QaD x A V) pc c (by rw [Qay];exact hx) hc;have gY:=Qam (QaD x A V) pc c;have jE:=Qai (QaD x A V) pc c;have wT:QaC (Qax x pc c) 0 (Qax (QaD x A V) pc c)=Qax (QaD x A V) pc c:=Qcc (by omega);have jC:=QaN (QaD x A V) pc c PP (by rw [Qay];exact hx);have jG:=Qaq (QaD x A V) PP c (by rw [Qay];exact hx) hc;have fI:=Qam (QaD x A V) PP c;have yJ:=Qai (QaD x A V) PP c;have zG:=Qaj jG;have gp2:=QaB (QaD x A V) pc c (by rw [Qay];exact hx);generalize Qax (QaD x A V) PP c=C3,Qax (QaD x A V) pc c=C2 at *;clear eX eP eC eE hY gA hm;generalize x.getD A 0=vA,x.getD B 0=vB,x.getD C 0=vC at *;skip;generalize Qax x pc c=CC,w32 m=mm,w32 ((pc:Int)+4)=p4 at *;refine fnW Tryz.func58 ?_;(repeat' ((conv=>whnf);first|exact zi2|(refine zj0 ?_;intro hb)|refine QHe ?_|refine QzO ?_|((with_reducible apply Vl.mk (α:=List SV)); . first|exact wT|exact jC|exact yR _ rfl|exact zG _ rfl)|(apply Sg.mk; . first|exact Qa6 C3 jG|exact Qa6 C2 hl2|exact Qa6 CC hl)|(apply Sd.mk; . first|exact ⟨hl,hk,rfl,(by show 0+CC.length<=25;omega)⟩|exact ⟨jG,yJ,rfl,(by show 0+C3.length<=25;omega)⟩|exact ⟨hl2,jE,rfl,(by show 0+C2.length<=CC.length;omega)⟩|(refine ⟨rfl,rfl,rfl,?_⟩;show 16+1<=C2.length;omega)|(refine ⟨rfl,rfl,rfl,?_⟩;show 0+16+1<=C2.length;omega)|(show (0:Int)<=A/\(A:Int)<16;omega)|(show (0:Int)<=B/\(B:Int)<16;omega)|(show (0:Int)<=C/\(C:Int)<16;omega))|(refine zpu gN ?_)|(refine zpu gW ?_)|refine zse ?_|refine zbb ?_ ?_));all_goals (conv=>whnf)
  all_goals exact zF_):P:=h
theorem QDT {P:Prop} (h:P:=by
  have fH:=Qaa E.M.m;have gY:=Qah E.T;have fI:=Qae E.B;have qM:=(QaA hE.o).2.1;obtain ⟨hM,hT,_,hB,_,ho,_,_⟩:=hE;obtain ⟨M,T,B,o,_,s⟩:=E;dsimp only [Eg.H,Eg.R,Eg.Rk,Eg.C,wrt] at *;obtain ⟨hx,hc,hY,gA,gH,gB,gI,gD,gE,gF⟩:=hM;obtain ⟨_,_,c,m,_,_,_,_,d,n,_,_,_,wt⟩:=M;dsimp only at *;obtain ⟨_,_,_,_,_,_,_,_,_,_,_,_,_,_,_,_,rfl⟩:=QdY hx;obtain ⟨_,_,_,_,_,_,_,_,rfl⟩:=Qek hc;cases d;cases n;dsimp only [Mc.C,Mc.D,Dk.C,Nk.C,Dk.ok,Nk.ok] at *;subst hw
  try dsimp only [cR,Mc.C,Mc.D,Dk.C,Nk.C] at *
  try simp only [Qaf,zca,zna,zds,zdz] at *
  generalize gO:wsv m=XX,hX3:bks B=BB,hX4:OLs o=OO,gJ:m.length=nn,gM:B.length=bn,gP:o.length=on,gU:tes T=TT,htn:T.length=tn at *;clear gO gU hX3 hX4 gJ gM gP htn hT hB ho hY gA gH gB gI gD gE gF;refine fnW Tryz.func74 ?_;(repeat' ((conv=>whnf);first|exact zi2|(refine zj0 ?_;intro hb)|refine QHm ?_|(refine Qaz cl ?_)|refine zse ?_|refine zbb ?_ ?_));all_goals (conv=>whnf)
  all_goals first|(exfalso;simp at hb;omega)|(exfalso;simp_all;omega)|(apply Fin.mv (m:= [(0,some 0),(1,some 1),(2,some 2),(3,some 3),(4,some 4),(5,some 1),(6,some 2),(7,some 3),(8,some 4)]);(focus exact rfl);(all_goals ((try (show QcL _ _ _ [] _));first|exact aFi|exact rfl)))):P:=h
theorem QIv {P:Prop} (h:P:=by
  clear eX eP eC eE;generalize x.getD A 0=vA,x.getD B 0=vB,x.getD C 0=vC,Qax (x) (pc) (c)=CC,w32 (4*((w32 m:Nat):Int))=m4 at *;generalize w32 m=mm,w32 ((pc:Int)+4)=p4 at *;refine fnW Tryz.func149 ?_;(repeat' ((conv=>whnf);first|exact zi2|(refine zj0 ?_;intro hb)|(with_reducible first|refine zv qm ?_|refine zv q4 ?_|refine zv q4m ?_)|refine zq8 ?_|((with_reducible apply Vl.mk (α:=List SV)); . first|exact qY _ (by first|rfl|assumption)|exact fE _ (by first|rfl|assumption))|refine zq1 ?_|refine QIh ?_|(refine zpu fQ ?_)|refine zse ?_|refine zbb ?_ ?_));all_goals (conv=>whnf)
  all_goals exact zF_):P:=h
theorem QIw {P:Prop} (h:P:=by
  generalize knC is v=KN at *;refine fnW Tryz.func197 ?_;dsimp only [Mi.C];(repeat' ((conv=>whnf);first|exact zi0|(refine zj0 ?_;intro hb)|(apply Sd.mk; . exact fM)|refine QHd ?_|refine zs0 ?_|refine zbb ?_ ?_));all_goals (conv=>whnf)
  all_goals
   first
    | exact Qan rfl rfl
  ):P:=h
theorem QIx {P:Prop} (h:P:=by
  (repeat' ((conv=>whnf);first|exact zi0|(refine zj0 ?_;intro hb)|(with_reducible first|refine zv (QbV _ ha) ?_|refine zv (QbV _ fV) ?_)|refine zs0 ?_|refine zbb ?_ ?_));all_goals (conv=>whnf)
  all_goals
   apply Qan
   (focus rfl)
   simp only [Qbc];congr 3
   first
    | (subst hb;simp [Qdf];first|done|fail)
    | (subst hb;simp [Qdf];omega)
    | (unfold Qdf;rw [zN (by omega),zN (by omega),zN (by omega),zN (by omega),zN (by omega)];simp;first|done|fail)
    | (subst hb;rw [zbi];simp [Qdf];first|done|fail)
    | (subst hb;rw [zbi];simp [Qdf];omega)):P:=h
theorem QuZ {P:Prop} (h:P:=by
  clear eX eP eC eE hY gA hm;generalize x.getD A 0=vA,x.getD B 0=vB,x.getD C 0=vC at *;skip;generalize Qax x pc c=CC,w32 m=mm,w32 ((pc:Int)+4)=p4 at *;refine fnW Tryz.func58 ?_;(repeat' ((conv=>whnf);first|exact zi2|(refine zj0 ?_;intro hb)|refine QHe ?_|refine QzO ?_|((with_reducible apply Vl.mk (α:=List SV)); . first|exact zG _ rfl|exact yR _ rfl|exact zG _ rfl)|refine QH4 ?_|(apply Sd.mk; . first|exact ⟨hl,hk,rfl,(by show 0+CC.length<=25;omega)⟩|exact ⟨jG,yJ,rfl,(by show 0+C3.length<=25;omega)⟩|(show (0:Int)<=A/\(A:Int)<16;omega)|(show (0:Int)<=B/\(B:Int)<16;omega)|(show (0:Int)<=C/\(C:Int)<16;omega))|(refine zpu fQ ?_)|refine zse ?_|refine zbb ?_ ?_));all_goals (conv=>whnf)
  all_goals exact zF_):P:=h
theorem QzR {P:Prop} (h:P:=by
  refine fnW Tryz.func142 ?_;(repeat' ((conv=>whnf);first|exact zi2|(refine zj0 ?_;intro hb)|refine zq2 ?_|refine QHb ?_|((with_reducible apply Ge.mk (α:=SV)); . first|exact wB|exact ZY)|refine QAG ?_|(refine zpu cal ?_)|refine zse ?_|refine zbb ?_ ?_));all_goals (conv=>whnf)
  all_goals first|(exfalso;simp at hb;omega)|(apply Fin.mv (m:= [(0,some 0),(1,some 1),(2,some 2),(3,some 3),(4,some 4),(5,some 1),(6,some 2),(7,some 3),(8,some 4)]);(focus exact rfl);(all_goals ((try (show QcL _ _ _ [] _));first|exact aFi|exact rfl)))):P:=h
theorem QDr {P:Prop} (h:P:=by
  refine fnW Tryz.func142 ?_;(repeat' ((conv=>whnf);first|exact zi2|(refine zj0 ?_;intro hb)|refine zq2 ?_|refine QHb ?_|refine QFe ?_|refine QAG ?_|(refine zpu cal ?_)|refine zse ?_|refine zbb ?_ ?_));all_goals (conv=>whnf)
  all_goals first|(exfalso;simp at hb;omega)|(apply Fin.mv (m:= [(0,some 0),(1,some 1),(2,some 2),(3,some 3),(4,some 4),(5,some 1),(6,some 2),(7,some 3),(8,some 4)]);(focus exact rfl);(all_goals ((try (show QcL _ _ _ [] _));first|exact aFi|exact rfl)))):P:=h
theorem QDs {P:Prop} (h:P:=by
  (repeat' ((conv=>whnf);first|exact zi2|(refine zj0 ?_;intro hb)|refine zse ?_|refine zbb ?_ ?_));all_goals (conv=>whnf)
  all_goals exact zf_):P:=h
theorem QDt {P:Prop} (h:P:=by
  obtain ⟨wA,UV,hO3⟩:=QaA qW;have WU:=Qaa M.m;have jO:=hM.x;have jL:=hM.c;clear hM qW wA;generalize OLs os=OL,os.length=ol,wsv M.m=Xe at *;obtain ⟨_,_,_,me,_,_,_,_,de,ne⟩:=M;dsimp only at *;obtain ⟨_,_,_,_,_,_,_,_,_,_,_,_,_,_,_,_,rfl⟩:=QdY jO;obtain ⟨_,_,_,_,_,_,_,_,rfl⟩:=Qek jL;cases de;cases ne;unfold Qd1;unfold Qd1 at hB;simp only [Qaf,zca,zna,Mc.C,Mc.D,Dk.C,Nk.C] at *;generalize me.length=nn1 at *;(repeat' ((conv=>whnf);first|exact zi4|(refine zj4 ?_;intro hb)|refine zse ?_|refine zbb ?_ ?_));all_goals (conv=>whnf)
  all_goals first|(exfalso;omega)|(exfalso;simp at hb;first|done|fail)|(refine hB _ ?_;(exact zwL [(0,some 0),(1,some 1),(2,some 2),(3,some 3),(4,some 4)]))):P:=h
theorem QlJ {P:Prop} (h:P:=by
  refine fnW Tryz.func142 ?_;(repeat' ((conv=>whnf);first|exact zi2|(refine zj0 ?_;intro hb)|refine zq2 ?_|refine QHk ?_|refine QAG ?_|(refine Qaw ca ?_)|refine zse ?_|refine zbb ?_ ?_));all_goals (conv=>whnf)
  all_goals first|(exfalso;simp at hb;omega)|(apply Fin.mv (m:= [(0,some 0),(1,some 1),(2,some 2),(3,some 3),(4,some 4),(5,some 786560),(6,some 786561),(7,some 786562),(8,some 786563)]);(focus exact rfl);(all_goals ((try (show QcL _ _ _ [] _));first|exact aFi|exact rfl)))):P:=h
theorem QDu {P:Prop} (h:P:=by
  refine fnW Tryz.func142 ?_;(repeat' ((conv=>whnf);first|exact zi2|(refine zj0 ?_;intro hb)|refine zq2 ?_|refine QHk ?_|refine QAG ?_|(refine Qaw ca ?_)|refine zse ?_|refine zbb ?_ ?_));all_goals (conv=>whnf)
  all_goals first|(exfalso;simp at hb;omega)|(apply Fin.mv (m:= [(0,some 0),(1,some 1),(2,some 2),(3,some 3),(4,some 4),(5,some 721024),(6,some 721025),(7,some 721026),(8,some 721027)]);(focus exact rfl);(all_goals ((try (show QcL _ _ _ [] _));first|exact aFi|exact rfl)))):P:=h
theorem QDv {P:Prop} (h:P:=by
  refine fnW Tryz.func142 ?_;(repeat' ((conv=>whnf);first|exact zi2|(refine zj0 ?_;intro hb)|refine zq2 ?_|refine QHk ?_|refine QAG ?_|(refine Qaw ca ?_)|refine zse ?_|refine zbb ?_ ?_));all_goals (conv=>whnf)
  all_goals first|(exfalso;simp at hb;omega)|(apply Fin.mv (m:= [(0,some 0),(1,some 1),(2,some 2),(3,some 3),(4,some 4),(5,some 655488),(6,some 655489),(7,some 655490),(8,some 655491)]);(focus exact rfl);(all_goals ((try (show QcL _ _ _ [] _));first|exact aFi|exact rfl)))):P:=h
theorem QDw {P:Prop} (h:P:=by
  (repeat' ((conv=>whnf);first|exact zi2|(refine zj0 ?_;intro hb)|refine zse ?_|refine zbb ?_ ?_));all_goals (conv=>whnf)
  all_goals exact zF_):P:=h
theorem QDx {P:Prop} (h:P:=by
  (repeat' ((conv=>whnf);first|exact zi3|(refine zj0 ?_;intro hb)|refine QIn ?_|refine Qwj ?_|refine QfN ?_|refine QDo ?_|(refine Qaw ce_ ?_)|refine zse ?_|refine zbb ?_ ?_));all_goals (conv=>whnf)
  all_goals first|(exfalso;simp at hb;omega)|(exfalso;simp at hb;first|done|fail)|(refine hB _ ?_;(exact zwV [(0,some 0),(1,some 1),(2,some 2),(3,some 3),(4,some 4),(5,some 197248),(6,some 197249),(7,some 197250),(8,some 197251)]))):P:=h
theorem Qn7 {P:Prop} (h:P:=by
  rw [hB] at vT gW;generalize knC is v=KN at *;refine fnW Tryz.func197 ?_;dsimp only [Mi.C];(repeat' ((conv=>whnf);first|exact zi0|(refine zj0 ?_;intro hb)|(apply Sd.mk; . exact fM)|refine QHd ?_|(refine Qac (f:=255) (vT) rfl ?_)|(refine Qac (f:=256) (h3) rfl ?_)|(refine Qac (f:=257) (uU) rfl ?_)|(refine Qac (f:=126) (gW) rfl ?_)|refine zs0 ?_|refine zbb ?_ ?_));all_goals (conv=>whnf)
  all_goals
   first
    | exact Qan rfl rfl
  ):P:=h
theorem QDz {P:Prop} (h:P:=by
  refine fnW Tryz.func142 ?_;(repeat' ((conv=>whnf);first|exact zi2|(refine zj0 ?_;intro hb)|refine zq2 ?_|(refine Qaw ca ?_)|refine zse ?_|refine zbb ?_ ?_));all_goals (conv=>whnf)
  all_goals first|(exfalso;simp at hb;omega)|(apply Fin.mv (m:= [(0,some 0),(1,some 1),(2,some 2),(3,some 3),(4,some 4),(5,some 917632),(6,some 917633),(7,some 917634),(8,some 917635)]);(focus exact rfl);(all_goals ((try (show QcL _ _ _ [] _));first|exact aFi|exact rfl)))):P:=h
theorem QDA {P:Prop} (h:P:=by
  refine fnW Tryz.func142 ?_;(repeat' ((conv=>whnf);first|exact zi2|(refine zj0 ?_;intro hb)|refine zq2 ?_|(refine Qaw ca ?_)|refine zse ?_|refine zbb ?_ ?_));all_goals (conv=>whnf)
  all_goals first|(exfalso;simp at hb;omega)|(apply Fin.mv (m:= [(0,some 0),(1,some 1),(2,some 2),(3,some 3),(4,some 4),(5,some 852096),(6,some 852097),(7,some 852098),(8,some 852099)]);(focus exact rfl);(all_goals ((try (show QcL _ _ _ [] _));first|exact aFi|exact rfl)))):P:=h
theorem QDB {P:Prop} (h:P:=by
  clear gO gU hX3 hX4 hX5 hT hB ho hY gA gH gB gI gD gE gF VU gM hb2n htn gJ gP;refine fnW Tryz.func211 ?_;(repeat' ((conv=>whnf);first|exact zi2|(refine zj0 ?_;intro hb)|(refine Qaz ci ?_)|refine zse ?_|refine zbb ?_ ?_));all_goals (conv=>whnf)
  all_goals first|(apply Fin.mv (m:= [(0,some 0),(1,some 1),(2,some 2),(3,some 3),(4,some 4),(5,some 1),(6,some 2),(7,some 65984),(8,some 4)]);(focus exact rfl);(all_goals ((try (show QcL _ _ _ [] _));first|exact aFi|exact rfl)))|(exfalso;simp at hb;omega)):P:=h
theorem QDC {P:Prop} (h:P:=by
  (repeat' ((conv=>whnf);first|exact zi2|(refine zj0 ?_;intro hb)|(with_reducible first|refine zv c1 ?_|refine zv c2 ?_)|(refine Qaz hp ?_)|refine zse ?_|refine zbb ?_ ?_));all_goals (conv=>whnf)
  all_goals exact Qb5):P:=h
theorem QDD {P:Prop} (h:P:=by
  (repeat' ((conv=>whnf);first|exact zi2|(refine zj0 ?_;intro hb)|(refine Qaz hm ?_)|(refine Qaz hi ?_)|refine zse ?_|refine zbb ?_ ?_));all_goals (conv=>whnf)
  all_goals first
   | (refine QcF ?_ ?_;(focus (exact Qb5));rw [<- hB];symm;first|(rw [zbi];simp;first|done|fail)|(rw [zbi];simp;omega)|(rw [zbi];simp_all;first|done|fail)|(rw [zbi];simp;grind))
 ):P:=h
theorem QzS {P:Prop} (h:P:=by
  (repeat' ((conv=>whnf);first|exact zi0|(refine zj0 ?_;intro hb)|refine zs0 ?_|refine zbb ?_ ?_));all_goals (conv=>whnf)
  all_goals first
   | (subst hb;exact Qan rfl rfl)
   | (
     have e1:Qct ac=5:=by unfold Qct;rw [zN (by omega),zN (by omega)]
     have e2:QdM ac=false:=by unfold QdM;exact zdf (by omega)
     rw [e1,e2]
     exact Qan rfl rfl)
 ):P:=h
theorem QDE {P:Prop} (h:P:=by
  by_cases hj:j<xs.length
  .rw [zgd,zgg hj];exact h _ (List.getElem_mem hj)
  .rw [zgd,List.getElem?_eq_none (by omega)];simp):P:=h
theorem QDF {P:Prop} (h:P:=by
  (repeat' ((conv=>whnf);first|exact zi2|(refine zj0 ?_;intro hb)|refine QDp ?_|refine zse ?_|refine zbb ?_ ?_));all_goals (conv=>whnf)
  all_goals first|(refine QcF ?_ ?_;(focus (exact zf_));rw [<- hB];first|(symm;exact zdf (by omega))|(rw [zbi];simp;grind))):P:=h
theorem QzT {P:Prop} (h:P:=by
  (repeat' ((conv=>whnf);first|exact zi2|(refine zj0 ?_;intro hb)|(refine zpu hg ?_)|refine zse ?_|refine zbb ?_ ?_));all_goals (conv=>whnf)
  all_goals exact zf_):P:=h
theorem QDH {P:Prop} (h:P:=by
  refine Qar (Qao rfl rfl rfl rfl (Qak h3)) ?_;refine Qar (Qao rfl rfl rfl rfl (Qak h4)) ?_;refine Qar (Qao rfl rfl rfl rfl (.cons (Qcz rfl) (.cons (Qcz rfl) .nil))) ?_;refine Qid ?_;refine Qid ?_;refine Qf1 rfl ?_;refine Qf1 rfl ?_;refine Qf1 rfl ?_
  exact QaK):P:=h
theorem QzU {P:Prop} (h:P:=by
  (repeat' ((conv=>whnf);first|exact zi2|(refine zj0 ?_;intro hb)|refine zse ?_|refine zbb ?_ ?_));all_goals (conv=>whnf)
  all_goals first|(refine QcF ?_ ?_;(focus (exact zf_));rw [<- hB];first|(rw [zbi];simp;first|done|fail)|(rw [zbi];simp;omega)|(rw [zbi];simp;grind))):P:=h
theorem QDI {P:Prop} (h:P:=by
  (repeat' ((conv=>whnf);first|exact zi2|(refine zj0 ?_;intro hb)|refine zse ?_|refine zbb ?_ ?_));all_goals (conv=>whnf)
  all_goals first|(exact Qb5)):P:=h
theorem QDJ {P:Prop} (h:P:=by
  generalize Qct ac=C,wsv xs=XX at *;refine fnW Tryz.func180 ?_;(repeat' ((conv=>whnf);first|exact zi0|(refine zj0 ?_;intro hb)|(refine Qac (f:=245) (cc) rfl ?_)|refine zs0 ?_|refine zbb ?_ ?_));all_goals (conv=>whnf)
  all_goals first|exact QbQ rfl gL rfl rfl):P:=h
theorem QzV {P:Prop} (h:P:=by
  (repeat' ((conv=>whnf);first|exact zi2|(refine zj0 ?_;intro hb)|refine zse ?_|refine zbb ?_ ?_));all_goals (conv=>whnf)
  all_goals first|(exact Qb5)|(exfalso;simp only [zde,decide_eq_false_iff_not,beq_iff_eq,beq_eq_false_iff_ne,ne_eq] at *;omega)):P:=h
theorem QDK {P:Prop} (h:P:=by
  (repeat' ((conv=>whnf);first|exact zi0|(refine zj0 ?_;intro hb)|refine zs0 ?_|refine zbb ?_ ?_));all_goals (conv=>whnf)
  all_goals (refine QbQ rfl (Qaa _) rfl ?_;simp only [Qbc];congr 3;unfold mpg;split<;>omega)):P:=h
theorem QDL {P:Prop} (h:P:=by
  (repeat' ((conv=>whnf);first|exact zi2|(refine zj0 ?_;intro hb)|refine zse ?_|refine zbb ?_ ?_));all_goals (conv=>whnf)
  all_goals first|(exfalso;omega)|(exfalso;simp at hb;omega)|(exact zf_)):P:=h
theorem QDM {P:Prop} (h:P:=by
  (repeat' ((conv=>whnf);first|exact zi0|(refine zj0 ?_;intro hb)|(with_reducible refine zv ha ?_)|(refine Qaz hl ?_)|refine zst ?_|refine zbb ?_ ?_));all_goals (conv=>whnf)
  all_goals exact Qb5):P:=h
theorem QDN {P:Prop} (h:P:=by
  (repeat' ((conv=>whnf);first|exact zi0|(refine zj0 ?_;intro hb)|refine zs0 ?_|refine zbb ?_ ?_));all_goals (conv=>whnf)
  all_goals (subst hb;apply Qan;(focus rfl);rfl)):P:=h
theorem QDO {P:Prop} (h:P:=by
  (repeat' ((conv=>whnf);first|exact zi2|(refine zj0 ?_;intro hb)|(refine zpu hg ?_)|refine zse ?_|refine zbb ?_ ?_));all_goals (conv=>whnf)
  all_goals exact zF_):P:=h
theorem QDP {P:Prop} (h:P:=by
  (repeat' ((conv=>whnf);first|exact zi0|(refine zj0 ?_;intro hb)|refine zs0 ?_|refine zbb ?_ ?_));all_goals (conv=>whnf)
  all_goals exact Qan rfl rfl):P:=h
theorem QDQ {P:Prop} (h:P:=by
  rw [show (255:Int)=((255:Nat):Int) from rfl,QcB v 255 hv (by omega),show (255:Nat)=2^8-1 from rfl,Nat.and_two_pow_sub_one_eq_mod]):P:=h
theorem QDR {P:Prop} (h:P:=by
  have:=Qpc w hw;rw [h] at this
  exact this):P:=h
theorem zf_ {P:Prop} (h:P:=by (try (conv=>whnf));first|(apply Fin.mk (m:= []);(focus exact rfl);(all_goals ((try (show HlS _ _ [] _));first|exact aFi|exact rfl)))|fail):P:=h
theorem zF_ {P:Prop} (h:P:=by (try (conv=>whnf));first|(exfalso;omega)|(exfalso;simp at hb;done)|(apply Fin.mk (m:= []);(focus exact rfl);(all_goals ((try (show HlS _ _ [] _));first|exact aFi|exact rfl)))|fail):P:=h
theorem Qb5 {P:Prop} (h:P:=by (try (conv=>whnf));first|(apply Fin.mk (m:= [(0,some 0)]);(focus exact rfl);(all_goals ((try (show HlS _ _ [] _));first|exact aFi|exact rfl)))|fail):P:=h
theorem Qgg {P:Prop} (h:P:=by (try (conv=>whnf));first|(exfalso;omega)|(exfalso;simp at hb;done)|(apply Fin.mk (m:= [(0,some 0)]);(focus exact rfl);(all_goals ((try (show HlS _ _ [] _));first|exact aFi|exact rfl)))|fail):P:=h
theorem QdZ {P:Prop} (h:P:=by (try (conv=>whnf));first|(apply Fin.mk (m:= [(0,some 0),(1,some 1)]);(focus exact rfl);(all_goals ((try (show HlS _ _ [] _));first|exact aFi|exact rfl)))|fail):P:=h
theorem QDe {P:Prop} (h:P:=by (try (conv=>whnf));first|(exfalso;omega)|(exfalso;simp at hb;done)|(apply Fin.mk (m:= [(0,some 0),(1,some 1)]);(focus exact rfl);(all_goals ((try (show HlS _ _ [] _));first|exact aFi|exact rfl)))|fail):P:=h
theorem Qsz {P:Prop} (h:P:=by (try (conv=>whnf));first|(apply Fin.mk (m:= [(0,some 0),(1,some 1),(2,some 2)]);(focus exact rfl);(all_goals ((try (show HlS _ _ [] _));first|exact aFi|exact rfl)))|fail):P:=h
theorem QH1 {P:Prop} (h:P:=by (try (conv=>whnf));first|(apply Fin.mk (m:= [(0,some _)]);(focus exact rfl);(all_goals ((try (show HlS _ _ [] _));first|exact aFi|exact rfl)))|fail):P:=h
theorem QbG {P:Prop} (h:P:=by (try (conv=>whnf));first|(apply Fin.mk (m:= [(0,some 0),(1,some _)]);(focus exact rfl);(all_goals ((try (show HlS _ _ [] _));first|exact aFi|exact rfl)))|fail):P:=h
theorem Qet {P:Prop} (h:P:=by (try (conv=>whnf));first|(exfalso;omega)|(exfalso;simp at hb;done)|(apply Fin.mk (m:= [(0,some 0),(1,some _)]);(focus exact rfl);(all_goals ((try (show HlS _ _ [] _));first|exact aFi|exact rfl)))|fail):P:=h
theorem Qkd {P:Prop} (h:P:=by (try (conv=>whnf));first|(apply Fin.mk (m:= [(0,some 0),(1,some 1),(2,some _)]);(focus exact rfl);(all_goals ((try (show HlS _ _ [] _));first|exact aFi|exact rfl)))|fail):P:=h
theorem Qn6 {P:Prop} (h:P:=by (try (conv=>whnf));first|(apply Fin.mk (m:= [(0,some 0),(1,none)]);(focus exact rfl);(all_goals ((try (show HlS _ _ [] _));first|exact aFi|exact rfl)))|fail):P:=h
theorem QDg {P:Prop} (h:P:=by (try (conv=>whnf));first|(apply Fin.mk (m:= [(0,some 0),(1,some _),(2,some _)]);(focus exact rfl);(all_goals ((try (show HlS _ _ [] _));first|exact aFi|exact rfl)))|fail):P:=h
theorem QDf {P:Prop} (h:P:=by (try (conv=>whnf));first|(exfalso;omega)|(exfalso;simp at hb;done)|(apply Fin.mk (m:= [(0,some 0),(1,some _),(2,some _)]);(focus exact rfl);(all_goals ((try (show HlS _ _ [] _));first|exact aFi|exact rfl)))|fail):P:=h
theorem Qaz {P:Program} {det:Bool} {f:FuncId} {l:List AV} {hp:Hp} {n:Nat} {K:KK} {args:List AV} {r0:Row} {R:Res} {n0:Nat} {q0:Row} (hF:Fn P f args [r0] (. =R)) (k:Vl (R.ef [⟨n0,0⟩] [r0].length n) fun e=>K [(n0,q0)] e) (h2:l=args.map (QcZ [⟨n0,0⟩] [r0].length n):=by exact aRn) (a0:hp n0=some q0:=by exact rfl) (b0:Qd8 [⟨n0,0⟩] [r0].length n 0 ⟨n0,0⟩ r0 q0:=by exact Qas (by assumption)) (h5:Nat.ble R.nw.length Qap=true/\∀ p∈R.up,p.1< [r0].length:=by exact ⟨rfl,Qdc rfl⟩):Cll P det f l hp n K:=Qag hF [⟨n0,0⟩] [(n0,q0)] h2 ⟨a0,trivial⟩ ⟨rfl,b0,trivial⟩ h5 k
theorem QiN {P:Program} {det:Bool} {f:FuncId} {l:List AV} {hp:Hp} {n:Nat} {K:KK} {args:List AV} {r0 r1:Row} {R:Res} {n0 n1:Nat} {q0 q1:Row} (hF:Fn P f args [r0,r1] (. =R)) (k:Vl (R.ef [⟨n0,0⟩,⟨n1,0⟩] [r0,r1].length n) fun e=>K [(n0,q0),(n1,q1)] e) (h2:l=args.map (QcZ [⟨n0,0⟩,⟨n1,0⟩] [r0,r1].length n):=by exact aRn) (a0:hp n0=some q0:=by exact rfl) (b0:Qd8 [⟨n0,0⟩,⟨n1,0⟩] [r0,r1].length n 0 ⟨n0,0⟩ r0 q0:=by exact Qas (by assumption)) (a1:hp n1=some q1:=by exact rfl) (b1:Qd8 [⟨n0,0⟩,⟨n1,0⟩] [r0,r1].length n 1 ⟨n1,0⟩ r1 q1:=by exact Qas (by assumption)) (h5:Nat.ble R.nw.length Qap=true/\∀ p∈R.up,p.1< [r0,r1].length:=by exact ⟨rfl,Qdc rfl⟩):Cll P det f l hp n K:=Qag hF [⟨n0,0⟩,⟨n1,0⟩] [(n0,q0),(n1,q1)] h2 ⟨a0,a1,trivial⟩ ⟨rfl,b0,rfl,b1,trivial⟩ h5 k
theorem Qsw {P:Program} {det:Bool} {f:FuncId} {l:List AV} {hp:Hp} {n:Nat} {K:KK} {args:List AV} {r0 r1 r2:Row} {R:Res} {n0 n1 n2:Nat} {q0 q1 q2:Row} (hF:Fn P f args [r0,r1,r2] (. =R)) (k:Vl (R.ef [⟨n0,0⟩,⟨n1,0⟩,⟨n2,0⟩] [r0,r1,r2].length n) fun e=>K [(n0,q0),(n1,q1),(n2,q2)] e) (h2:l=args.map (QcZ [⟨n0,0⟩,⟨n1,0⟩,⟨n2,0⟩] [r0,r1,r2].length n):=by exact aRn) (a0:hp n0=some q0:=by exact rfl) (b0:Qd8 [⟨n0,0⟩,⟨n1,0⟩,⟨n2,0⟩] [r0,r1,r2].length n 0 ⟨n0,0⟩ r0 q0:=by exact Qas (by assumption)) (a1:hp n1=some q1:=by exact rfl) (b1:Qd8 [⟨n0,0⟩,⟨n1,0⟩,⟨n2,0⟩] [r0,r1,r2].length n 1 ⟨n1,0⟩ r1 q1:=by exact Qas (by assumption)) (a2:hp n2=some q2:=by exact rfl) (b2:Qd8 [⟨n0,0⟩,⟨n1,0⟩,⟨n2,0⟩] [r0,r1,r2].length n 2 ⟨n2,0⟩ r2 q2:=by exact Qas (by assumption)) (h5:Nat.ble R.nw.length Qap=true/\∀ p∈R.up,p.1< [r0,r1,r2].length:=by exact ⟨rfl,Qdc rfl⟩):Cll P det f l hp n K:=Qag hF [⟨n0,0⟩,⟨n1,0⟩,⟨n2,0⟩] [(n0,q0),(n1,q1),(n2,q2)] h2 ⟨a0,a1,a2,trivial⟩ ⟨rfl,b0,rfl,b1,rfl,b2,trivial⟩ h5 k
theorem Qhk {P:Program} {det:Bool} {f:FuncId} {l:List AV} {hp:Hp} {n:Nat} {K:KK} {args:List AV} {r0:Row} {R:Res} {n0:Nat} {q0:Row} (hF:Fn P f args [r0] (. =R)) (k:Vl (R.ef [⟨n0,0⟩] [r0].length n) fun e=>K [(n0,q0)] e) (h2:l=args.map (QcZ [⟨n0,0⟩] [r0].length n):=by exact aRn) (a0:hp n0=some q0:=by exact rfl) (b0:Qd8 [⟨n0,0⟩] [r0].length n 0 ⟨n0,0⟩ r0 q0:=by exact QaI (by assumption) rfl) (h5:Nat.ble R.nw.length Qap=true/\∀ p∈R.up,p.1< [r0].length:=by exact ⟨rfl,Qdc rfl⟩):Cll P det f l hp n K:=Qag hF [⟨n0,0⟩] [(n0,q0)] h2 ⟨a0,trivial⟩ ⟨rfl,b0,trivial⟩ h5 k
theorem QlG {P:Program} {det:Bool} {f:FuncId} {l:List AV} {hp:Hp} {n:Nat} {K:KK} {args:List AV} {r0 r1:Row} {R:Res} {n0 n1:Nat} {q0 q1:Row} (hF:Fn P f args [r0,r1] (. =R)) (k:Vl (R.ef [⟨n0,0⟩,⟨n1,0⟩] [r0,r1].length n) fun e=>K [(n0,q0),(n1,q1)] e) (h2:l=args.map (QcZ [⟨n0,0⟩,⟨n1,0⟩] [r0,r1].length n):=by exact aRn) (a0:hp n0=some q0:=by exact rfl) (b0:Qd8 [⟨n0,0⟩,⟨n1,0⟩] [r0,r1].length n 0 ⟨n0,0⟩ r0 q0:=by exact Qcb rfl rfl) (a1:hp n1=some q1:=by exact rfl) (b1:Qd8 [⟨n0,0⟩,⟨n1,0⟩] [r0,r1].length n 1 ⟨n1,0⟩ r1 q1:=by exact QaI (by assumption) rfl) (h5:Nat.ble R.nw.length Qap=true/\∀ p∈R.up,p.1< [r0,r1].length:=by exact ⟨rfl,Qdc rfl⟩):Cll P det f l hp n K:=Qag hF [⟨n0,0⟩,⟨n1,0⟩] [(n0,q0),(n1,q1)] h2 ⟨a0,a1,trivial⟩ ⟨rfl,b0,rfl,b1,trivial⟩ h5 k
theorem QzM {P:Program} {det:Bool} {f:FuncId} {l:List AV} {hp:Hp} {n:Nat} {K:KK} {args:List AV} {r0 r1 r2 r3:Row} {R:Res} {n0 n1 n2 n3:Nat} {q0 q1 q2 q3:Row} (hF:Fn P f args [r0,r1,r2,r3] (. =R)) (k:Vl (R.ef [⟨n0,0⟩,⟨n1,0⟩,⟨n2,0⟩,⟨n3,0⟩] [r0,r1,r2,r3].length n) fun e=>K [(n0,q0),(n1,q1),(n2,q2),(n3,q3)] e) (h2:l=args.map (QcZ [⟨n0,0⟩,⟨n1,0⟩,⟨n2,0⟩,⟨n3,0⟩] [r0,r1,r2,r3].length n):=by exact aRn) (a0:hp n0=some q0:=by exact rfl) (b0:Qd8 [⟨n0,0⟩,⟨n1,0⟩,⟨n2,0⟩,⟨n3,0⟩] [r0,r1,r2,r3].length n 0 ⟨n0,0⟩ r0 q0:=by exact Qcb rfl rfl) (a1:hp n1=some q1:=by exact rfl) (b1:Qd8 [⟨n0,0⟩,⟨n1,0⟩,⟨n2,0⟩,⟨n3,0⟩] [r0,r1,r2,r3].length n 1 ⟨n1,0⟩ r1 q1:=by exact QaI (by assumption) rfl) (a2:hp n2=some q2:=by exact rfl) (b2:Qd8 [⟨n0,0⟩,⟨n1,0⟩,⟨n2,0⟩,⟨n3,0⟩] [r0,r1,r2,r3].length n 2 ⟨n2,0⟩ r2 q2:=by exact QaI (by assumption) rfl) (a3:hp n3=some q3:=by exact rfl) (b3:Qd8 [⟨n0,0⟩,⟨n1,0⟩,⟨n2,0⟩,⟨n3,0⟩] [r0,r1,r2,r3].length n 3 ⟨n3,0⟩ r3 q3:=by exact QaI (by assumption) rfl) (h5:Nat.ble R.nw.length Qap=true/\∀ p∈R.up,p.1< [r0,r1,r2,r3].length:=by exact ⟨rfl,Qdc rfl⟩):Cll P det f l hp n K:=Qag hF [⟨n0,0⟩,⟨n1,0⟩,⟨n2,0⟩,⟨n3,0⟩] [(n0,q0),(n1,q1),(n2,q2),(n3,q3)] h2 ⟨a0,a1,a2,a3,trivial⟩ ⟨rfl,b0,rfl,b1,rfl,b2,rfl,b3,trivial⟩ h5 k
theorem Qaw {P:Program} {det:Bool} {f:FuncId} {l:List AV} {hp:Hp} {n:Nat} {K:KK} {args:List AV} {r0 r1 r2 r3 r4:Row} {R:Res} {n0 n1 n2 n3 n4:Nat} {q0 q1 q2 q3 q4:Row} (hF:Fn P f args [r0,r1,r2,r3,r4] (. =R)) (k:Vl (R.ef [⟨n0,0⟩,⟨n1,0⟩,⟨n2,0⟩,⟨n3,0⟩,⟨n4,0⟩] [r0,r1,r2,r3,r4].length n) fun e=>K [(n0,q0),(n1,q1),(n2,q2),(n3,q3),(n4,q4)] e) (h2:l=args.map (QcZ [⟨n0,0⟩,⟨n1,0⟩,⟨n2,0⟩,⟨n3,0⟩,⟨n4,0⟩] [r0,r1,r2,r3,r4].length n):=by exact aRn) (a0:hp n0=some q0:=by exact rfl) (b0:Qd8 [⟨n0,0⟩,⟨n1,0⟩,⟨n2,0⟩,⟨n3,0⟩,⟨n4,0⟩] [r0,r1,r2,r3,r4].length n 0 ⟨n0,0⟩ r0 q0:=by exact Qcb rfl rfl) (a1:hp n1=some q1:=by exact rfl) (b1:Qd8 [⟨n0,0⟩,⟨n1,0⟩,⟨n2,0⟩,⟨n3,0⟩,⟨n4,0⟩] [r0,r1,r2,r3,r4].length n 1 ⟨n1,0⟩ r1 q1:=by exact QaI (by assumption) rfl) (a2:hp n2=some q2:=by exact rfl) (b2:Qd8 [⟨n0,0⟩,⟨n1,0⟩,⟨n2,0⟩,⟨n3,0⟩,⟨n4,0⟩] [r0,r1,r2,r3,r4].length n 2 ⟨n2,0⟩ r2 q2:=by exact QaI (by assumption) rfl) (a3:hp n3=some q3:=by exact rfl) (b3:Qd8 [⟨n0,0⟩,⟨n1,0⟩,⟨n2,0⟩,⟨n3,0⟩,⟨n4,0⟩] [r0,r1,r2,r3,r4].length n 3 ⟨n3,0⟩ r3 q3:=by exact QaI (by assumption) rfl) (a4:hp n4=some q4:=by exact rfl) (b4:Qd8 [⟨n0,0⟩,⟨n1,0⟩,⟨n2,0⟩,⟨n3,0⟩,⟨n4,0⟩] [r0,r1,r2,r3,r4].length n 4 ⟨n4,0⟩ r4 q4:=by exact QaI (by assumption) rfl) (h5:Nat.ble R.nw.length Qap=true/\∀ p∈R.up,p.1< [r0,r1,r2,r3,r4].length:=by exact ⟨rfl,Qdc rfl⟩):Cll P det f l hp n K:=Qag hF [⟨n0,0⟩,⟨n1,0⟩,⟨n2,0⟩,⟨n3,0⟩,⟨n4,0⟩] [(n0,q0),(n1,q1),(n2,q2),(n3,q3),(n4,q4)] h2 ⟨a0,a1,a2,a3,a4,trivial⟩ ⟨rfl,b0,rfl,b1,rfl,b2,rfl,b3,rfl,b4,trivial⟩ h5 k
theorem Qkc {P:Program} {det:Bool} {f:FuncId} {l:List AV} {hp:Hp} {n:Nat} {K:KK} {args:List AV} {r0 r1 r2 r3 r4 r5:Row} {R:Res} {n0 n1 n2 n3 n4 n5:Nat} {q0 q1 q2 q3 q4 q5:Row} (hF:Fn P f args [r0,r1,r2,r3,r4,r5] (. =R)) (k:Vl (R.ef [⟨n0,0⟩,⟨n1,0⟩,⟨n2,0⟩,⟨n3,0⟩,⟨n4,0⟩,⟨n5,0⟩] [r0,r1,r2,r3,r4,r5].length n) fun e=>K [(n0,q0),(n1,q1),(n2,q2),(n3,q3),(n4,q4),(n5,q5)] e) (h2:l=args.map (QcZ [⟨n0,0⟩,⟨n1,0⟩,⟨n2,0⟩,⟨n3,0⟩,⟨n4,0⟩,⟨n5,0⟩] [r0,r1,r2,r3,r4,r5].length n):=by exact aRn) (a0:hp n0=some q0:=by exact rfl) (b0:Qd8 [⟨n0,0⟩,⟨n1,0⟩,⟨n2,0⟩,⟨n3,0⟩,⟨n4,0⟩,⟨n5,0⟩] [r0,r1,r2,r3,r4,r5].length n 0 ⟨n0,0⟩ r0 q0:=by exact Qcb rfl rfl) (a1:hp n1=some q1:=by exact rfl) (b1:Qd8 [⟨n0,0⟩,⟨n1,0⟩,⟨n2,0⟩,⟨n3,0⟩,⟨n4,0⟩,⟨n5,0⟩] [r0,r1,r2,r3,r4,r5].length n 1 ⟨n1,0⟩ r1 q1:=by exact QaI (by assumption) rfl) (a2:hp n2=some q2:=by exact rfl) (b2:Qd8 [⟨n0,0⟩,⟨n1,0⟩,⟨n2,0⟩,⟨n3,0⟩,⟨n4,0⟩,⟨n5,0⟩] [r0,r1,r2,r3,r4,r5].length n 2 ⟨n2,0⟩ r2 q2:=by exact QaI (by assumption) rfl) (a3:hp n3=some q3:=by exact rfl) (b3:Qd8 [⟨n0,0⟩,⟨n1,0⟩,⟨n2,0⟩,⟨n3,0⟩,⟨n4,0⟩,⟨n5,0⟩] [r0,r1,r2,r3,r4,r5].length n 3 ⟨n3,0⟩ r3 q3:=by exact QaI (by assumption) rfl) (a4:hp n4=some q4:=by exact rfl) (b4:Qd8 [⟨n0,0⟩,⟨n1,0⟩,⟨n2,0⟩,⟨n3,0⟩,⟨n4,0⟩,⟨n5,0⟩] [r0,r1,r2,r3,r4,r5].length n 4 ⟨n4,0⟩ r4 q4:=by exact QaI (by assumption) rfl) (a5:hp n5=some q5:=by exact rfl) (b5:Qd8 [⟨n0,0⟩,⟨n1,0⟩,⟨n2,0⟩,⟨n3,0⟩,⟨n4,0⟩,⟨n5,0⟩] [r0,r1,r2,r3,r4,r5].length n 5 ⟨n5,0⟩ r5 q5:=by exact Qas (by assumption)) (h5:Nat.ble R.nw.length Qap=true/\∀ p∈R.up,p.1< [r0,r1,r2,r3,r4,r5].length:=by exact ⟨rfl,Qdc rfl⟩):Cll P det f l hp n K:=Qag hF [⟨n0,0⟩,⟨n1,0⟩,⟨n2,0⟩,⟨n3,0⟩,⟨n4,0⟩,⟨n5,0⟩] [(n0,q0),(n1,q1),(n2,q2),(n3,q3),(n4,q4),(n5,q5)] h2 ⟨a0,a1,a2,a3,a4,a5,trivial⟩ ⟨rfl,b0,rfl,b1,rfl,b2,rfl,b3,rfl,b4,rfl,b5,trivial⟩ h5 k
theorem fnW {f : FuncId} {fn : Func} (hf : Tryz.prog.funcs[f]? = some fn) {c : Code} {args : List AV} {H : List Row} {Post : Res -> Prop} {tm : Tm} {hl : Hl} (k : vc Tryz.prog tys fn.ntmps H.length c ⟨tm,hl,[0]⟩ (QHI tys H Post fn.results.toList)) (hb : fn.body = some c := by exact rfl) (h1 : Qks 0 args = tm := by (dsimp only [Qks,Nat.zero_add,Nat.reduceAdd]); first | done | exact rfl) (h2 : Qc9 0 H = hl := by (dsimp only [Qc9,Nat.zero_add,Nat.reduceAdd]); first | done | exact rfl) (gG : (Nat.ble args.length fn.ntmps && Nat.ble H.length 1000) = true := by exact rfl) (hn : (fn.name == "runtime.NumGoroutine") = false := by kernel_rfl) : FN f args H Post := by
 subst h1 h2;exact Ql7 Qx6 QmO _ _ hf hn hb rfl rfl gG k
theorem zpu {P:Program} {det:Bool} {f:FuncId} {l:List AV} {hp:Hp} {n0:Nat} {K:KK} {args:List AV} {v:TV} (hF:Fn P f args [] (. =⟨v,[],[]⟩)) (k:Vl (QCv [] 0 n0 v) fun v=>K [] ⟨v,[],[]⟩) (h2:l=args.map (QcZ [] 0 n0):=by exact aRn):Cll P det f l hp n0 K:=Qac hF h2 k
theorem zwL (m:Rn) {N k:Nat} {σ σ':St} (h1:TmL m (tmG σ.tm) σ'.tm:=by ((repeat' (first|exact QaX|apply QaL));all_goals exact aFi)) (h2:HlL m (hpG σ.h) σ'.h:=by ((show HlS _ _ [] _);exact aFi)) (h3:(QAt m σ'.ids&&idn m k)=true:=by (first|exact rfl|rfl|kernel_rfl)):Wk N k σ σ':=Qce m h1 h2 h3
theorem zwV (m:Rn) {N k:Nat} {σ σ':St} (h1:TmL m (tmG σ.tm) σ'.tm:=by ((repeat' (first|exact QaX|apply QaL));all_goals exact aFi)) (h2:HlV m (hpG σ.h) σ'.h:=by ((show QcL _ _ _ [] _);exact aFi)) (h3:(QAt m σ'.ids&&idn m k)=true:=by (first|exact rfl|rfl|kernel_rfl)):Wk N k σ σ':=QG4 m h1 h2 h3
def kEq:IntKind->IntKind->Bool
 | .i8,.i8=>true| .i16,.i16=>true| .i32,.i32=>true| .i64,.i64=>true
 | .u8,.u8=>true| .u16,.u16=>true| .u32,.u32=>true| .u64,.u64=>true
 | _,_=>false
theorem Qmf {a b:IntKind} (h:kEq a b=true):a=b:=by cases a<;>cases b<;>first|rfl|cases h
def Qd9:List UInt8->List UInt8->Bool
 | [],[]=>true
 | a::l,b::m=>match Nat.beq a.toNat b.toNat with
  | true=>Qd9 l m
  | false=>false
 | _,_=>false
theorem Qch:∀ l m:List UInt8,Qd9 l m=(l==m)
 | [],[]=>rfl
 | a::l,[]=>rfl
 | [],b::m=>rfl
 | a::l,b::m=>by
  unfold Qd9;rw [Qch l m]
  cases hb:Nat.beq a.toNat b.toNat with
  | true =>
   have:a=b:=UInt8.toNat_inj.1 (zbq hb);subst this;simp
  | false=>grind [Nat.beq_refl,Qd9,Nat.beq,zbq]
inductive SK where
 | int|bool|str
def eqS:SK->SV->SV->Option Bool
 | .int,.int k m,.int k' n=>match kEq k k' with
  | true=>some (m==n)
  | false=>none
 | .bool,.bool m,.bool n=>some (m==n)
 | .str,.str m,.str n=>some (Qd9 m.data.toList n.data.toList)
 | _,_,_=>none
def QaO:List SK->List SV->List SV->Option Bool
 | [],[],[]=>some true
 | k::ks,a::l,b::m=>match eqS k a b with
  | some x=>match QaO ks l m with
   | some y=>some (x&&y)
   | none=>none
  | none=>none
 | _,_,_=>none
theorem Qed:∀ {ks:List SK} {l m:List SV} {b:Bool},QaO ks l m=some b->l.length=ks.length/\m.length=ks.length
 | [],[],[],b,_=>⟨rfl,rfl⟩
 | k::ks,a::l,c::m,b,h=>by
  unfold QaO at h;split at h
  .split at h
   .rename_i y hy;have:=Qed hy;simp [this]
   .cases h
  .cases h
 | [],_::_,_,_,h=>by cases h
 | [],[],_::_,_,h=>by cases h
 | _::_,[],_,_,h=>by cases h
 | _::_,_::_,[],_,h=>by cases h
theorem QcD:∀ {ks ks':List SK} {l m:List SV} {b:Bool},QaO (ks++ks') l m=some b ->
  ∃ x y,QaO ks (l.take ks.length) (m.take ks.length)=some x/\QaO ks' (l.drop ks.length) (m.drop ks.length)=some y/\b=(x&&y)
 | [],ks',l,m,b,h=>⟨true,b,by simp [QaO],by simpa using h,by simp⟩
 | k::ks,ks',a::l,c::m,b,h=>by
  change QaO (k::(ks++ks')) (a::l) (c::m)=some b at h;unfold QaO at h;split at h
  .rename_i x hx
   split at h
   .rename_i y hy
    injection h with h
    obtain ⟨u,v,h1,h2,rfl⟩:=QcD hy;refine ⟨x&&u,v,?_,by simpa using h2,by rw [<- h,Bool.and_assoc]⟩;simp only [List.length_cons,List.take_succ_cons];unfold QaO;rw [hx,h1]
   .cases h
  .cases h
 | _::_,_,[],_,_,h=>by cases h
 | _::_,_,_::_,[],_,h=>by cases h
def QFk (ag:Bool) (ρ:Nm) (l:List SV) (v:Value):Prop:=match ag with
 | true=>∃ cs,v= .agg cs/\VSs ρ l cs.toList
 | false=>∃ s,l= [s]/\VS ρ s v
def QAi (P:Program) (d:Nat) (t:TypeId) (ag:Bool) (ks:List SK):Prop :=
 ∀ (ρ:Nm) (w:World) (l l':List SV) (v v':Value) (b:Bool),QFk ag ρ l v->QFk ag ρ l' v'->QaO ks l l'=some b->(Op.equalIn d t v v').run P w= .ok b w
theorem Qf0 {P:Program} {T:Tys} (hT:QaT P T) {t:TypeId} {y:Ty} (hy:T t=some y) {ρ:Nm} {w:World} {l:List SV} {cs:Array Value} (h:VSs ρ l cs.toList) (off:Nat) (hl:off+y.size<=l.length) (hs:y.kind.agg=false->y.size=1) :
  ∃ v,(part t cs off).run P w= .ok v w/\QFk y.kind.agg ρ ((l.drop off).take y.size) v:=by
 have ha:=(hT t y hy).agg w;have hz:=(hT t y hy).sizeOf w;have gG:l.length=cs.size:=by have:=h.1;simpa using this
 cases e:y.kind.agg with
 | true =>
  rw [e] at ha;refine ⟨.agg (cs.extract off (off+y.size)),by simp [part,ha,hz],_,rfl,?_⟩;exact Qv5 h off y.size
 | false =>
  rw [e] at ha;have h1:=hs e;rw [h1] at hl |-;have gT:off<l.length:=by omega
  obtain ⟨v,h2,h3⟩:=h.2 off _ (zgg gT);have h2:cs[off]?=some v:=by simpa using h2
  refine ⟨v,by simp [part,ha,h2],l[off],?_,h3⟩;rw [List.drop_eq_getElem_cons gT];rfl
theorem Qti {P:Program} {d:Nat} {t:TypeId} {k:IntKind} (h:P.underlying t=some (.int k)):QAi P (d+1) t false [.int]:=by
 rintro ρ w l l' v v' b ⟨s,rfl,h1⟩ ⟨s',rfl,h2⟩ he;unfold QaO at he;split at he
 .rename_i x hx
  simp only [QaO,Option.some.injEq,Bool.and_true] at he;subst he;unfold eqS at hx;split at hx<;>try cases hx
  .split at hx
   .rename_i hk
    injection hx with hx;subst hx
    have:=Qmf hk;subst this;have h1:v=_:=h1;have h2:v'=_:=h2;rw [h1,h2];exact run_equalIn_int w d t _ k _ _ h
   .cases hx
  all_goals contradiction
 .cases he
theorem Qpp {P:Program} {d:Nat} {t:TypeId} (h:P.underlying t=some .bool):QAi P (d+1) t false [.bool]:=by
 rintro ρ w l l' v v' b ⟨s,rfl,h1⟩ ⟨s',rfl,h2⟩ he;unfold QaO at he;split at he
 .rename_i x hx
  simp only [QaO,Option.some.injEq,Bool.and_true] at he;subst he;unfold eqS at hx;split at hx<;>try cases hx
  .grind
  .have h1:v=_:=h1
   have h2:v'=_:=h2;rw [h1,h2];exact run_equalIn_bool w d t _ _ h
  .grind
 .cases he
theorem Qtj {P:Program} {d:Nat} {t:TypeId} (h:P.underlying t=some .string):QAi P (d+1) t false [.str]:=by
 rintro ρ w l l' v v' b ⟨s,rfl,h1⟩ ⟨s',rfl,h2⟩ he;unfold QaO at he;split at he
 .rename_i x hx
  simp only [QaO,Option.some.injEq,Bool.and_true] at he;subst he;unfold eqS at hx;split at hx<;>try cases hx
  .grind
  .grind
  .have h1:v=_:=h1
   have h2:v'=_:=h2;rw [h1,h2,run_equalIn_string w d t _ _ h,Qch,ByteArray.toList_eq,ByteArray.toList_eq]
 .cases he
def QCK (sh:TypeId->Option (List SK)):Nat->List (Nat × TypeId)->Option (List SK)
 | _,[]=>some []
 | o,p::l=>match Nat.beq p.1 o with
  | true=>match sh p.2 with
   | some a=>match QCK sh (o+a.length) l with
    | some b=>some (a++b)
    | none=>none
   | none=>none
  | false=>none
def QAB (a:List SK):Nat->List SK
 | 0=> []
 | n+1=>a++QAB a n
def shp (T:Tys):Nat->TypeId->Option (List SK)
 | 0,_=>none
 | d+1,t=>match T t with
  | some y=>match y.kind with
   | .int _=>match Nat.beq y.size 1 with|true=>some [.int]|false=>none
   | .bool=>match Nat.beq y.size 1 with|true=>some [.bool]|false=>none
   | .str=>match Nat.beq y.size 1 with|true=>some [.str]|false=>none
   | .struct fs=>match QCK (shp T d) 0 fs with
    | some a=>match Nat.beq a.length y.size&&Nat.blt 0 y.size with|true=>some a|false=>none
    | none=>none
   | .array n e=>match shp T d e with
    | some a=>match Nat.beq (QAB a n).length y.size&&Nat.blt 0 y.size with|true=>some (QAB a n)|false=>none
    | none=>none
   | _=>none
  | none=>none
def QlU (c:TypeId->Bool):List Field->Bool
 | []=>true
 | f :: l => (f.name != "_") && c f.type && QlU c l
def Qi6 (P:Program):Nat->TypeId->Bool
 | 0,_=>true
 | d+1,t=>match P.underlying t with
  | some (.struct fs)=> !P.stoodInHeld t&&QlU (Qi6 P d) fs.toList
  | some (.array _ e)=>Qi6 P d e
  | _=>true
theorem Qzp {T:Tys} {d:Nat} {t:TypeId} {a:List SK} (h:shp T d t=some a):∃ y,T t=some y/\a.length=y.size/\(y.kind.agg=false->y.size=1)/\0<y.size:=by
 cases d with
 | zero=>cases h
 | succ d =>
  unfold shp at h;split at h
  .rename_i y hy
   refine ⟨y,hy,?_⟩;split at h<;>rename_i hk
   .split at h
    .rename_i hb;injection h with h;subst h;have hb:=zbq hb;exact ⟨hb.symm,fun _=>hb,by omega⟩
    .cases h
   .split at h
    .rename_i hb;injection h with h;subst h;have hb:=zbq hb;exact ⟨hb.symm,fun _=>hb,by omega⟩
    .cases h
   .split at h
    .rename_i hb;injection h with h;subst h;have hb:=zbq hb;exact ⟨hb.symm,fun _=>hb,by omega⟩
    .cases h
   .split at h
    .split at h
     .rename_i hb;injection h with h;subst h;rw [zba] at hb;exact ⟨zbq hb.1,fun e=>(by rw [hk] at e;cases e),by simpa using hb.2⟩
     .cases h
    .cases h
   .split at h
    .split at h
     .rename_i hb;injection h with h;subst h;rw [zba] at hb;exact ⟨zbq hb.1,fun e=>(by rw [hk] at e;cases e),by simpa using hb.2⟩
     .cases h
    .cases h
   .cases h
  .cases h
theorem QvA {P:Program} {T:Tys} (hT:QaT P T) {d:Nat} {sh:TypeId->Option (List SK)} {c:TypeId->Bool} (hd:∀ t a,sh t=some a->c t=true->∃ y,T t=some y/\a.length=y.size/\(y.kind.agg=false->y.size=1)/\0<y.size/\QAi P d t y.kind.agg a)
  {ρ:Nm} {w:World}:∀ (fs:List Field) (o:Nat) (ks:List SK) (l l':List SV) (cs cs':Array Value) (b:Bool),QCK sh o (fs.map fun f=>(f.offset,f.type))=some ks->QlU c fs=true->VSs ρ l cs.toList->VSs ρ l' cs'.toList ->
  QaO ks (l.drop o) (l'.drop o)=some b->(Op.eqFields d cs cs' fs).run P w= .ok b w
 | [],o,ks,l,l',cs,cs',b,h,_,_,_,he=>by
  simp only [List.map_nil,QCK,Option.some.injEq] at h;subst h
  have:b=true:=by
   cases e1:l.drop o<;>cases e2:l'.drop o<;>rw [e1,e2] at he<;>simp [QaO] at he
   first|exact he|exact he.symm
  subst this;simp [Op.eqFields]
 | f::fs,o,ks,l,l',cs,cs',b,h,hc,h1,h2,he=>by
  simp only [List.map_cons] at h;unfold QCK at h;simp only [] at h;split at h
  .rename_i ho
   have ho:=zbq ho;split at h
   .rename_i a ha
    split at h
    .rename_i r hr
     injection h with h;subst h
     unfold QlU at hc;rw [zba,zba] at hc;obtain ⟨⟨hn,gK⟩,hc⟩:=hc;obtain ⟨y,hy,gG,fZ,_,fX⟩:=hd _ _ ha gK;obtain ⟨u,v,g1,g2,rfl⟩:=QcD he;have hL:=Qed g1
     have WA:o+y.size<=l.length:=by
      have:=hL.1;rw [gG] at this;simp at this;omega
     have JG:o+y.size<=l'.length:=by
      have:=hL.2;rw [gG] at this;simp at this;omega
     obtain ⟨p,p1,p2⟩:=Qf0 (P:=P) hT hy (w:=w) h1 o WA fZ;obtain ⟨p',p1',p2'⟩:=Qf0 (P:=P) hT hy (w:=w) h2 o JG fZ;rw [gG] at g1 g2;have hq:=fX ρ w _ _ p p' u p2 p2' g1;have jI:=QvA hT hd (w:=w) fs (o+a.length) r l l' cs cs' v hr hc h1 h2 (by rw [gG];simpa [List.drop_drop,Nat.add_comm] using g2);have uX : f.name ≠ "_" := by simpa using hn
     unfold Op.eqFields;rw [zP uX,ho];simp only [Sem.run_bind,p1,p1',Result.andThen_ok,hq];cases u
     .simp
     .simp [jI]
    .cases h
   .cases h
  .cases h
theorem Qvz {P:Program} {T:Tys} (hT:QaT P T) {d:Nat} {e:TypeId} {a:List SK} {y:Ty} (hy:T e=some y) (gG:a.length=y.size) (fZ:y.kind.agg=false->y.size=1) (HC:0<y.size) (fX:QAi P d e y.kind.agg a)
  {ρ:Nm} {w:World} {l l':List SV} {cs cs':Array Value} (h1:VSs ρ l cs.toList) (h2:VSs ρ l' cs'.toList):∀ (n i:Nat) (b:Bool),QaO (QAB a n) (l.drop (i*y.size)) (l'.drop (i*y.size))=some b ->
   ((
    forIn (List.range' i n) ((none,()):Option Bool × PUnit) fun i r=>do
    if !(<- Op.equalIn d e (<- part e cs (i*y.size)) (<- part e cs' (i*y.size))) then pure (ForInStep.done (some false,())) else pure (ForInStep.yield (none,()))):Sem (Option Bool × PUnit)).run P w= .ok (if b then (none,()) else (some false,())) w
 | 0,i,b,he=>by
  have:b=true:=by
   cases e1:l.drop (i*y.size)<;>cases e2:l'.drop (i*y.size)<;>rw [e1,e2] at he<;>simp [QaO,QAB] at he
   first|exact he|exact he.symm
  subst this;simp
 | n+1,i,b,he=>by
  unfold QAB at he;obtain ⟨u,v,g1,g2,rfl⟩:=QcD he;have hL:=Qed g1
  have WA:i*y.size+y.size<=l.length:=by
   have:=hL.1;rw [gG] at this;simp at this;omega
  have JG:i*y.size+y.size<=l'.length:=by
   have:=hL.2;rw [gG] at this;simp at this;omega
  obtain ⟨p,p1,p2⟩:=Qf0 (P:=P) hT hy (w:=w) h1 (i*y.size) WA fZ;obtain ⟨p',p1',p2'⟩:=Qf0 (P:=P) hT hy (w:=w) h2 (i*y.size) JG fZ;rw [gG] at g1 g2;have hq:=fX ρ w _ _ p p' u p2 p2' g1;have jI:=Qvz hT hy gG fZ HC fX (w:=w) h1 h2 n (i+1) v (by rw [Nat.succ_mul];simpa [List.drop_drop,Nat.add_comm] using g2);rw [List.range'_succ,List.forIn_cons];simp only [Sem.run_bind,p1,p1',Result.andThen_ok,hq];cases u
  .simp
  .simp only [Bool.not_true,Bool.false_eq_true,if_false,Sem.run_pure,Result.andThen_ok,Bool.true_and]
   exact jI
theorem Qv8 {P:Program} {T:Tys} (hT:QaT P T):∀ (d d':Nat) (t:TypeId) (a:List SK),shp T d t=some a->Qi6 P d t=true->d<=d'->∃ y,T t=some y/\a.length=y.size/\(y.kind.agg=false->y.size=1)/\0<y.size/\QAi P d' t y.kind.agg a
 | 0,_,_,_,h,_,_=>by cases h
 | d+1,0,_,_,_,_,h=>by omega
 | d+1,d'+1,t,a,h,hc,jY=>by
  obtain ⟨y,hy,h1,h2,h3⟩:=Qzp h;refine ⟨y,hy,h1,h2,h3,?_⟩;have ih:=fun t a h hc=>Qv8 hT d d' t a h hc (by omega)
  unfold shp at h;rw [hy] at h;simp only [] at h;split at h<;>rename_i hk
  .split at h
   .injection h with h;subst h;rw [hk];exact Qti ((hT t y hy).int hk)
   .cases h
  .split at h
   .injection h with h;subst h;rw [hk];exact Qpp ((hT t y hy).bool hk)
   .cases h
  .split at h
   .injection h with h;subst h;rw [hk];exact Qtj ((hT t y hy).str hk)
   .cases h
  .rename_i fs
   split at h
   .rename_i a' KV
    split at h
    .injection h with h;subst h
     obtain ⟨fields,hu,hfs⟩:=(hT t y hy).struct hk;unfold Qi6 at hc;rw [hu] at hc;simp only [zba,Bool.not_eq_true'] at hc;rw [hk];rintro ρ w l l' v v' b ⟨cs,rfl,g1⟩ ⟨cs',rfl,g2⟩ he;have FI:P.fieldsOf t=fields:=by unfold Program.fieldsOf;rw [hu]
     rw [run_equalIn_struct w d' t cs cs' (by rw [FI];exact hu) hc.1,FI];refine QvA hT (sh:=shp T d) (c:=Qi6 P d) ih fields.toList 0 _ l l' cs cs' b (by rw [hfs];exact KV) hc.2 g1 g2 ?_;simpa using he
    .cases h
   .cases h
  .rename_i n e
   split at h
   .rename_i a' KV
    split at h
    .injection h with h;subst h
     have hu:=(hT t y hy).arr hk;unfold Qi6 at hc;rw [hu] at hc;simp only [] at hc;obtain ⟨ye,q1,q2,q3,q5,q4⟩:=ih e a' KV hc;rw [hk];rintro ρ w l l' v v' b ⟨cs,rfl,g1⟩ ⟨cs',rfl,g2⟩ he;have hz:=(hT e ye q1).sizeOf w;have:=Qvz hT q1 q2 q3 q5 q4 (w:=w) g1 g2 n 0 b (by simpa using he);unfold Op.equalIn;simp only [Sem.run_bind,run_underlying hu,Result.andThen_ok,hz,Std.Legacy.Range.forIn_eq_forIn_range',Std.Legacy.Range.size,Nat.sub_zero,Nat.add_one_sub_one,Nat.add_sub_cancel,Nat.div_one];rw [this];cases b<;>simp
    .cases h
   .cases h
  .cases h
theorem QFF {P:Program} {T:Tys} (hT:QaT P T) {t:TypeId} {y:Ty} {ks:List SK} {l l':List SV} {b:Bool} (hy:T t=some y) (uF:y.kind.agg=true) (hs:shp T 8 t=some ks) (hc:Qi6 P 8 t=true) (hg:P.eqGuardType P.depth t=false) (he:QaO ks l l'=some b):QAM P t l l' b:=by
 intro ρ w cs cs' x z h1 h2;obtain ⟨_,q1,_,_,_,q4⟩:=Qv8 hT 8 10000 t ks hs hc (by omega);rw [hy] at q1;injection q1 with q1;subst q1
 rw [uF] at q4;have hr:=q4 ρ w l l' (.agg cs) (.agg cs') b ⟨cs,rfl,h1⟩ ⟨cs',rfl,h2⟩ he;refine ⟨run_eqGuard_agg w .eql t x z cs cs' hg,run_eqGuard_agg w .neq t x z cs cs' hg,?_,?_⟩
 .rw [run_eql_struct,hr];rfl
 .rw [run_neq_struct,hr];rfl
end Go.Proofs.YtpgkkfajljekpaaGreat
