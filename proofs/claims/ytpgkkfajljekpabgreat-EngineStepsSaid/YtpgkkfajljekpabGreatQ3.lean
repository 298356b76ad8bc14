import Derived.Test.YtpgkkfajljekpabGreatQ2
import Derived.Below
import Derived.Test.YtpgkkfajljekpabGreatProg
import Derived.KernelRfl
set_option linter.unusedSimpArgs false
set_option linter.unusedVariables false
set_option maxHeartbeats 0
set_option maxRecDepth 100000
namespace Go.Proofs.YtpgkkfajljekpabGreat
open Go Go.RowKit
def QHB (w:World) (v:Value) (len:Nat) (cells:List SV):Prop :=
 ∃ p:PL,∀ (ρ:Nm) (n:Nat),ρ n=some p->RowOk ρ w n ⟨false,1,cells⟩/\VS ρ (.sl n 0 len) v
def isv (k:IntKind) (ls:List Int):List SV:=ls.map fun x=>SV.int k x
theorem lrow_ints {k:IntKind} {w:World} {a:Option Addr} {len cap:Nat} {zs:List Int} (h:RowIn k w a len cap zs):∃ ls:List Int,ls.length=len/\(∀ n∈ls,(Lit.int k n).wf=true)/\QHB w (.slice a len cap) len (isv k ls):=by
 obtain ⟨h1,_,h3⟩:=h.rd;refine ⟨zs.take len,h1,h3,?_⟩;rcases h with ⟨rfl,rfl,rfl,rfl⟩|⟨x,rfl,hl,_,hz,hc,hw⟩
 .refine ⟨.empty,fun ρ n hn=>⟨?_,none,0,rfl,Nat.le_refl _,.inr ⟨hn,rfl⟩⟩⟩
  unfold RowOk;rw [hn];rfl
 .by_cases h0:cap=0
  .refine ⟨.empty,fun ρ n hn=>⟨?_,some x,cap,rfl,hl,.inr ⟨hn,h0⟩⟩⟩
   unfold RowOk;rw [hn];have:len=0:=by omega
   subst this;simp [isv]
  .have fF:=hc 0 (by omega)
   obtain ⟨b,off,spot⟩:=x;have hs:spot=none:=by simpa [Addr.add] using World.cell?_spot fF
   subst hs;have hadd:∀ j,(⟨b,off,none⟩:Addr).add j=⟨b,off+j,none⟩:=fun j=>by by_cases h:j=0<;>simp [Addr.add,h]
   obtain ⟨c,t,fz,hb⟩:∃ c t fz,w.heap[b]?=some (.cells c t fz):=by
    rw [hadd] at fF;unfold World.cell? at fF;simp only [] at fF;split at fF
    .rename_i c t fz e;exact ⟨c,t,fz,e⟩
    .cases fF
   have hcell:∀ i,i<cap->c[off+i]?=some (.int k (zs.getD i 0)):=fun i hi=>by
    have:=hc i (by omega);rw [hadd] at this;simpa [World.cell?,hb] using this
   have qA:off+cap<=c.size:=by
    have:=hcell (cap-1) (by omega);have:=(Array.getElem?_eq_some_iff.1 this).1;omega
   refine ⟨.at ⟨b,off,c.size,1⟩,fun ρ n hn=>⟨?_,some ⟨b,off,none⟩,cap,rfl,hl,.inl ⟨_,hn,.inl ⟨by simp,by simp only [];omega⟩⟩⟩⟩;unfold RowOk;rw [hn];refine ⟨rfl,by simp [isv];omega,c,t,fz,hb,rfl,fun h=>(by cases h),fun i s hs=>?_⟩;unfold isv at hs;rw [List.getElem?_map,List.getElem?_take] at hs;split at hs
   .rename_i hi
    rw [List.getElem?_eq_getElem (by omega)] at hs;injection hs with hs;subst hs
    refine ⟨_,hcell i (by omega),?_⟩;show Value.int k _= .int k _;rw [List.getD_eq_getElem?_getD,List.getElem?_eq_getElem (by omega)];rfl
   .cases hs
def QwB (w:World):List (Value × Nat × List SV)->List PL->Prop
 | [],[]=>True
 | q::l,p::ps=>(∀ (ρ:Nm) (n:Nat),ρ n=some p->RowOk ρ w n ⟨false,1,q.2.2⟩/\VS ρ (.sl n 0 q.2.1) q.1)/\QwB w l ps
 | _,_=>False
theorem Qmz {w:World}:∀ {l:List (Value × Nat × List SV)} {ps:List PL},QwB w l ps->l.length=ps.length/\∀ (i:Nat) q p,l[i]?=some q->ps[i]?=some p->∀ (ρ:Nm) (n:Nat),ρ n=some p->RowOk ρ w n ⟨false,1,q.2.2⟩/\VS ρ (.sl n 0 q.2.1) q.1
 | [],[],_=>⟨rfl,fun i q p h=>by simp at h⟩
 | q::l,p::ps,h=>by
  obtain ⟨h1,h2⟩:=Qmz h.2;refine ⟨by simp [h1],fun i q' p' hq hp=>?_⟩
  cases i with
  | zero=>injection hq with hq;injection hp with hp;subst hq hp;exact h.1
  | succ i=>exact h2 i q' p' hq hp
 | [],_::_,h=>h.elim
 | _::_,[],h=>h.elim
theorem vas_nil (ρ:Nm):VAs ρ [] []:=⟨rfl,fun k s h=>by simp at h⟩
theorem vas_cons {ρ:Nm} {a:AV} {v:Value} {l:List AV} {vs:List Value} (h:VA ρ a v) (hl:VAs ρ l vs):VAs ρ (a::l) (v::vs) :=
 ⟨by simp [hl.1],fun k s hs=>by
  cases k with
  | zero=>injection hs with hs;subst hs;exact ⟨v,rfl,h⟩
  | succ k=>exact hl.2 k s hs⟩
theorem law_of_fn {P:Program} {f:FuncId} {args:List AV} {H:List Row} {vs:Array Value} {w:World} (q:List (Value × Nat × List SV)) (hq:∀ x∈q,QHB w x.1 x.2.1 x.2.2) (hH:H=q.map fun x=>⟨false,1,x.2.2⟩) (hF:Fn P f args H (. =⟨.a (.s (.bool true)),[],[]⟩))
  (ha:∀ ρ:Nm,(∀ (i:Nat) x,q[i]?=some x->VS ρ (.sl i 0 x.2.1) x.1)->VAs ρ args vs.toList):Calls P f vs w fun e w'=>e= .returned (.bool true)/\Below w.heap.size w w':=by
 obtain ⟨ps,vY⟩:∃ ps:List PL,QwB w q ps:=by
  clear hH ha
  induction q with
  | nil=>exact ⟨[],trivial⟩
  | cons x q ih =>
   obtain ⟨ps,h⟩:=ih fun y hy=>hq y (by simp [hy])
   obtain ⟨p,hp⟩:=hq x (by simp);exact ⟨p::ps,hp,h⟩
 obtain ⟨gF,KU⟩:=Qmz vY;have hHl:H.length=ps.length:=by rw [hH];simp [gF]
 have qK:∀ (i:Nat) r,H[i]?=some r->∃ x p,q[i]?=some x/\ps[i]?=some p/\r=⟨false,1,x.2.2⟩:=fun i r hr=>by
  rw [hH,List.getElem?_map] at hr
  cases e:q[i]? with
  | none=>rw [e] at hr;cases hr
  | some x =>
   rw [e] at hr;injection hr with hr
   have hi:i<ps.length:=by rw [<- gF];exact (List.getElem?_eq_some_iff.1 e).1
   exact ⟨x,ps[i],rfl,List.getElem?_eq_getElem hi,hr.symm⟩
 have jS:∀ (i:Nat) r,H[i]?=some r->r.own=false:=fun i r hr=>by obtain ⟨x,p,_,_,rfl⟩:=qK i r hr;rfl
 refine (hF.2 ⟨fun n=>ps[n]?,fun _ _=>False⟩ w vs (fun n hn=>List.getElem?_eq_none (by omega)) (ha _ fun i x hx=>?_) ⟨fun n r hn=>?_,fun n r m s Ln Lm h1 h2=>?_,fun n r L h1 h2=>?_,rfl,rfl,rfl,Nat.le_refl _,fun _ _ _=>rfl,fun _ _ h=>h.elim⟩).mono fun e w' he=>?_
 .have hi:i<ps.length:=by rw [<- gF];exact (List.getElem?_eq_some_iff.1 hx).1
  exact (KU i x ps[i] hx (List.getElem?_eq_getElem hi) _ i (List.getElem?_eq_getElem hi)).2
 .obtain ⟨x,p,h1,h2,rfl⟩:=qK n r hn
  exact (KU n x p h1 h2 _ n h2).1
 .rw [jS n r h1] at h2;cases h2
 .rw [jS n r h1] at h2;cases h2
 .obtain ⟨_,v,_,rfl,rfl,_,_,hv,hc,_⟩:=he
  have hv:v= .bool true:=hv;refine ⟨by rw [hv],hc.os,hc.tape,hc.output,hc.size,fun b hb=>hc.block b hb ?_⟩;rintro ⟨n,r,L,h1,h2,_⟩;rw [jS n r h1] at h2;cases h2
end Go.Proofs.YtpgkkfajljekpabGreat
namespace Go.Proofs.YtpgkkfajljekpabGreat
open Go
def ty2:Ty:=⟨1,8,[.int .i64 0],.int .i64⟩
abbrev ty3:Ty:=ty2
def ty4:Ty:=⟨1,1,[.bool false],.bool⟩
def ty5:Ty:=⟨1,1,[.int .u8 0],.int .u8⟩
abbrev ty6:Ty:=ty5
def ty7:Ty:=⟨4,24,[.int .i64 0,.int .i64 0,.bool false,.int .u8 0],.struct [(0,2),(1,3),(2,4),(3,6)]⟩
abbrev ty8:Ty:=ty7
def ty9:Ty:=⟨1,16,[.str { data:= #[] }],.str⟩
abbrev QJc:Ty:=ty9
abbrev QJd:Ty:=ty9
def ty12:Ty:=⟨1,8,[.int .u64 0],.int .u64⟩
def ty13:Ty:=⟨2,24,[.str { data:= #[] },.int .u64 0],.struct [(0,9),(1,12)]⟩
abbrev QJe:Ty:=ty13
def ty15:Ty:=⟨1,8,[.nil],.ptr 345⟩
def ty16:Ty:=⟨1,8,[.nil],.ptr 348⟩
def ty17:Ty:=⟨1,8,[.nil],.ptr 355⟩
def ty18:Ty:=⟨1,8,[.nil],.struct [(0,17)]⟩
abbrev QJf:Ty:=ty18
def ty21:Ty:=⟨1,4,[.int .i32 0],.int .i32⟩
def ty22:Ty:=⟨1,24,[.nilsl],.slice 3⟩
abbrev QJV:Ty:=ty12
def ty26:Ty:=⟨1,4,[.int .u32 0],.int .u32⟩
def ty27:Ty:=⟨16,64,[.int .u32 0,.int .u32 0,.int .u32 0,.int .u32 0,.int .u32 0,.int .u32 0,.int .u32 0,.int .u32 0,.int .u32 0,.int .u32 0,.int .u32 0,.int .u32 0,.int .u32 0,.int .u32 0,.int .u32 0,.int .u32 0],.array 16 26⟩
def ty28:Ty:=⟨8,32,[.int .u32 0,.int .u32 0,.int .u32 0,.int .u32 0,.int .u32 0,.int .u32 0,.int .u32 0,.int .u32 0],.array 8 26⟩
def ty29:Ty:=⟨25,100,[.int .u32 0,.int .u32 0,.int .u32 0,.int .u32 0,.int .u32 0,.int .u32 0,.int .u32 0,.int .u32 0,.int .u32 0,.int .u32 0,.int .u32 0,.int .u32 0,.int .u32 0,.int .u32 0,.int .u32 0,.int .u32 0,.int .u32 0,.int .u32 0,.int .u32 0,.int .u32 0,.int .u32 0,.int .u32 0,.int .u32 0,.int .u32 0,.int .u32 0],.struct [(0,27),(16,26),(17,28)]⟩
abbrev QJW:Ty:=ty29
def ty31:Ty:=⟨1,24,[.nilsl],.slice 26⟩
def ty32:Ty:=⟨1,16,[.str { data:= #[] }],.struct [(0,9)]⟩
abbrev QJi:Ty:=ty32
def ty34:Ty:=⟨3,12,[.bool false,.int .u32 0,.bool false],.struct [(0,4),(1,26),(2,4)]⟩
abbrev QJj:Ty:=ty34
def ty36:Ty:=⟨8,56,[.int .u32 0,.int .u32 0,.int .u32 0,.int .i64 0,.int .i64 0,.int .u32 0,.int .u32 0,.str { data:= #[] }],.struct [(0,26),(1,26),(2,26),(3,3),(4,3),(5,26),(6,26),(7,9)]⟩
abbrev QJk:Ty:=ty36
def ty38:Ty:=⟨6,24,[.int .u32 0,.int .u32 0,.bool false,.int .u32 0,.bool false,.int .u32 0],.struct [(0,26),(1,26),(2,4),(3,26),(4,4),(5,26)]⟩
abbrev QJl:Ty:=ty38
def ty40:Ty:=⟨2,8,[.int .u32 0,.int .u32 0],.struct [(0,26),(1,26)]⟩
abbrev QJX:Ty:=ty40
def ty42:Ty:=⟨49,264,[.int .u32 0,.int .u32 0,.int .u32 0,.int .u32 0,.int .u32 0,.int .u32 0,.int .u32 0,.int .u32 0,.int .u32 0,.int .u32 0,.int .u32 0,.int .u32 0,.int .u32 0,.int .u32 0,.int .u32 0,.int .u32 0,.int .u32 0,.int .u32 0,.int .u32 0,.int .u32 0,.int .u32 0,.int .u32 0,.int .u32 0,.int .u32 0,.int .u32 0,.nilsl,.str { data:= #[] },.bool false,.int .u32 0,.bool false,.int .u32 0,.int .u32 0,.int .u32 0,.int .i64 0,.int .i64 0,.int .u32 0,.int .u32 0,.str { data:= #[] },.int .u32 0,.int .u32 0,.bool false,.int .u32 0,.bool false,.int .u32 0,.int .u32 0,.int .u32 0,.int .u64 0,.bool false,.bool false],.struct [(0,30),(25,31),(26,33),(27,35),(30,37),(38,39),(44,41),(46,23),(47,4),(48,4)]⟩
abbrev QJY:Ty:=ty42
def ty44:Ty:=⟨1,24,[.nilsl],.slice 121⟩
def ty45:Ty:=⟨1,24,[.nilsl],.slice 125⟩
def ty46:Ty:=⟨51,312,[.int .u32 0,.int .u32 0,.int .u32 0,.int .u32 0,.int .u32 0,.int .u32 0,.int .u32 0,.int .u32 0,.int .u32 0,.int .u32 0,.int .u32 0,.int .u32 0,.int .u32 0,.int .u32 0,.int .u32 0,.int .u32 0,.int .u32 0,.int .u32 0,.int .u32 0,.int .u32 0,.int .u32 0,.int .u32 0,.int .u32 0,.int .u32 0,.int .u32 0,.nilsl,.str { data:= #[] },.bool false,.int .u32 0,.bool false,.int .u32 0,.int .u32 0,.int .u32 0,.int .i64 0,.int .i64 0,.int .u32 0,.int .u32 0,.str { data:= #[] },.int .u32 0,.int .u32 0,.bool false,.int .u32 0,.bool false,.int .u32 0,.int .u32 0,.int .u32 0,.int .u64 0,.bool false,.bool false,.nilsl,.nilsl],.struct [(0,43),(49,44),(50,45)]⟩
abbrev QJZ:Ty:=ty46
def ty51:Ty:=⟨1,24,[.nilsl],.slice 91⟩
abbrev QJ0:Ty:=ty2
def ty62:Ty:=⟨2,16,[.int .i64 0,.int .i64 0],.struct [(0,61),(1,3)]⟩
abbrev QJ1:Ty:=ty62
def ty70:Ty:=⟨3,32,[.int .i64 0,.int .u32 0,.str { data:= #[] }],.struct [(0,3),(1,26),(2,9)]⟩
abbrev QJ2:Ty:=ty70
def ty74:Ty:=⟨4,40,[.int .u64 0,.int .i64 0,.int .u32 0,.str { data:= #[] }],.struct [(0,23),(1,71)]⟩
abbrev QJ3:Ty:=ty74
def ty76:Ty:=⟨1,24,[.nilsl],.slice 75⟩
def ty81:Ty:=⟨1,8,[.nil],.ptr 83⟩
def ty82:Ty:=⟨54,352,[.int .u32 0,.int .u32 0,.int .u32 0,.int .u32 0,.int .u32 0,.int .u32 0,.int .u32 0,.int .u32 0,.int .u32 0,.int .u32 0,.int .u32 0,.int .u32 0,.int .u32 0,.int .u32 0,.int .u32 0,.int .u32 0,.int .u32 0,.int .u32 0,.int .u32 0,.int .u32 0,.int .u32 0,.int .u32 0,.int .u32 0,.int .u32 0,.int .u32 0,.nilsl,.str { data:= #[] },.bool false,.int .u32 0,.bool false,.int .u32 0,.int .u32 0,.int .u32 0,.int .i64 0,.int .i64 0,.int .u32 0,.int .u32 0,.str { data:= #[] },.int .u32 0,.int .u32 0,.bool false,.int .u32 0,.bool false,.int .u32 0,.int .u32 0,.int .u32 0,.int .u64 0,.bool false,.bool false,.nilsl,.nilsl,.nilsl,.int .i64 0,.bool false],.struct [(0,47),(51,51),(52,3),(53,4)]⟩
abbrev QJ4:Ty:=ty82
def ty88:Ty:=⟨1,8,[.nil],.ptr 43⟩
def ty90:Ty:=⟨4,40,[.int .i64 0,.int .u64 0,.int .u32 0,.str { data:= #[] }],.struct [(0,3),(1,23),(2,26),(3,9)]⟩
abbrev ty91:Ty:=ty90
def ty94:Ty:=⟨1,24,[.nilsl],.slice 150⟩
def ty95:Ty:=⟨1,24,[.nilsl],.slice 100⟩
def ty98:Ty:=⟨1,24,[.nilsl],.slice 102⟩
def ty99:Ty:=⟨6,72,[.str { data:= #[] },.int .i64 0,.nilsl,.int .i64 0,.int .i64 0,.int .i64 0],.struct [(0,9),(1,3),(2,98),(3,3),(4,3),(5,3)]⟩
abbrev QJD:Ty:=ty99
def ty101:Ty:=⟨3,32,[.int .i64 0,.int .i64 0,.str { data:= #[] }],.struct [(0,3),(1,2),(2,9)]⟩
abbrev QJE:Ty:=ty101
abbrev QJF:Ty:=ty12
def ty107:Ty:=⟨5,40,[.int .i64 0,.int .i64 0,.int .i64 0,.int .i64 0,.int .i32 0],.struct [(0,3),(1,3),(2,3),(3,3),(4,21)]⟩
abbrev QJG:Ty:=ty107
def ty120:Ty:=⟨4,12,[.int .u32 0,.int .u32 0,.bool false,.bool false],.struct [(0,26),(1,26),(2,4),(3,4)]⟩
abbrev ty121:Ty:=ty120
def ty123:Ty:=⟨1,24,[.nilsl],.slice 128⟩
def ty124:Ty:=⟨3,40,[.int .u32 0,.int .i64 0,.nilsl],.struct [(0,26),(1,3),(2,123)]⟩
abbrev ty125:Ty:=ty124
def ty127:Ty:=⟨6,48,[.int .i64 0,.int .i64 0,.int .i64 0,.int .i64 0,.int .u32 0,.int .i64 0],.struct [(0,3),(1,3),(2,3),(3,3),(4,26),(5,3)]⟩
abbrev ty128:Ty:=ty127
def ty131:Ty:=⟨4,32,[.int .i64 0,.int .i64 0,.int .i64 0,.int .u32 0],.struct [(0,3),(1,3),(2,3),(3,26)]⟩
abbrev QJH:Ty:=ty131
def ty138:Ty:=⟨1,8,[.nil],.ptr 28⟩
def ty145:Ty:=⟨1,24,[.nilsl],.slice 9⟩
def ty149:Ty:=⟨2,24,[.str { data:= #[] },.int .u32 0],.struct [(0,9),(1,26)]⟩
abbrev QJI:Ty:=ty149
def ty194:Ty:=⟨1,24,[.nilsl],.slice 5⟩
def ty201:Ty:=⟨16,16,[.bool false,.bool false,.bool false,.bool false,.bool false,.bool false,.bool false,.bool false,.bool false,.bool false,.bool false,.bool false,.bool false,.bool false,.bool false,.bool false],.array 16 4⟩
def ty202:Ty:=⟨32,80,[.bool false,.bool false,.bool false,.bool false,.bool false,.bool false,.bool false,.bool false,.bool false,.bool false,.bool false,.bool false,.bool false,.bool false,.bool false,.bool false,.int .u32 0,.int .u32 0,.int .u32 0,.int .u32 0,.int .u32 0,.int .u32 0,.int .u32 0,.int .u32 0,.int .u32 0,.int .u32 0,.int .u32 0,.int .u32 0,.int .u32 0,.int .u32 0,.int .u32 0,.int .u32 0],.struct [(0,201),(16,27)]⟩
abbrev QJJ:Ty:=ty202
def ty210:Ty:=⟨1,24,[.nilsl],.slice 214⟩
def ty213:Ty:=⟨3,32,[.int .i64 0,.str { data:= #[] },.bool false],.struct [(0,3),(1,9),(2,4)]⟩
abbrev QJK:Ty:=ty213
def ty228:Ty:=⟨1,2,[.int .i16 0],.int .i16⟩
def ty232:Ty:=⟨5,5,[.bool false,.bool false,.bool false,.bool false,.bool false],.array 5 4⟩
def ty235:Ty:=⟨3,16,[.int .u32 0,.int .u32 0,.int .i64 0],.struct [(0,26),(1,26),(2,3)]⟩
abbrev QJL:Ty:=ty235
def ty245:Ty:=⟨1,8,[.nil],.ptr 30⟩
def ty266:Ty:=⟨5,12,[.bool false,.bool false,.bool false,.int .i32 0,.int .i32 0],.struct [(0,4),(1,4),(2,4),(3,21),(4,21)]⟩
abbrev QJM:Ty:=ty266
def ty292:Ty:=⟨2,48,[.nilsl,.nilsl],.struct [(0,31),(1,45)]⟩
abbrev QJN:Ty:=ty292
def ty298:Ty:=⟨1,1,[.int .i8 0],.int .i8⟩
def ty299:Ty:=⟨1,8,[.nil],.ptr 26⟩
def ty312:Ty:=⟨2,48,[.nilsl,.nilsl],.struct [(0,22),(1,45)]⟩
abbrev QJO:Ty:=ty312
def ty317:Ty:=⟨1,8,[.nil],.ptr 293⟩
def ty325:Ty:=⟨1,8,[.nil],.ptr 313⟩
def ty329:Ty:=⟨1,8,[.nil],.ptr 331⟩
def ty330:Ty:=⟨2,32,[.nil,.nilsl],.struct [(0,329),(1,194)]⟩
abbrev QJP:Ty:=ty330
def ty340:Ty:=⟨1,8,[.nil],.ptr 5⟩
def ty344:Ty:=⟨4,40,[.nil,.nil,.nil,.str { data:= #[] }],.struct [(0,17),(1,17),(2,17),(3,9)]⟩
abbrev QJQ:Ty:=ty344
def ty346:Ty:=⟨0,0,[],.array 0 16⟩
def ty347:Ty:=⟨0,0,[],.struct [(0,346)]⟩
abbrev QJR:Ty:=ty347
abbrev QJS:Ty:=ty5
abbrev QJT:Ty:=ty5
abbrev QJU:Ty:=ty21
abbrev QGY:Ty:=ty21
theorem zty {t:TypeId} {d:TypeDesc} (i:TypeInfo) {y:Ty} {z:Value} (h1:Tryz.prog.underlying t=some d) (h2:Tryz.prog.info? t=some i:=by kernel_rfl) (h3:i.size=y.size:=by exact rfl) (h4:i.bytes=y.bytes:=by exact rfl) (h5:Qex d y.kind:=by first|exact rfl|exact trivial|exact ⟨rfl,rfl⟩) (h6:i.zero=some z:=by exact rfl) (h7:z.cells.toList.map Ql1=y.zero:=by exact rfl) (h8:y.zero.length=y.size:=by exact rfl):TyOk Tryz.prog t y:=⟨d,i,z,h1,h2,h3,h4,h5,h6,h7,h8⟩
inductive Tr
 | l
 | n (k:Nat) (y:Ty) (a b:Tr)
noncomputable def Tr.get (t:Tr) (k:Nat):Option Ty:=Tr.rec none (fun i y _ _ p q=>match Nat.beq k i with|true=>some y|false=>match Nat.blt k i with|true=>p|false=>q) t
def Tr.ok:Tr->Prop
 | .l=>True
 | .n k y a b=>TyOk Tryz.prog k y/\a.ok/\b.ok
theorem Qsl:∀ {t:Tr} {k:Nat} {y:Ty},t.ok->t.get k=some y->TyOk Tryz.prog k y
 | .l,_,_,_,h=>by cases h
 | .n i z a b,k,y,⟨h1,h2,h3⟩,h=>by
  change (match Nat.beq k i with|true=>some z|false=>match Nat.blt k i with|true=>a.get k|false=>b.get k)=some y at h;split at h
  .rename_i e
   injection h with h
   subst h;rw [Nat.eq_of_beq_eq_true e];exact h1
  split at h
  .exact Qsl h2 h
  .exact Qsl h3 h
def tr:Tr:= .n 94 ty94 (.n 34 ty34 (.n 16 ty16 (.n 9 ty9 (.n 5 ty5 (.n 3 ty3 (.n 2 ty2 .l .l) (.n 4 ty4 .l .l)) (.n 7 ty7 (.n 6 ty6 .l .l) (.n 8 ty8 .l .l))) (.n 13 ty13 (.n 11 QJd (.n 10 QJc .l .l) (.n 12 ty12 .l .l)) (.n 15 ty15 (.n 14 QJe .l .l) .l))) (.n 27 ty27 (.n 21 ty21 (.n 18 ty18 (.n 17 ty17 .l .l) (.n 19 QJf .l .l)) (.n 23 QJV (.n 22 ty22 .l .l) (.n 26 ty26 .l .l))) (.n 31 ty31 (.n 29 ty29 (.n 28 ty28 .l .l) (.n 30 QJW .l .l)) (.n 33 QJi (.n 32 ty32 .l .l) .l)))) (.n 61 QJ0 (.n 42 ty42 (.n 38 ty38 (.n 36 ty36 (.n 35 QJj .l .l) (.n 37 QJk .l .l)) (.n 40 ty40 (.n 39 QJl .l .l) (.n 41 QJX .l .l))) (.n 46 ty46 (.n 44 ty44 (.n 43 QJY .l .l) (.n 45 ty45 .l .l)) (.n 51 ty51 (.n 47 QJZ .l .l) .l))) (.n 76 ty76 (.n 71 QJ2 (.n 63 QJ1 (.n 62 ty62 .l .l) (.n 70 ty70 .l .l)) (.n 75 QJ3 (.n 74 ty74 .l .l) .l)) (.n 88 ty88 (.n 82 ty82 (.n 81 ty81 .l .l) (.n 83 QJ4 .l .l)) (.n 91 ty91 (.n 90 ty90 .l .l) .l))))) (.n 214 QJK (.n 127 ty127 (.n 107 ty107 (.n 100 QJD (.n 98 ty98 (.n 95 ty95 .l .l) (.n 99 ty99 .l .l)) (.n 102 QJE (.n 101 ty101 .l .l) (.n 106 QJF .l .l))) (.n 123 ty123 (.n 120 ty120 (.n 108 QJG .l .l) (.n 121 ty121 .l .l)) (.n 125 ty125 (.n 124 ty124 .l .l) .l))) (.n 150 QJI (.n 138 ty138 (.n 131 ty131 (.n 128 ty128 .l .l) (.n 132 QJH .l .l)) (.n 149 ty149 (.n 145 ty145 .l .l) .l)) (.n 203 QJJ (.n 201 ty201 (.n 194 ty194 .l .l) (.n 202 ty202 .l .l)) (.n 213 ty213 (.n 210 ty210 .l .l) .l)))) (.n 325 ty325 (.n 292 ty292 (.n 236 QJL (.n 232 ty232 (.n 228 ty228 .l .l) (.n 235 ty235 .l .l)) (.n 266 ty266 (.n 245 ty245 .l .l) (.n 267 QJM .l .l))) (.n 312 ty312 (.n 298 ty298 (.n 293 QJN .l .l) (.n 299 ty299 .l .l)) (.n 317 ty317 (.n 313 QJO .l .l) .l))) (.n 346 ty346 (.n 340 ty340 (.n 330 ty330 (.n 329 ty329 .l .l) (.n 331 QJP .l .l)) (.n 345 QJQ (.n 344 ty344 .l .l) .l)) (.n 350 QJT (.n 348 QJR (.n 347 ty347 .l .l) (.n 349 QJS .l .l)) (.n 353 QGY (.n 352 QJU .l .l) .l)))))
theorem QGM:tr.ok:=⟨zty Tryz.t94 Tryz.underlying94,⟨zty Tryz.t34 Tryz.underlying34,⟨zty Tryz.t16 Tryz.underlying16,⟨zty Tryz.t9 Tryz.underlying9,⟨zty Tryz.t5 Tryz.underlying5,⟨zty Tryz.t3 Tryz.underlying3,⟨zty Tryz.t2 Tryz.underlying2,trivial,trivial⟩,⟨zty Tryz.t4 Tryz.underlying4,trivial,trivial⟩⟩,⟨zty Tryz.t7 Tryz.underlying7,⟨zty Tryz.t6 Tryz.underlying6,trivial,trivial⟩,⟨zty Tryz.t8 Tryz.underlying8,trivial,trivial⟩⟩⟩,⟨zty Tryz.t13 Tryz.underlying13,⟨zty Tryz.t11 Tryz.underlying11,⟨zty Tryz.t10 Tryz.underlying10,trivial,trivial⟩,⟨zty Tryz.t12 Tryz.underlying12,trivial,trivial⟩⟩,⟨zty Tryz.t15 Tryz.underlying15,⟨zty Tryz.t14 Tryz.underlying14,trivial,trivial⟩,trivial⟩⟩⟩,⟨zty Tryz.t27 Tryz.underlying27,⟨zty Tryz.t21 Tryz.underlying21,⟨zty Tryz.t18 Tryz.underlying18,⟨zty Tryz.t17 Tryz.underlying17,trivial,trivial⟩,⟨zty Tryz.t19 Tryz.underlying19,trivial,trivial⟩⟩,⟨zty Tryz.t23 Tryz.underlying23,⟨zty Tryz.t22 Tryz.underlying22,trivial,trivial⟩,⟨zty Tryz.t26 Tryz.underlying26,trivial,trivial⟩⟩⟩,⟨zty Tryz.t31 Tryz.underlying31,⟨zty Tryz.t29 Tryz.underlying29,⟨zty Tryz.t28 Tryz.underlying28,trivial,trivial⟩,⟨zty Tryz.t30 Tryz.underlying30,trivial,trivial⟩⟩,⟨zty Tryz.t33 Tryz.underlying33,⟨zty Tryz.t32 Tryz.underlying32,trivial,trivial⟩,trivial⟩⟩⟩⟩,⟨zty Tryz.t61 Tryz.underlying61,⟨zty Tryz.t42 Tryz.underlying42,⟨zty Tryz.t38 Tryz.underlying38,⟨zty Tryz.t36 Tryz.underlying36,⟨zty Tryz.t35 Tryz.underlying35,trivial,trivial⟩,⟨zty Tryz.t37 Tryz.underlying37,trivial,trivial⟩⟩,⟨zty Tryz.t40 Tryz.underlying40,⟨zty Tryz.t39 Tryz.underlying39,trivial,trivial⟩,⟨zty Tryz.t41 Tryz.underlying41,trivial,trivial⟩⟩⟩,⟨zty Tryz.t46 Tryz.underlying46,⟨zty Tryz.t44 Tryz.underlying44,⟨zty Tryz.t43 Tryz.underlying43,trivial,trivial⟩,⟨zty Tryz.t45 Tryz.underlying45,trivial,trivial⟩⟩,⟨zty Tryz.t51 Tryz.underlying51,⟨zty Tryz.t47 Tryz.underlying47,trivial,trivial⟩,trivial⟩⟩⟩,⟨zty Tryz.t76 Tryz.underlying76,⟨zty Tryz.t71 Tryz.underlying71,⟨zty Tryz.t63 Tryz.underlying63,⟨zty Tryz.t62 Tryz.underlying62,trivial,trivial⟩,⟨zty Tryz.t70 Tryz.underlying70,trivial,trivial⟩⟩,⟨zty Tryz.t75 Tryz.underlying75,⟨zty Tryz.t74 Tryz.underlying74,trivial,trivial⟩,trivial⟩⟩,⟨zty Tryz.t88 Tryz.underlying88,⟨zty Tryz.t82 Tryz.underlying82,⟨zty Tryz.t81 Tryz.underlying81,trivial,trivial⟩,⟨zty Tryz.t83 Tryz.underlying83,trivial,trivial⟩⟩,⟨zty Tryz.t91 Tryz.underlying91,⟨zty Tryz.t90 Tryz.underlying90,trivial,trivial⟩,trivial⟩⟩⟩⟩⟩,⟨zty Tryz.t214 Tryz.underlying214,⟨zty Tryz.t127 Tryz.underlying127,⟨zty Tryz.t107 Tryz.underlying107,⟨zty Tryz.t100 Tryz.underlying100,⟨zty Tryz.t98 Tryz.underlying98,⟨zty Tryz.t95 Tryz.underlying95,trivial,trivial⟩,⟨zty Tryz.t99 Tryz.underlying99,trivial,trivial⟩⟩,⟨zty Tryz.t102 Tryz.underlying102,⟨zty Tryz.t101 Tryz.underlying101,trivial,trivial⟩,⟨zty Tryz.t106 Tryz.underlying106,trivial,trivial⟩⟩⟩,⟨zty Tryz.t123 Tryz.underlying123,⟨zty Tryz.t120 Tryz.underlying120,⟨zty Tryz.t108 Tryz.underlying108,trivial,trivial⟩,⟨zty Tryz.t121 Tryz.underlying121,trivial,trivial⟩⟩,⟨zty Tryz.t125 Tryz.underlying125,⟨zty Tryz.t124 Tryz.underlying124,trivial,trivial⟩,trivial⟩⟩⟩,⟨zty Tryz.t150 Tryz.underlying150,⟨zty Tryz.t138 Tryz.underlying138,⟨zty Tryz.t131 Tryz.underlying131,⟨zty Tryz.t128 Tryz.underlying128,trivial,trivial⟩,⟨zty Tryz.t132 Tryz.underlying132,trivial,trivial⟩⟩,⟨zty Tryz.t149 Tryz.underlying149,⟨zty Tryz.t145 Tryz.underlying145,trivial,trivial⟩,trivial⟩⟩,⟨zty Tryz.t203 Tryz.underlying203,⟨zty Tryz.t201 Tryz.underlying201,⟨zty Tryz.t194 Tryz.underlying194,trivial,trivial⟩,⟨zty Tryz.t202 Tryz.underlying202,trivial,trivial⟩⟩,⟨zty Tryz.t213 Tryz.underlying213,⟨zty Tryz.t210 Tryz.underlying210,trivial,trivial⟩,trivial⟩⟩⟩⟩,⟨zty Tryz.t325 Tryz.underlying325,⟨zty Tryz.t292 Tryz.underlying292,⟨zty Tryz.t236 Tryz.underlying236,⟨zty Tryz.t232 Tryz.underlying232,⟨zty Tryz.t228 Tryz.underlying228,trivial,trivial⟩,⟨zty Tryz.t235 Tryz.underlying235,trivial,trivial⟩⟩,⟨zty Tryz.t266 Tryz.underlying266,⟨zty Tryz.t245 Tryz.underlying245,trivial,trivial⟩,⟨zty Tryz.t267 Tryz.underlying267,trivial,trivial⟩⟩⟩,⟨zty Tryz.t312 Tryz.underlying312,⟨zty Tryz.t298 Tryz.underlying298,⟨zty Tryz.t293 Tryz.underlying293,trivial,trivial⟩,⟨zty Tryz.t299 Tryz.underlying299,trivial,trivial⟩⟩,⟨zty Tryz.t317 Tryz.underlying317,⟨zty Tryz.t313 Tryz.underlying313,trivial,trivial⟩,trivial⟩⟩⟩,⟨zty Tryz.t346 Tryz.underlying346,⟨zty Tryz.t340 Tryz.underlying340,⟨zty Tryz.t330 Tryz.underlying330,⟨zty Tryz.t329 Tryz.underlying329,trivial,trivial⟩,⟨zty Tryz.t331 Tryz.underlying331,trivial,trivial⟩⟩,⟨zty Tryz.t345 Tryz.underlying345,⟨zty Tryz.t344 Tryz.underlying344,trivial,trivial⟩,trivial⟩⟩,⟨zty Tryz.t350 Tryz.underlying350,⟨zty Tryz.t348 Tryz.underlying348,⟨zty Tryz.t347 Tryz.underlying347,trivial,trivial⟩,⟨zty Tryz.t349 Tryz.underlying349,trivial,trivial⟩⟩,⟨zty Tryz.t353 Tryz.underlying353,⟨zty Tryz.t352 Tryz.underlying352,trivial,trivial⟩,trivial⟩⟩⟩⟩⟩⟩
noncomputable def tys:Tys:=tr.get
theorem Qm2:QaU Tryz.prog tys:=fun _ _ h=>Qsl QGM h
theorem QHV:ty2.bytes=8/\ty4.bytes=1/\ty5.bytes=1/\ty7.bytes=24/\ty9.bytes=16/\ty12.bytes=8/\ty13.bytes=24/\ty15.bytes=8/\ty16.bytes=8/\ty17.bytes=8/\ty18.bytes=8/\ty21.bytes=4/\ty22.bytes=24/\ty26.bytes=4/\ty27.bytes=64/\ty28.bytes=32/\ty29.bytes=100/\ty31.bytes=24/\ty32.bytes=16/\ty34.bytes=12/\ty36.bytes=56/\ty38.bytes=24/\ty40.bytes=8/\ty42.bytes=264/\ty44.bytes=24/\ty45.bytes=24/\ty46.bytes=312/\ty51.bytes=24/\ty62.bytes=16/\ty70.bytes=32/\ty74.bytes=40/\ty76.bytes=24/\ty81.bytes=8/\ty82.bytes=352/\ty88.bytes=8/\ty90.bytes=40/\ty94.bytes=24/\ty95.bytes=24/\ty98.bytes=24/\ty99.bytes=72/\ty101.bytes=32/\ty107.bytes=40/\ty120.bytes=12/\ty123.bytes=24/\ty124.bytes=40/\ty127.bytes=48/\ty131.bytes=32/\ty138.bytes=8/\ty145.bytes=24/\ty149.bytes=24/\ty194.bytes=24/\ty201.bytes=16/\ty202.bytes=80/\ty210.bytes=24/\ty213.bytes=32/\ty228.bytes=2/\ty232.bytes=5/\ty235.bytes=16/\ty245.bytes=8/\ty266.bytes=12/\ty292.bytes=48/\ty298.bytes=1/\ty299.bytes=8/\ty312.bytes=48/\ty317.bytes=8/\ty325.bytes=8/\ty329.bytes=8/\ty330.bytes=32/\ty340.bytes=8/\ty344.bytes=40/\ty346.bytes=0/\ty347.bytes=0:=⟨rfl,rfl,rfl,rfl,rfl,rfl,rfl,rfl,rfl,rfl,rfl,rfl,rfl,rfl,rfl,rfl,rfl,rfl,rfl,rfl,rfl,rfl,rfl,rfl,rfl,rfl,rfl,rfl,rfl,rfl,rfl,rfl,rfl,rfl,rfl,rfl,rfl,rfl,rfl,rfl,rfl,rfl,rfl,rfl,rfl,rfl,rfl,rfl,rfl,rfl,rfl,rfl,rfl,rfl,rfl,rfl,rfl,rfl,rfl,rfl,rfl,rfl,rfl,rfl,rfl,rfl,rfl,rfl,rfl,rfl,rfl,rfl⟩
theorem QHW:ty2.size=1/\ty4.size=1/\ty5.size=1/\ty7.size=4/\ty9.size=1/\ty12.size=1/\ty13.size=2/\ty15.size=1/\ty16.size=1/\ty17.size=1/\ty18.size=1/\ty21.size=1/\ty22.size=1/\ty26.size=1/\ty27.size=16/\ty28.size=8/\ty29.size=25/\ty31.size=1/\ty32.size=1/\ty34.size=3/\ty36.size=8/\ty38.size=6/\ty40.size=2/\ty42.size=49/\ty44.size=1/\ty45.size=1/\ty46.size=51/\ty51.size=1/\ty62.size=2/\ty70.size=3/\ty74.size=4/\ty76.size=1/\ty81.size=1/\ty82.size=54/\ty88.size=1/\ty90.size=4/\ty94.size=1/\ty95.size=1/\ty98.size=1/\ty99.size=6/\ty101.size=3/\ty107.size=5/\ty120.size=4/\ty123.size=1/\ty124.size=3/\ty127.size=6/\ty131.size=4/\ty138.size=1/\ty145.size=1/\ty149.size=2/\ty194.size=1/\ty201.size=16/\ty202.size=32/\ty210.size=1/\ty213.size=3/\ty228.size=1/\ty232.size=5/\ty235.size=3/\ty245.size=1/\ty266.size=5/\ty292.size=2/\ty298.size=1/\ty299.size=1/\ty312.size=2/\ty317.size=1/\ty325.size=1/\ty329.size=1/\ty330.size=2/\ty340.size=1/\ty344.size=4/\ty346.size=0/\ty347.size=0:=⟨rfl,rfl,rfl,rfl,rfl,rfl,rfl,rfl,rfl,rfl,rfl,rfl,rfl,rfl,rfl,rfl,rfl,rfl,rfl,rfl,rfl,rfl,rfl,rfl,rfl,rfl,rfl,rfl,rfl,rfl,rfl,rfl,rfl,rfl,rfl,rfl,rfl,rfl,rfl,rfl,rfl,rfl,rfl,rfl,rfl,rfl,rfl,rfl,rfl,rfl,rfl,rfl,rfl,rfl,rfl,rfl,rfl,rfl,rfl,rfl,rfl,rfl,rfl,rfl,rfl,rfl,rfl,rfl,rfl,rfl,rfl,rfl⟩
end Go.Proofs.YtpgkkfajljekpabGreat
namespace Go.Proofs.YtpgkkfajljekpabGreat
open Go Go.RowKit
noncomputable def fNb (n:Nat) (K:Nat->Bool):Bool:=Nat.rec (K 0) (fun m _=>K (Nat.succ m)) n
theorem Qqe (n:Nat) (K:Nat->Bool):fNb n K=K n:=by cases n<;>rfl
noncomputable def fLb (l:List Nat):(List Nat->Bool)->Bool:=List.rec (fun K=>K []) (fun a _ ih K=>fNb a fun a=>ih fun l=>K (a::l)) l
theorem QvL:∀ (l:List Nat) (K:List Nat->Bool),fLb l K=K l
 | [],K=>rfl
 | a::l,K=>by
  show fNb a (fun a=>fLb l fun l=>K (a::l))=_;rw [Qqe,QvL l]
structure Inf where
 (dst:Option Nat) (lk rd wr:List Nat)
noncomputable def fPb (l:List Inf):(List Inf->Bool)->Bool:=List.rec (fun K=>K []) (fun a _ ih K=>ih fun l=>K (a::l)) l
theorem QvM:∀ (l:List Inf) (K:List Inf->Bool),fPb l K=K l
 | [],K=>rfl
 | a::l,K=>by
  show fPb l (fun l=>K (a::l))=_;rw [QvM l]
noncomputable def QEQ (l m:List Nat):Bool:=List.rec true (fun x _ ih=>match Qc4 x m with
 | true=>false
 | false=>ih) l
theorem Qk2:∀ {l m:List Nat},QEQ l m=true->Qor l m=true
 | [],m,h=>rfl
 | x::l,m,h=>by
  change (match Qc4 x m with|true=>false|false=>QEQ l m)=true at h;split at h
  .cases h
  .rename_i hb
   unfold Qor;rw [List.all_cons,Bool.and_eq_true];refine ⟨?_,Qk2 h⟩;rw [List.all_eq_true];intro y hy
   cases hc:Nat.beq x y with
   | true=>have:=Nat.eq_of_beq_eq_true hc;subst this;exact absurd hy (QgR hb)
   | false=>rfl
def Quc (d:Option Nat) (l:List Nat):Bool:=match d with
 | some d=> !Qc4 d l
 | none=>true
def neD (d e:Option Nat):Bool:=match d,e with
 | some d,some e=> !Nat.beq d e
 | _,_=>true
noncomputable def apI (x y:Inf):Bool:=Quc x.dst y.lk&&neD x.dst y.dst&&Quc y.dst x.lk&&QEQ x.wr y.rd&&QEQ y.wr x.rd
def Qnw (arr:Array Oper) (o:Oper) (d:Did):Inf:=⟨o.dst,o.looksAt arr,d.rd,d.wr⟩
theorem QfF {d:Nat} {l:List Nat} (h:Qc4 d l=false):l.contains d=false:=by grind [List.contains_iff_mem,QgR,Qc4]
theorem QA4 {arr:Array Oper} {x y:Oper} {d e:Did} (h:apI (Qnw arr x d) (Qnw arr y e)=true):(x.apart arr y&&Qor d.wr e.rd&&Qor e.wr d.rd)=true:=by
 unfold apI Qnw at h;simp only [Bool.and_eq_true] at h;obtain ⟨⟨⟨⟨h1,h2⟩,_⟩,h4⟩,h5⟩:=h;rw [Qk2 h4,Qk2 h5,Bool.and_true,Bool.and_true];unfold Oper.apart;rw [Bool.and_eq_true];constructor
 .cases hx:x.dst with
  | none=>rfl
  | some a =>
   rw [hx] at h1 h2;simp only [Quc,Bool.not_eq_true'] at h1;simp only [Bool.and_eq_true];refine ⟨by rw [QfF h1];rfl,?_⟩
   cases hy:y.dst with
   | none=>rfl
   | some b=>grind [neD,Bool.not_eq_true',Nat.ne_of_beq_eq_false,apI,Qnw,Qor]
 .grind [Quc,Bool.not_eq_true',QfF,apI,Qnw,Qor]
noncomputable def chk (m:Nat) (cur:Inf) (l:List Inf):Nat->Bool:=List.rec (fun _=>true) (fun p _ ih i=>match m.testBit i with
 | true=>fNb (i+1) ih
 | false=>match apI p cur with
  | true=>fNb (i+1) ih
  | false=>false) l
theorem Qvw {m:Nat} {cur:Inf}:∀ {l:List Inf} {s:Nat},chk m cur l s=true->∀ (i:Nat) p,l[i]?=some p->m.testBit (s+i)=true\/apI p cur=true
 | [],s,_,i,p,h=>by simp at h
 | q::l,s,h,i,p,hi=>by
  change (match m.testBit s with|true=>fNb (s+1) (chk m cur l)|false=>match apI q cur with|true=>fNb (s+1) (chk m cur l)|false=>false)=true at h;rw [Qqe] at h
  have next:chk m cur l (s+1)=true:=by
   split at h
   .exact h
   .split at h
    .exact h
    .cases h
  cases i with
  | zero =>
   injection hi with hi;subst hi
   split at h
   .rename_i hb;exact .inl hb
   .split at h
    .rename_i hb;exact .inr hb
    .cases h
  | succ i =>
   rw [show s+(i+1)=s+1+i by omega];exact Qvw next i p (by simpa using hi)
noncomputable def Qpr (arr:Array Oper) (l:List Oper):List Did->List Nat->List Inf->Bool :=
 List.rec (fun _ _ _=>true) (fun o _ ih ds acc prev=>match ds with
  | []=>false
  | d::ds=>fNb (QfE o acc) fun m=>fLb (o.looksAt arr) fun lk=>fLb d.rd fun rd=>fLb d.wr fun wr=>match chk m ⟨o.dst,lk,rd,wr⟩ prev 0 with
   | true=>fLb (acc++ [m]) fun acc=>fPb (prev++ [⟨o.dst,lk,rd,wr⟩]) fun prev=>ih ds acc prev
   | false=>false) l
theorem QjT:∀ (l:List Oper) (acc:List Nat) (k:Nat),k<acc.length->(QbN l acc).getD k 0=acc.getD k 0
 | [],acc,k,_=>rfl
 | o::l,acc,k,h=>by
  show (QbN l (acc++ [QfE o acc])).getD k 0=_;rw [QjT l _ k (by simp;omega),List.getD_eq_getElem?_getD,List.getElem?_append_left h,<- List.getD_eq_getElem?_getD]
theorem Qjn {arr:Array Oper} {all:List Oper} {dsA:List Did} (harr:arr=all.toArray):∀ (l:List Oper) (ds:List Did) (acc:List Nat) (prev:List Inf) (pre:List Oper) (dpre:List Did),Qpr arr l ds acc prev=true->all=pre++l->dsA=dpre++ds ->
  acc.length=pre.length->dpre.length=pre.length->prev.length=pre.length->QbN all []=QbN l acc->(∀ (i:Nat) p,prev[i]?=some p->∃ o d,pre[i]?=some o/\dpre[i]?=some d/\p=Qnw arr o d) ->
  ∀ j,pre.length<=j->j<all.length->∀ i,i<j->(((QbN all []).getD j 0).testBit i||Qdp all dsA i j)=true
 | [],ds,acc,prev,pre,dpre,_,h1,_,_,_,_,_,_,j,hj,KZ,i,hi=>by subst h1;simp at KZ;omega
 | o::l,ds,acc,prev,pre,dpre,hq,h1,h2,h3,h4,h5,h6,h7,j,hj,KZ,i,hi=>by
  cases ds with
  | nil=>cases hq
  | cons d ds =>
   change (fNb (QfE o acc) fun m=>fLb (o.looksAt arr) fun lk=>fLb d.rd fun rd=>fLb d.wr fun wr=>match chk m ⟨o.dst,lk,rd,wr⟩ prev 0 with
    | true=>fLb (acc++ [m]) fun acc=>fPb (prev++ [⟨o.dst,lk,rd,wr⟩]) fun prev=>Qpr arr l ds acc prev
    | false=>false)=true at hq
   simp only [Qqe,QvL,QvM] at hq;split at hq
   .rename_i hc
    by_cases hjp:j=pre.length
    .subst hjp
     have hm:(QbN all []).getD pre.length 0=QfE o acc:=by
      rw [h6];show (QbN l (acc++ [QfE o acc])).getD pre.length 0=_;rw [QjT l _ _ (by simp;omega),<- h3];simp [List.getD]
     obtain ⟨p,hp⟩:∃ p,prev[i]?=some p:=⟨_,List.getElem?_eq_getElem (by omega)⟩;obtain ⟨o',d',q1,q2,rfl⟩:=h7 i p hp;rw [hm,Bool.or_eq_true];rcases Qvw hc i _ hp with h8|h8
     .rw [Nat.zero_add] at h8;exact .inl h8
     .right
      unfold Qdp;have e1:all[i]?=some o':=by rw [h1,List.getElem?_append_left hi];exact q1
      have e2:all[pre.length]?=some o:=by rw [h1,List.getElem?_append_right (Nat.le_refl _)];simp
      have e3:dsA[i]?=some d':=by rw [h2,List.getElem?_append_left (by omega)];exact q2
      have e4:dsA[pre.length]?=some d:=by rw [h2,<- h4,List.getElem?_append_right (Nat.le_refl _)];simp
      rw [e1,e2,e3,e4];simp only [];rw [<- harr];exact QA4 h8
    .refine Qjn harr l ds _ _ (pre++ [o]) (dpre++ [d]) hq (by simp [h1]) (by simp [h2]) (by simp [h3]) (by simp [h4]) (by simp [h5]) h6 (fun i p hp=>?_) j (by simp;omega) KZ i hi
     by_cases ZX:i<prev.length
     .rw [List.getElem?_append_left ZX] at hp
      obtain ⟨o',d',q1,q2,q3⟩:=h7 i p hp;exact ⟨o',d',by rw [List.getElem?_append_left (by omega)];exact q1,by rw [List.getElem?_append_left (by omega)];exact q2,q3⟩
     .rw [List.getElem?_append_right (by omega)] at hp
      have:i=prev.length:=by
       have:=(List.getElem?_eq_some_iff.1 hp).1;simp at this;omega
      subst this;simp at hp;exact ⟨o,d,by rw [h5,List.getElem?_append_right (Nat.le_refl _)];simp,by rw [h5,<- h4,List.getElem?_append_right (Nat.le_refl _)];simp,hp.symm⟩
   .cases hq
noncomputable def Qpq (all:List Oper) (ds:List Did):Bool:=match QhC all 0 with
 | true=>Qpr all.toArray all ds [] []
 | false=>false
theorem Qmg {all:List Oper} {ds:List Did} (h:Qpq all ds=true):Qed all ds=true:=by
 unfold Qpq at h;split at h
 .rename_i he
  unfold Qed;rw [he,Bool.true_and,List.all_eq_true];intro j hj;rw [List.all_eq_true];intro i hi;exact Qjn rfl all ds [] [] [] [] h rfl rfl rfl rfl rfl rfl (fun i p hp=>by simp at hp) j (Nat.zero_le _) (by simpa using hj) i (by simpa using hi)
 .cases h
theorem Qyc:Tryz.prog.follows .mixedOrders=true:=by kernel_rfl
theorem Qb4 {x:Int} (h1: -9223372036854775808<=x) (h2:x<=9223372036854775807):IntKind.i64.wrap x=x:=by rw [IntKind.wrap_i64];omega
theorem Qe7 {x:Int} (h1:0<=x) (h2:x<=4294967295):IntKind.u32.wrap x=x:=by
 show x%4294967296=x;omega
theorem Qch (x:Int):IntKind.u32.wrap x=x%4294967296:=rfl
theorem wu8 {x:Int} (h1:0<=x) (h2:x<=255):IntKind.u8.wrap x=x:=by show x%256=x;omega
theorem Qow (x:Int):IntKind.u8.wrap x=x%256:=rfl
theorem Qws {x:Int} (h1:0<=x) (h2:x<=18446744073709551615):IntKind.u64.wrap x=x:=by show x%18446744073709551616=x;omega
theorem Qoh (x:Int):IntKind.u64.wrap x=x%18446744073709551616:=rfl
theorem QDf {x:Int} (h1: -2147483648<=x) (h2:x<=2147483647):IntKind.i32.wrap x=x:=by
 have e:IntKind.i32.wrap x=if x%4294967296>=2147483648 then x%4294967296-4294967296 else x%4294967296:=by
  unfold IntKind.wrap;simp [IntKind.signed,IntKind.bits]
 rw [e];split<;>omega
theorem Qby {c l:List SV} (h:c.length=l.length):QaC c 0 l=l:=by
 apply List.ext_getElem?;intro j;rw [Qbj c 0 l j (by omega)];split
 .rfl
 .grind
theorem Qkd {c l:List SV} (h:Nat.beq c.length l.length=true):QaC c 0 l=l:=Qby (Nat.eq_of_beq_eq_true h)
theorem QoP (op:BinOp) (k:IntKind) (a b:Int):bits op k a b=bits op k a b:=rfl
theorem QmY {x y:Int} (h1:0<=x):x.tdiv y=x / y:=Int.tdiv_eq_ediv_of_nonneg h1
theorem Qgk {x y:Int} (h1:0<=x):x.tmod y=x%y:=Int.tmod_eq_emod_of_nonneg h1
theorem Qzg {all:List Oper} {ds:List Did} {k:Prop} (h:Qpq all ds=true) (hk:k):Sd (Qed all ds=true) k:= .mk (Qmg h) hk
inductive Fc {α:Type}:α->α->Prop
 | mk {a b:α} (h:a=b):Fc a b
theorem Fc.eq {α:Type} {a b:α} (h:Fc a b):a=b:=by cases h;assumption
theorem QBJ {α:Type} {a b:α} (h:Fc a b):a=b:=h.eq
theorem Qqg {α:Type} {a b:α} (h:Fc a b):Fc (some a) (some b):=⟨h.eq ▸ rfl⟩
theorem QBM {α:Type}:Fc ([]:List α) []:=⟨rfl⟩
theorem QxB {α:Type} {a b:α} {l m:List α} (h1:Fc a b) (h2:Fc l m):Fc (a::l) (b::m):=⟨by rw [h1.eq,h2.eq]⟩
theorem QBK {k:IntKind} {x:Int}:Fc (SV.int k x) (.int k x):=⟨rfl⟩
theorem QxA {b:Bool}:Fc (SV.bool b) (.bool b):=⟨rfl⟩
theorem QIG:Fc SV.nil .nil:=⟨rfl⟩
theorem QFV:Fc SV.nilsl .nilsl:=⟨rfl⟩
theorem QBR:Fc SV.unk .unk:=⟨rfl⟩
theorem QBN {i o}:Fc (SV.ptr i o) (.ptr i o):=⟨rfl⟩
theorem QFW {i o n}:Fc (SV.sl i o n) (.sl i o n):=⟨rfl⟩
theorem QBP {s}:Fc (SV.str s) (.str s):=⟨rfl⟩
theorem QFT {f c}:Fc (SV.fn f c) (.fn f c):=⟨rfl⟩
theorem QFQ:Fc ([]:List AV) []:=⟨rfl⟩
theorem QFP {a b:AV} {l m:List AV} (h1:Fc a b) (h2:Fc l m):Fc (a::l) (b::m):=⟨by rw [h1.eq,h2.eq]⟩
theorem QIH {a b:SV} (h:Fc a b):Fc (AV.s a) (.s b):=⟨by rw [h.eq]⟩
theorem QBI {a b:List SV} (h:Fc a b):Fc (AV.agg a) (.agg b):=⟨by rw [h.eq]⟩
theorem QFX {a b:AV} (h:Fc a b):Fc (TV.a a) (.a b):=⟨by rw [h.eq]⟩
theorem QBQ {a b:List AV} (h:Fc a b):Fc (TV.tup a) (.tup b):=⟨by rw [h.eq]⟩
theorem QFY:Fc TV.unk .unk:=⟨rfl⟩
theorem QBL {n:Nat}:Fc n n:=⟨rfl⟩
theorem QFR {b:Bool}:Fc b b:=⟨rfl⟩
theorem QxC {α:Type}:Fc (none:Option α) none:=⟨rfl⟩
theorem QxD {α β:Type} {a a':α} {b b':β} (h1:Fc a a') (h2:Fc b b'):Fc (a,b) (a',b'):=⟨by rw [h1.eq,h2.eq]⟩
theorem QBO {o:Bool} {e e':Nat} {c c':List SV} (h1:Fc e e') (h2:Fc c c'):Fc (Row.mk o e c) ⟨o,e',c'⟩:=⟨by rw [h1.eq,h2.eq]⟩
theorem QFS {v v':TV} {u u':List (Nat × Option Row)} {n n':List (Nat × Row)} (h1:Fc v v') (h2:Fc u u') (h3:Fc n n'):Fc (Ef.mk v u n) ⟨v',u',n'⟩:=⟨by rw [h1.eq,h2.eq,h3.eq]⟩
def wsv (xs:List Nat):List SV:=xs.map fun (x:Nat)=>SV.int .u32 x
@[simp] theorem wsv_length (xs:List Nat):(wsv xs).length=xs.length:=by simp [wsv]
theorem QaZ (xs:List Nat) (i:Nat) (h:i<xs.length):(wsv xs)[i]?=some (.int .u32 (xs.getD i 0:Nat)):=by grind [wsv,List.getElem?_eq_getElem,List.getD]
theorem Qaa (xs:List Nat):Qao (wsv xs)=true:=by
 induction xs with
 | nil=>rfl
 | cons x xs ih=>exact ih
theorem QbF (xs:List Nat):Qat (wsv xs)=true:=by
 induction xs with
 | nil=>rfl
 | cons x xs ih=>exact ih
theorem QeU {m:List Em} {k n0:Nat} {l:List SV} (h:Qao l=true):l.map (QcQ m k n0)=l:=by
 induction l with
 | nil=>rfl
 | cons s l ih =>
  unfold Qao at h
  cases e:s.scal with
  | false=>grind
  | true =>
   rw [e] at h;rw [List.map_cons,ih h];cases s<;>simp [SV.scal] at e<;>rfl
theorem QvP {m:List Em} {k n0:Nat} {l:List SV} (h:Qao l=true):Fc (l.map (QcQ m k n0)) l:=⟨QeU h⟩
@[simp] theorem ren_wsv {m:List Em} {k n0:Nat} (xs:List Nat):(wsv xs).map (QcQ m k n0)=wsv xs:=QeU (Qaa xs)
theorem Qa7 {cells:List SV} {n:Nat} (l:List SV) (h:cells.length=n) (e:cells=l:=by rfl):l.length=n/\∀ (j:Nat) s,l[j]?=some s->cells[0+j]?=some s:=by grind
theorem Qwg {cells l:List SV} {o n:Nat} (h:(cells.drop o).take n=l) (hn:l.length=n):l.length=n/\∀ (j:Nat) s,l[j]?=some s->cells[o+j]?=some s:=by grind
theorem QGz {cells l:List SV} {o n:Nat} (h:Fc ((cells.drop o).take n) l) (hn:l.length=n):l.length=n/\∀ (j:Nat) s,l[j]?=some s->cells[o+j]?=some s:=Qwg h.eq hn
theorem QcB {cells:List SV} {n:Nat} (l:List SV) (h:cells.length=n) (hk:Qat cells=true) (e:cells=l:=by rfl):l.length=n/\Qat l=true/\∀ (j:Nat) s,l[j]?=some s->cells[0+j]?=some s:=by grind
theorem QGE {cells l:List SV} {o n:Nat} (h:Fc ((cells.drop o).take n) l) (hn:l.length=n) (hk:Qat l=true):l.length=n/\Qat l=true/\∀ (j:Nat) s,l[j]?=some s->cells[o+j]?=some s :=
 ⟨hn,hk,(Qwg h.eq hn).2⟩
theorem Qag {P:Program} {det:Bool} {f:FuncId} {l:List AV} {hp:Hp} {n0:Nat} {K:KK} {args:List AV} {H:List Row} {R:Res} (hF:Fn P f args H (. =R)) (m:List Em) (fp:List (Nat × Row)) (h2:l=args.map (QcZ m H.length n0)) (h3:QAw hp fp)
  (h4:QhX m H.length n0 0 m H fp) (h5:Nat.ble R.nw.length Qaq=true/\∀ p∈R.up,p.1<H.length) (k:Vl (R.ef m H.length n0) fun e=>K fp e):Cll P det f l hp n0 K :=
 .mk args H m fp _ hF h2 h3 h4 (fun _ e=>e ▸ ⟨Nat.le_of_ble_eq_true h5.1,h5.2⟩) (fun _=>⟨R,rfl⟩) (fun _ e=>e ▸ k)
theorem Qbp {H:List Row}:∀ p∈([]:List (Nat × Option Row)),p.1<H.length:=fun _ h=>by cases h
theorem Qad {P:Program} {det:Bool} {f:FuncId} {l:List AV} {hp:Hp} {n0:Nat} {K:KK} {args:List AV} {v:TV} (hF:Fn P f args [] (. =⟨v,[],[]⟩)) (h2:l=args.map (QcZ [] 0 n0)) (k:Vl (QCG [] 0 n0 v) fun v=>K [] ⟨v,[],[]⟩):Cll P det f l hp n0 K :=
 Qag hF [] [] h2 trivial trivial ⟨rfl,Qbp⟩ (by obtain ⟨_,h,k⟩:=k;exact ⟨_,rfl,by rw [<- h] at k;exact k⟩)
theorem Qap {mm:List Em} {k n0 i n es:Nat} {cells:List SV} {own:Bool} (h:Qao cells=true):Qdm mm k n0 i ⟨n,0⟩ ⟨false,es,cells⟩ ⟨own,es,cells⟩ :=
 ⟨rfl,fun q s hs=>by
  simp only [] at hs |-;rw [Nat.zero_add,hs];have:=Qc0 h s (List.mem_of_getElem? hs)
  cases s<;>simp [SV.scal] at this<;>rfl,by simp,fun h=>by cases h⟩
theorem QyP {mm:List Em} {k n0 i n es:Nat} {cells:List SV} (h:Qao cells=true) (hi:∀ (j:Nat) (f:Em),mm[j]?=some f->j≠i->f.n≠n):Qdm mm k n0 i ⟨n,0⟩ ⟨true,es,cells⟩ ⟨true,es,cells⟩ :=
 ⟨rfl,fun q s hs=>by
  simp only [] at hs |-;rw [Nat.zero_add,hs];have:=Qc0 h s (List.mem_of_getElem? hs)
  cases s<;>simp [SV.scal] at this<;>rfl,by simp,fun _=>⟨rfl,rfl,rfl,hi⟩⟩
def Qze:AV->Bool
 | .s s=>s.scal
 | .agg l=>Qao l
def QmQ:List AV->Bool
 | []=>true
 | x::l=>Qze x&&QmQ l
def Qzf:TV->Bool
 | .unk=>true
 | .a x=>Qze x
 | .tup l=>QmQ l
theorem Qaj {m:Rn}:∀ {l:List SV},Qao l=true->SVsM m l l
 | [],_=> .nil
 | s::l,h=>by
  unfold Qao at h;split at h
  .rename_i hs;exact .cons (Qgj hs) (Qaj h)
  .cases h
theorem Ql3 {m:Rn}:∀ {x:AV},Qze x=true->AVm m x x
 | .s _,h=>Qgj h
 | .agg _,h=>Qaj h
theorem Qi7 {m:Rn}:∀ {l:List AV},QmQ l=true->QsV m l l
 | [],_=>trivial
 | x::l,h=>by
  unfold QmQ at h;simp at h;exact ⟨Ql3 h.1,Qi7 h.2⟩
theorem Qm1 {m:Rn}:∀ {x:TV},Qzf x=true->TVm m x x
 | .unk,_=>trivial
 | .a _,h=>⟨_,rfl,Ql3 h⟩
 | .tup _,h=>⟨_,rfl,Qi7 h⟩
theorem Qam {σ:St} {x v:TV} (hs:Qzf v=true) (e:x=v):Fin [] (. =⟨v,[],[]⟩) σ x:=by
 subst e;exact Fin.mk _ [] rfl (Qm1 hs) trivial rfl
theorem Qa2 {l l':List SV} (h:Qao l=true) (h':Qao l'=true):Qao (l++l')=true:=by
 induction l with
 | nil=>exact h'
 | cons s l ih=>grind [Qao]
theorem QcN {m:Rn} {z y:AV} (h:AVm m z y):TVm m (.a z) (.a y):=⟨_,rfl,h⟩
theorem QiN {m:Rn} {z y:List AV} (h:QsV m z y):TVm m (.tup z) (.tup y):=⟨_,rfl,h⟩
theorem QkJ {m:Rn} {z y:List SV} (h:SVsM m z y):AVm m (.agg z) (.agg y):=h
theorem Qcx {m:Rn} {z y:SV} (h:SVm m z y):AVm m (.s z) (.s y):=h
theorem QfX {m:Rn}:QsV m [] []:=trivial
theorem QeB {m:Rn} {x y:AV} {l l':List AV} (h:AVm m x y) (h':QsV m l l'):QsV m (x::l) (y::l'):=⟨h,h'⟩
theorem Qse {m:Rn} {n c o:Nat} (h:QaX m n=some (some c)):SVm m (.ptr c o) (.ptr n o):=⟨c,h,rfl⟩
theorem QcC {m:Rn} {n c o k:Nat} (h:QaX m n=some (some c)):SVm m (.sl c o k) (.sl n o k):= .inl ⟨c,h,rfl⟩
theorem QeZ {m:Rn} {n o:Nat} (h:QaX m n=some none):SVm m .nilsl (.sl n o 0):= .inr ⟨h,rfl,rfl⟩
theorem Qki {m:Rn} {es:Nat}:SVm m .nilsl (.fz es 0 []):= .inr ⟨rfl,rfl,rfl⟩
theorem QaL {m:Rn} {hp:Hp} {s:List Nat}:HlS m hp s []:=trivial
theorem Qf5 {m:Rn} {hp:Hp} {s:List Nat} {p:Nat × Option Row} {l:Hl} (h:Qc4 p.1 s=true) (h':HlS m hp (p.1::s) l):HlS m hp s (p::l):=⟨by rw [h];trivial,h'⟩
theorem Qil {m:Rn} {hp:Hp} {s:List Nat} {n:Nat} {l:Hl} (h':HlS m hp (n::s) l):HlS m hp s ((n,none)::l):=⟨by cases Qc4 n s<;>trivial,h'⟩
theorem Qas {m:Rn} {hp:Hp} {s:List Nat} {n:Nat} {r:Row} {l:Hl} (h:RowMt m hp n r) (h':HlS m hp (n::s) l):HlS m hp s ((n,some r)::l):=⟨by cases Qc4 n s;exact h;trivial,h'⟩
theorem Qan {m:Rn} {hp:Hp} {n c:Nat} {r r':Row} (h1:QaX m n=some (some c)) (h2:hp c=some r) (h3:r.es=r'.es) (h4:(!r'.own||(r.own&&QAz m n c))=true) (h5:SVsM m r.cells r'.cells):RowMt m hp n r' :=
 .inl ⟨c,r,h1,h2,h3,fun h=>by rw [h] at h4;simpa using h4,h5⟩
theorem QcU {m:Rn} {hp:Hp} {n:Nat} {r':Row} (h1:QaX m n=some none) (h2:r'.cells= []):RowMt m hp n r':= .inr ⟨h1,h2⟩
theorem QxS {m:Rn} {hp qC:Hp} {s:List Nat}:QcE m hp qC s []:=trivial
theorem QtV {m:Rn} {hp qC:Hp} {s:List Nat} {p:Nat × Option Row} {l:Hl} (h:Qc4 p.1 s=true) (h':QcE m hp qC (p.1::s) l):QcE m hp qC s (p::l):=⟨by rw [h];trivial,h'⟩
theorem QtU {m:Rn} {hp qC:Hp} {s:List Nat} {n:Nat} {l:Hl} (h':QcE m hp qC (n::s) l):QcE m hp qC s ((n,none)::l):=⟨by cases Qc4 n s<;>trivial,h'⟩
theorem QxT {m:Rn} {hp qC:Hp} {s:List Nat} {n:Nat} {r:Row} {l:Hl} (h:Qvn m hp qC n r) (h':QcE m hp qC (n::s) l):QcE m hp qC s ((n,some r)::l):=⟨by cases Qc4 n s;exact h;trivial,h'⟩
theorem QyQ {m:Rn} {hp qC:Hp} {n c:Nat} {r r':Row} (h1:QaX m n=some (some c)) (h2:hp c=some r) (h3:r.es=r'.es) (h4:(!r'.own||(r.own&&QEV m qC n c))=true) (h5:SVsM m r.cells r'.cells):Qvn m hp qC n r' :=
 .inl ⟨c,r,h1,h2,h3,fun h=>by rw [h] at h4;simpa using h4,h5⟩
theorem Qux {m:Rn} {hp qC:Hp} {n:Nat} {r':Row} (h1:QaX m n=some none) (h2:r'.cells= []):Qvn m hp qC n r':= .inr ⟨h1,h2⟩
theorem QaY {m:Rn} {tm:Nat->TV}:TmL m tm []:=trivial
theorem QaN {m:Rn} {tm:Nat->TV} {t:Nat} {v:TV} {l:Tm} (h:TVm m (tm t) v) (h':TmL m tm l):TmL m tm ((t,v)::l):=⟨h,h'⟩
theorem QaK {m:Rn} {s:SV} (h:s.scal=true):SVm m s s:=Qgj h
def QAF (n:Nat):Nat->Nat->List Em->Bool
 | _,_,[]=>true
 | i,j,f::l=>(Nat.beq j i|| !Nat.beq f.n n)&&QAF n i (j+1) l
theorem Qre {n i:Nat}:∀ {l:List Em} {s:Nat},QAF n i s l=true->∀ (j:Nat) (f:Em),l[j]?=some f->s+j≠i->f.n≠n
 | f::l,s,h,0,g,e,fQ=>by
  injection e with e;subst e
  unfold QAF at h;rw [Bool.and_eq_true,Bool.or_eq_true] at h;rcases h.1 with h|h
  .simp_all
  .intro e
   rw [e,Nat.beq_refl] at h;cases h
 | f::l,s,h,j+1,g,e,fQ=>by
  unfold QAF at h;rw [Bool.and_eq_true] at h;exact Qre h.2 j g e (by omega)
theorem QaE {mm:List Em} {k n0 i n es:Nat} {cells:List SV} (h:Qao cells=true) (ho:QAF n i 0 mm=true):Qdm mm k n0 i ⟨n,0⟩ ⟨true,es,cells⟩ ⟨true,es,cells⟩ :=
 QyP h fun j f hj fQ=>Qre ho j f hj (by omega)
theorem QbO {mm:List Em} {k n0 i n es:Nat} {cells cells':List SV} (h:cells'=cells.map (QcQ mm k n0)) (ho:QAF n i 0 mm=true):Qdm mm k n0 i ⟨n,0⟩ ⟨true,es,cells⟩ ⟨true,es,cells'⟩:=by
 subst h;exact ⟨rfl,fun q s hs=>by simp only [] at hs |-;rw [Nat.zero_add,List.getElem?_map,hs];rfl,by simp,fun _=>⟨rfl,rfl,by simp,fun j f hj fQ=>Qre ho j f hj (by omega)⟩⟩
theorem QmM {mm:List Em} {k n0 i n es:Nat} {own:Bool} {cells cells':List SV} (h:cells'=cells.map (QcQ mm k n0)):Qdm mm k n0 i ⟨n,0⟩ ⟨false,es,cells⟩ ⟨own,es,cells'⟩:=by
 subst h;exact ⟨rfl,fun q s hs=>by simp only [] at hs |-;rw [Nat.zero_add,List.getElem?_map,hs];rfl,by simp,fun h=>by cases h⟩
theorem QiT (a b:List Nat):wsv (a++b)=wsv a++wsv b:=by unfold wsv;rw [List.map_append]
def upB (n:Nat):List (Nat × Option Row)->Bool
 | []=>true
 | p::l=>Nat.ble (p.1+1) n&&upB n l
theorem Qcu {n:Nat}:∀ {l:List (Nat × Option Row)},upB n l=true->∀ p∈l,p.1<n
 | q::l,h,p,hp=>by
  unfold upB at h;rw [Bool.and_eq_true] at h;rcases List.mem_cons.1 hp with e|e
  .subst e;exact Nat.le_of_ble_eq_true h.1
  .exact Qcu h.2 p e
theorem d1 {p:Prop} [Decidable p]:(decide p=true)=p:=decide_eq_true_eq
theorem d2 {p:Prop} [Decidable p]:decide p=false↔¬ p:=decide_eq_false_iff_not
theorem d3 {α:Type} [BEq α] [LawfulBEq α] {a b:α}:(a==b)=false↔a≠b:=beq_eq_false_iff_ne
theorem d4 {α:Type} [BEq α] [LawfulBEq α] {a b:α}:(a !=b)=false↔a=b:=bne_eq_false_iff_eq
theorem d5 (b:Bool):((!b)=true)=(b=false):=Bool.not_eq_true' b
theorem d6 {b:Bool}:((!b)=false)=(b=true):=Bool.not_eq_false' b
theorem d7 {a:Prop}:¬ ¬ a↔a:=Classical.not_not
theorem aAr {P:Prop} (h:P:=by (first|(with_reducible exact QoP _ _ _ _)|((rewrite [QmY]);(focus (first|exact Qb4 (by omega) (by omega)|exact Qe7 (by omega) (by omega)|exact QDf (by omega) (by omega)));omega)|exact Qgk (by omega)|exact Qb4 (by omega) (by omega)|exact Qe7 (by omega) (by omega)|exact Qch _|exact wu8 (by omega) (by omega)|exact Qws (by omega) (by omega)|exact QDf (by omega) (by omega)|rfl)):P:=h
theorem aCl {P:Prop} (h:P:=by (first|exact Qkd rfl|exact Qa7 _ rfl|exact QcB _ rfl rfl|((first|apply QGz|apply QGE|(apply QBJ;(conv=>arg 1;whnf);apply Qqg)|apply QBJ);(repeat' (first|exact QvP (Qaa _)|exact QvP (by assumption)|((conv=>arg 1;whnf);first|exact QBM|apply QxB|exact QBK|exact QxA|exact QIG|exact QFV|exact QBN|exact QFW|exact QBP|exact QFU|exact QBR|exact QFT|apply QIH|apply QBI|apply QFX|apply QBQ|exact QFQ|apply QFP|exact QFY|exact QBL|exact QFR|exact QxC|apply Qqg|apply QxD|apply QBO|apply QFS)));(all_goals exact rfl))|((dsimp only [Res.ef,QCG,QcZ,QcQ,Qc7,nwN,upN,QdC,List.map_cons,List.map_nil,List.length_cons,List.length_nil]);first|done|exact rfl)|(dsimp only [QaC,List.set_cons_zero,List.set_cons_succ,List.cons_append,List.nil_append];exact rfl)|exact rfl)):P:=h
theorem aSd {P:Prop} (h:P:=by (first|exact rfl|trivial|omega|(repeat' apply And.intro)<;>first|exact rfl|exact Nat.le_of_ble_eq_true rfl|omega|decide)):P:=h
theorem aNt {P:Prop} (h:P:=by ((try simp only [QHW,QHV,Int.toNat_natCast,Int.toNat_zero,Int.toNat_one,Nat.zero_add,Nat.zero_mul,Nat.mul_one,Nat.one_mul,Nat.add_zero,Int.sub_zero,Option.getD_some,Option.getD_none,Int.toNat_natCast_add_one]);exact rfl)):P:=h
theorem aS2 {P:Prop} (h:P:=by (repeat' apply And.intro)<;>(try simp only [QHW,QHV,Int.toNat_natCast,Int.toNat_zero,Int.toNat_one,Nat.zero_add,Nat.zero_mul,Nat.mul_one,Nat.one_mul,Nat.add_zero,Int.sub_zero,Option.getD_some,Option.getD_none,Int.toNat_natCast_add_one])<;>first|exact rfl|omega):P:=h
theorem aFi {P:Prop} (h:P:=by ((repeat' (first|exact SVsM.nil|exact QfX|exact QaK rfl|exact Qse rfl|exact QcC rfl|exact QeZ rfl|exact Qki|exact Qaj rfl|exact Qaj (Qaa _)|exact Qaj (by assumption)|exact QaL|apply SVsM.cons|apply QcN|apply QiN|apply QkJ|apply Qcx|apply QeB|exact trivial|(refine Qf5 rfl ?_)|apply Qil|apply Qas|(refine Qan rfl rfl rfl rfl ?_)|exact QcU rfl rfl|exact QxS|(refine QtV rfl ?_)|apply QtU|apply QxT|(refine QyQ rfl rfl rfl rfl ?_)|exact Qux rfl rfl));first|done|fail)):P:=h
theorem aKl {b c:Bool} {P:Prop} (hb:b=c) (h:¬ (b=c):=by intro hb;first|(exact absurd hb (by decide))|exact Bool.noConfusion (hb.symm.trans (by assumption):true=false)|exact Bool.noConfusion (hb.symm.trans (by assumption):false=true)):P:=absurd hb h
theorem aK2 {b c:Bool} {P:Prop} (hb:b=c) (h:¬ (b=c):=by first|(intro hb;first|(exact absurd hb (by decide))|exact Bool.noConfusion (hb.symm.trans (by assumption):true=false)|exact Bool.noConfusion (hb.symm.trans (by assumption):false=true))|(simp only [beq_self_eq_true,Bool.and_true,Bool.and_self,reduceCtorEq,false_implies,bne_self_eq_false,imp_false,not_true_eq_false,not_false_eq_true,Bool.true_eq_false,Bool.false_eq_true];first|done|fail)):P:=absurd hb h
theorem QCA {m:List Em} {k n0:Nat}:([]:List AV)=([]:List AV).map (QcZ m k n0):=rfl
theorem QIR {m:List Em} {k n0:Nat} {C:List SV} {l l':List AV} (h:Qao C=true) (t:l=l'.map (QcZ m k n0)):AV.agg C::l=(AV.agg C::l').map (QcZ m k n0):=by rw [List.map_cons,<- t];show _=AV.agg (C.map (QcQ m k n0))::l;rw [QeU h]
theorem QIS {m:List Em} {k n0:Nat} {a b:AV} {l l':List AV} (h:b=QcZ m k n0 a) (t:l=l'.map (QcZ m k n0)):b::l=(a::l').map (QcZ m k n0):=by rw [List.map_cons,<- t,<- h]
theorem aRn {P:Prop} (h:P:=by first|exact rfl|(repeat' first|exact QCA|(refine QIR (by assumption) ?_)|(refine QIS rfl ?_));first|done|fail):P:=h
theorem sdk {p K:Prop} (h:p):K->Sd p K:=fun k=> .mk h k
theorem sdd {all:List Oper} {ds:List Did} {k:Prop} (h:Qpq all ds=true):k->Sd (Qed all ds=true) k:=fun q=>Qzg h q
theorem vlk {α:Type} {e z:α} {K:α->Prop} (h:e=z):K z->Vl e K:=fun k=> .mk z h k
theorem gek {α:Type} {e:Option α} {z:α} {K:α->Prop} (h:e=some z):K z->Ge e K:=fun k=> .mk z h k
theorem sgk {c:List SV} {o n:Nat} {K:List SV->Prop} {l:List SV} (h:l.length=n/\∀ (j:Nat) s,l[j]?=some s->c[o+j]?=some s):K l->Sg c o n K:=fun k=> .mk l h k
theorem skk {c:List SV} {o n:Nat} {K:List SV->Prop} {l:List SV} (h:l.length=n/\Qat l=true/\∀ (j:Nat) s,l[j]?=some s->c[o+j]?=some s):K l->Sk c o n K:=fun k=> .mk l h k
theorem QFx {p q:Prop} (h:p):q->p/\q:=fun k=>⟨h,k⟩
theorem zst {P Q:Prop} (k:Q) (h:Q->P:=by (first|((with_reducible apply vlk (α:=Nat));exact aNt)|((with_reducible apply sdd);kernel_rfl)|(apply sdk;exact aSd)|((with_reducible apply vlk (α:=Int));exact aAr)|((with_reducible first|apply vlk (α:=Bool)|apply vlk (α:=Nat)|apply vlk (α:=ByteArray)|apply gek (α:=Row)|apply gek (α:=SV)|apply gek (α:=AV));exact rfl)|(exact QFx rfl)|((with_reducible first|apply vlk (α:=List SV)|apply vlk (α:=Ef)|apply vlk (α:=TV)|apply gek (α:=List SV)|apply sgk|apply skk);exact aCl)|(apply sdk;exact aS2))):P:=h k
theorem zs0 {P Q:Prop} (k:Q) (h:Q->P:=by (first|((with_reducible apply sdd);kernel_rfl)|(apply sdk;exact aSd)|((with_reducible apply vlk (α:=Int));exact aAr)|((with_reducible first|apply vlk (α:=Bool)|apply vlk (α:=Nat)|apply vlk (α:=ByteArray)|apply gek (α:=Row)|apply gek (α:=SV)|apply gek (α:=AV));exact rfl)|(exact QFx rfl)|((with_reducible first|apply vlk (α:=List SV)|apply vlk (α:=Ef)|apply vlk (α:=TV)|apply gek (α:=List SV)|apply sgk|apply skk);exact aCl))):P:=h k
theorem zk0 {b c:Bool} {P:Prop} (hb:b=c) (h:¬ (b=c):=by (intro hb;(first|exact aKl hb|(simp only [d1,d2,beq_iff_eq,bne_iff_ne,d3,d4,d5,d6,Int.not_lt,Int.not_le,ge_iff_le,gt_iff_lt,ne_eq,d7] at hb;first|done|(exfalso;omega)));first|done|fail)):P:=absurd hb h
theorem zk1 {b c:Bool} {P:Prop} (hb:b=c) (h:¬ (b=c):=by (intro hb;(first|exact aKl hb|(exfalso;revert hb;simp;done)|(simp only [d1,d2,beq_iff_eq,bne_iff_ne,d3,d4,d5,d6,Int.not_lt,Int.not_le,ge_iff_le,gt_iff_lt,ne_eq,d7] at hb;first|done|(exfalso;omega)|(exfalso;simp_all;first|done|fail)));first|done|fail)):P:=absurd hb h
theorem zk2 {b c:Bool} {P:Prop} (hb:b=c) (h:¬ (b=c):=by (intro hb;(first|exact aK2 hb|(simp only [d1,d2,beq_iff_eq,bne_iff_ne,d3,d4,d5,d6,Int.not_lt,Int.not_le,ge_iff_le,gt_iff_lt,ne_eq,d7] at hb;first|done|(exfalso;omega)));first|done|fail)):P:=absurd hb h
theorem zk3 {b c:Bool} {P:Prop} (hb:b=c) (h:¬ (b=c):=by (intro hb;(first|(exfalso;simp only [decide_eq_true_eq,decide_eq_false_iff_not,beq_iff_eq,beq_eq_false_iff_ne,ne_eq] at hb;omega)|exact aK2 hb|(simp only [d1,d2,beq_iff_eq,bne_iff_ne,d3,d4,d5,d6,Int.not_lt,Int.not_le,ge_iff_le,gt_iff_lt,ne_eq,d7] at hb;first|done|(exfalso;omega)));first|done|fail)):P:=absurd hb h
theorem zk4 {b c:Bool} {P:Prop} (hb:b=c) (h:¬ (b=c):=by (intro hb;(first|(exfalso;simp only [decide_eq_true_eq,decide_eq_false_iff_not,beq_iff_eq,bne_iff_ne,beq_eq_false_iff_ne,bne_eq_false_iff_eq,ne_eq,Int.not_lt,Int.not_le,Classical.not_not] at hb;omega)|(exfalso;simp at hb;first|done|fail));first|done|fail)):P:=absurd hb h
theorem zn0 {b c:Bool} {Q:Prop} (hb:b=c) (h:b=c->Q:=by (intro hb;simp only [d1,d2,beq_iff_eq,bne_iff_ne,d3,d4,d5,d6,Int.not_lt,Int.not_le,ge_iff_le,gt_iff_lt,ne_eq,d7] at hb;exact hb)):Q:=h hb
theorem zn4 {b c:Bool} {Q:Prop} (hb:b=c) (h:b=c->Q:=by (intro hb;(simp only [decide_eq_true_eq,decide_eq_false_iff_not,beq_iff_eq,bne_iff_ne,beq_eq_false_iff_ne,bne_eq_false_iff_eq,ne_eq,Int.not_lt,Int.not_le,Classical.not_not] at hb);exact hb)):Q:=h hb
theorem zi0 {b c:Bool} {P:Prop} (h:¬ (b=c):=by (intro hb;(first|exact aKl hb|(simp only [d1,d2,beq_iff_eq,bne_iff_ne,d3,d4,d5,d6,Int.not_lt,Int.not_le,ge_iff_le,gt_iff_lt,ne_eq,d7] at hb;first|done|(exfalso;omega)));first|done|fail)):b=c->P:=fun e=>absurd e h
theorem zi1 {b c:Bool} {P:Prop} (h:¬ (b=c):=by (intro hb;(first|exact aKl hb|(exfalso;revert hb;simp;done)|(simp only [d1,d2,beq_iff_eq,bne_iff_ne,d3,d4,d5,d6,Int.not_lt,Int.not_le,ge_iff_le,gt_iff_lt,ne_eq,d7] at hb;first|done|(exfalso;omega)|(exfalso;simp_all;first|done|fail)));first|done|fail)):b=c->P:=fun e=>absurd e h
theorem zi2 {b c:Bool} {P:Prop} (h:¬ (b=c):=by (intro hb;(first|exact aK2 hb|(simp only [d1,d2,beq_iff_eq,bne_iff_ne,d3,d4,d5,d6,Int.not_lt,Int.not_le,ge_iff_le,gt_iff_lt,ne_eq,d7] at hb;first|done|(exfalso;omega)));first|done|fail)):b=c->P:=fun e=>absurd e h
theorem zi3 {b c:Bool} {P:Prop} (h:¬ (b=c):=by (intro hb;(first|(exfalso;simp only [decide_eq_true_eq,decide_eq_false_iff_not,beq_iff_eq,beq_eq_false_iff_ne,ne_eq] at hb;omega)|exact aK2 hb|(simp only [d1,d2,beq_iff_eq,bne_iff_ne,d3,d4,d5,d6,Int.not_lt,Int.not_le,ge_iff_le,gt_iff_lt,ne_eq,d7] at hb;first|done|(exfalso;omega)));first|done|fail)):b=c->P:=fun e=>absurd e h
theorem zi4 {b c:Bool} {P:Prop} (h:¬ (b=c):=by (intro hb;(first|(exfalso;simp only [decide_eq_true_eq,decide_eq_false_iff_not,beq_iff_eq,bne_iff_ne,beq_eq_false_iff_ne,bne_eq_false_iff_eq,ne_eq,Int.not_lt,Int.not_le,Classical.not_not] at hb;omega)|(exfalso;simp at hb;first|done|fail));first|done|fail)):b=c->P:=fun e=>absurd e h
theorem zj0 {b c:Bool} {P Q:Prop} (k:Q->P) (h:b=c->Q:=by first|(intro hb;simp only [d1,d2,beq_iff_eq,bne_iff_ne,d3,d4,d5,d6,Int.not_lt,Int.not_le,ge_iff_le,gt_iff_lt,ne_eq,d7] at hb;exact hb)|exact id):b=c->P:=fun e=>k (h e)
theorem zj4 {b c:Bool} {P Q:Prop} (k:Q->P) (h:b=c->Q:=by first|(intro hb;(simp only [decide_eq_true_eq,decide_eq_false_iff_not,beq_iff_eq,bne_iff_ne,beq_eq_false_iff_ne,bne_eq_false_iff_eq,ne_eq,Int.not_lt,Int.not_le,Classical.not_not] at hb);exact hb)|exact id):b=c->P:=fun e=>k (h e)
theorem zv {e z:Int} {K:Int->Prop} (h:e=z) (k:K z):Vl e K:= .mk z h k
theorem zbx {b:Bool} {A B:Prop} (ka:b=true->A) (kb:b=false->B):Br b A B:= .mk ka kb
theorem zgx {b v w:Bool} {A B:Prop} (ka:b=v->A) (kb:b=w->B):Gd b v w A B:= .mk ka kb
theorem zbb {P A B:Prop} (ka:A) (kb:B) (h:A->B->P:=by first|exact zbx|exact zgx):P:=h ka kb
theorem zca {α:Type _} {a:α} {l r:List α}:(a::l)++r=a::(l++r):=rfl
theorem zna {α:Type _} (l:List α): []++l=l:=rfl
theorem zde {p:Prop} [Decidable p]:(decide p=true)=p:=decide_eq_true_eq
theorem zgg {α:Type _} {l:List α} {i:Nat} (h:i<l.length):l[i]?=some l[i]:=List.getElem?_eq_getElem h
theorem zgs {α:Type _} {l:List α} {i:Nat} {a:α}:l[i]?=some a↔∃ h:i<l.length,l[i]=a:=List.getElem?_eq_some_iff
theorem zba (a b:Bool):((a&&b)=true)=(a=true/\b=true):=Bool.and_eq_true a b
theorem zdz {α:Type _} {x:α} {l:List α} {d:α}:(x::l).getD 0 d=x:=rfl
theorem zds {α:Type _} {x:α} {l:List α} {n:Nat} {d:α}:(x::l).getD (n+1) d=l.getD n d:=rfl
theorem zdt {p:Prop} [h:Decidable p]:p->decide p=true:=decide_eq_true
theorem zdf {p:Prop} [h:Decidable p]:¬ p->decide p=false:=decide_eq_false
theorem zbq {n m:Nat}:Nat.beq n m=true->n=m:=Nat.eq_of_beq_eq_true
theorem zgr {α:Type _} {l r:List α} {i:Nat} (h:l.length<=i):(l++r)[i]?=r[i-l.length]?:=List.getElem?_append_right h
theorem zgl {α:Type _} {l r:List α} {i:Nat} (h:i<l.length):(l++r)[i]?=l[i]?:=List.getElem?_append_left h
theorem zbi {a b:Bool}:a=b↔(a=true↔b=true):=Bool.eq_iff_iff
theorem zgd {α:Type _} {l:List α} {i:Nat} {a:α}:l.getD i a=l[i]?.getD a:=List.getD_eq_getElem?_getD
theorem zgm {α:Type _} {β:Type _} {f:α->β} {l:List α} {i:Nat}:(l.map f)[i]?=Option.map f l[i]?:=List.getElem?_map
theorem zbf (b:Bool):(false&&b)=false:=rfl
theorem zla {α:Type _} {l r:List α}:(l++r).length=l.length+r.length:=List.length_append
abbrev ZL (l:List Nat):Prop:=∀ y∈l,y<4294967296
abbrev ZU (a:Nat):Prop:=a<4294967296
abbrev FN (f:FuncId) (a:List AV) (H:List Row) (Q:Res->Prop):Prop:=Fn Tryz.prog f a H Q
theorem zN {c:Prop} {h:Decidable c} (n:¬c) {α:Sort _} {t e:α}:ite c t e=e:=if_neg n
theorem zP {c:Prop} {h:Decidable c} (n:c) {α:Sort _} {t e:α}:ite c t e=t:=if_pos n
theorem zq0 {P Q:Prop} (k:Q) (h:Q->P:=by (with_reducible apply vlk (α:=List SV));(with_reducible refine QGy ?_);exact rfl):P:=h k
theorem zq1 {P Q:Prop} (k:Q) (h:Q->P:=by apply sgk;first|exact Qa7 CC gT|exact Qa7 C3 gC):P:=h k
theorem zq2 {P Q:Prop} (k:Q) (h:Q->P:=by with_reducible first|exact vlk p1|exact vlk p2|exact vlk p3|exact vlk p4|exact vlk p5):P:=h k
theorem zq3 {P Q:Prop} (k:Q) (h:Q->P:=by (with_reducible apply vlk (α:=List SV));(with_reducible refine QCR ?_);exact rfl):P:=h k
theorem zq4 {P Q:Prop} (k:Q) (h:Q->P:=by (with_reducible apply vlk (α:=List SV));exact fH _ (by first|rfl|assumption)):P:=h k
theorem zq5 {P Q:Prop} (k:Q) (h:Q->P:=by apply sdk;first|exact ⟨jC,yE,rfl,(by show 0+C3.length<=25;omega)⟩|exact ⟨hl2,jA,rfl,(by show 0+C2.length<=CC.length;omega)⟩|(refine ⟨rfl,rfl,rfl,?_⟩;show 16+1<=C2.length;omega)|(show (0:Int)<=A/\(A:Int)<16;omega)|(show (0:Int)<=B/\(B:Int)<16;omega)):P:=h k
theorem zq6 {P Q:Prop} (k:Q) (h:Q->P:=by (with_reducible apply vlk (α:=Nat));with_reducible exact x1):P:=h k
theorem zq7 {P Q:Prop} (k:Q) (h:Q->P:=by (with_reducible apply vlk (α:=List SV));with_reducible exact fE):P:=h k
theorem zq8 {P Q:Prop} (k:Q) (h:Q->P:=by apply sdk;first|exact ⟨gT,qN,rfl,(by show 0+CC.length<=25;omega)⟩|exact ⟨gC,gS,rfl,(by show 0+C3.length<=25;omega)⟩|exact ⟨gT,qN,rfl,(by show 0+CC.length<=C3.length;omega)⟩|exact ⟨gC,gS,rfl,(by show 0+C3.length<=CC.length;omega)⟩|(show (0:Int)<=A/\(A:Int)<16;omega)|(show (0:Int)<=B/\(B:Int)<16;omega)|(refine ⟨rfl,rfl,rfl,?_⟩;show 0+16+1<=CC.length;omega)|(refine ⟨rfl,rfl,rfl,?_⟩;show 0+16+1<=C3.length;omega)):P:=h k
theorem zq9 {P Q:Prop} (k:Q) (h:Q->P:=by apply sdk;first|exact ⟨gC,gS,rfl,(by show 0+C3.length<=25;omega)⟩|(show (0:Int)<=A/\(A:Int)<16;omega)|(show (0:Int)<=B/\(B:Int)<16;omega)|(refine ⟨rfl,rfl,rfl,?_⟩;show 0+16+1<=CC.length;omega)):P:=h k
theorem QAL {P Q:Prop} (k:Q) (h:Q->P:=by apply sdk;first|omega|(show (0:Int)<=_/\_<_;omega)|exact ⟨rfl,rfl,rfl,Nat.le_trans fV (Nat.le_of_ble_eq_true rfl)⟩):P:=h k
theorem QHb {P Q:Prop} (k:Q) (h:Q->P:=by apply sdk;first|exact ⟨gC,gS,rfl,(by show 0+C3.length<=25;omega)⟩|exact ⟨qM,jP,rfl,(by show 0+C2.length<=CC.length;omega)⟩|(show (0:Int)<=B/\(B:Int)<16;omega)|(refine ⟨rfl,rfl,rfl,?_⟩;show 0+16+1<=C2.length;omega)):P:=h k
theorem Qwt {P Q:Prop} (k:Q) (h:Q->P:=by apply sdk;first|omega|exact ⟨rfl,rfl,rfl,Nat.le_trans fV (Nat.le_of_ble_eq_true rfl)⟩):P:=h k
theorem QDr {P Q:Prop} (k:Q) (h:Q->P:=by (with_reducible apply vlk (α:=List SV));first|exact qZ|exact wQ _ (by first|rfl|assumption)|exact fH _ (by first|rfl|assumption)):P:=h k
theorem Qm7 {P Q:Prop} (k:Q) (h:Q->P:=by (with_reducible apply gek (α:=SV));exact g0):P:=h k
theorem Qwu {P Q:Prop} (k:Q) (h:Q->P:=by apply sdk;exact ⟨gC,gS,rfl,(by show 0+C3.length<=25;omega)⟩):P:=h k
theorem QfL {P Q:Prop} (k:Q) (h:Q->P:=by apply sgk;exact seg):P:=h k
theorem Qew {P Q:Prop} (k:Q) (h:Q->P:=by apply sdk;omega):P:=h k
theorem QDs {P Q:Prop} (k:Q) (h:Q->P:=by with_reducible first|exact vlk p1|exact vlk p2|exact vlk p3|exact vlk p4|exact vlk p5|exact vlk p6):P:=h k
theorem QhW {P Q:Prop} (k:Q) (h:Q->P:=by with_reducible exact vlk q2):P:=h k
theorem QFb {P Q:Prop} (k:Q) (h:Q->P:=by (with_reducible apply vlk (α:=List SV));first|exact WX _ (by first|rfl|assumption)|exact fH _ (by first|rfl|assumption)):P:=h k
theorem QHY {P Q:Prop} (k:Q) (h:Q->P:=by apply sdk;first|exact ⟨gC,gS,rfl,(by show 0+C3.length<=25;omega)⟩|(show (0:Int)<=B/\(B:Int)<16;omega)):P:=h k
theorem Qwv {P Q:Prop} (k:Q) (h:Q->P:=by (with_reducible apply vlk (α:=Nat));with_reducible exact ix1):P:=h k
theorem QHZ {P Q:Prop} (k:Q) (h:Q->P:=by apply sdk;first|exact ⟨jC,yE,rfl,(by show 0+C3.length<=25;omega)⟩|(refine ⟨rfl,rfl,rfl,?_⟩;show 16+1<=CC.length;omega)|(show (0:Int)<=A/\(A:Int)<16;omega)|(show (0:Int)<=B/\(B:Int)<16;omega)):P:=h k
theorem Qu8 {P Q:Prop} (k:Q) (h:Q->P:=by (with_reducible apply gek (α:=SV));exact HG):P:=h k
theorem QDt {P Q:Prop} (k:Q) (h:Q->P:=by (with_reducible apply vlk (α:=List SV));first|exact wN|exact qZ|exact yJ _ rfl):P:=h k
theorem QAM {P Q:Prop} (k:Q) (h:Q->P:=by apply sdk;exact ⟨rfl,rfl,yO,bnd (by omega) (by decide),by omega⟩):P:=h k
theorem QsU {P Q:Prop} (k:Q) (h:Q->P:=by with_reducible exact vlk FQ):P:=h k
theorem Qww {P Q:Prop} (k:Q) (h:Q->P:=by (with_reducible apply vlk (α:=Nat));exact ldi a):P:=h k
theorem QH0 {P Q:Prop} (k:Q) (h:Q->P:=by apply sdk;first|exact ⟨gC,gS,rfl,(by show 0+C3.length<=25;omega)⟩|exact ⟨gC,gS,rfl,(by show 0+C3.length<=CC.length;omega)⟩|exact ⟨el,ek,rfl,(by show 0+EE.length<=4;omega)⟩):P:=h k
theorem QzU {P Q:Prop} (k:Q) (h:Q->P:=by apply sgk;first|exact Qa7 C3 jC|exact Qa7 CC hl):P:=h k
theorem QAN {P Q:Prop} (k:Q) (h:Q->P:=by with_reducible first|exact vlk e1|exact vlk e2|exact vlk e3):P:=h k
theorem QFc {P Q:Prop} (k:Q) (h:Q->P:=by (with_reducible apply vlk (α:=List SV));first|exact qZ|exact fH _ (by first|rfl|assumption)):P:=h k
theorem QHc {P Q:Prop} (k:Q) (h:Q->P:=by with_reducible exact vlk e1):P:=h k
theorem QHd {P Q:Prop} (k:Q) (h:Q->P:=by (with_reducible apply vlk (α:=Nat));first|(with_reducible exact rix ma)|(with_reducible exact rix mb)|(with_reducible exact rix mc)):P:=h k
theorem QFd {P Q:Prop} (k:Q) (h:Q->P:=by (with_reducible apply vlk (α:=List SV));exact Qby (by rw [KR];rfl)):P:=h k
theorem QDu {P Q:Prop} (k:Q) (h:Q->P:=by (with_reducible apply gek (α:=SV));first|exact rA|exact rB|exact gp):P:=h k
theorem QHe {P Q:Prop} (k:Q) (h:Q->P:=by apply sdk;exact ⟨rfl,rfl,rfl,(by show 0+_<=Z.length;rw [KR];exact Nat.le_refl 49)⟩):P:=h k
theorem QzV {P Q:Prop} (k:Q) (h:Q->P:=by with_reducible first|exact vlk qm|exact vlk q4):P:=h k
theorem QFe {P Q:Prop} (k:Q) (h:Q->P:=by apply sdk;first|omega|(refine ⟨rfl,rfl,rfl,?_⟩;show _<=XV.length;simp;omega)):P:=h k
theorem QHf {P Q:Prop} (k:Q) (h:Q->P:=by (with_reducible apply gek (α:=SV));with_reducible first|exact ra|exact rb|exact rc|exact wa|exact wb|exact wc):P:=h k
theorem QAO {P Q:Prop} (k:Q) (h:Q->P:=by (with_reducible apply gek (α:=SV));exact gpCC):P:=h k
theorem QzW {P Q:Prop} (k:Q) (h:Q->P:=by (with_reducible apply vlk (α:=Nat));exact YR):P:=h k
theorem QH1 {P Q:Prop} (k:Q) (h:Q->P:=by with_reducible first|exact vlk q1|exact vlk yA|exact vlk HV|exact vlk uZ|exact vlk h8|exact vlk wi4|exact vlk e1|exact vlk e2|exact vlk GZ):P:=h k
theorem QFf {P Q:Prop} (k:Q) (h:Q->P:=by with_reducible first|exact vlk qm|exact vlk q4|exact vlk q4m|exact vlk qT):P:=h k
theorem QDv {P Q:Prop} (k:Q) (h:Q->P:=by (with_reducible apply vlk (α:=List SV));with_reducible exact jH):P:=h k
theorem QFg {P Q:Prop} (k:Q) (h:Q->P:=by (with_reducible apply vlk (α:=List SV));exact Qby (zbq rfl)):P:=h k
theorem QDw {P Q:Prop} (k:Q) (h:Q->P:=by (with_reducible apply vlk (α:=List SV));exact jH):P:=h k
theorem QDx {P Q:Prop} (k:Q) (h:Q->P:=by (with_reducible apply vlk (α:=Bool));with_reducible exact qH):P:=h k
theorem QFh {P Q:Prop} (k:Q) (h:Q->P:=by apply sgk;first|exact Qa7 CC gT|exact Qa7 C3 gC|exact Qa7 EE el):P:=h k
theorem QH2 {P Q:Prop} (k:Q) (h:Q->P:=by apply sdk;first|exact ⟨rfl,rfl,yM,bnd (by omega) (by decide),by omega⟩|exact ⟨rfl,rfl,rfl,(by show 0+_<=Z.length;rw [KR];exact Nat.le_refl 49)⟩):P:=h k
theorem QFi {P Q:Prop} (k:Q) (h:Q->P:=by (with_reducible apply gek (α:=SV));first|exact rA|exact rB|exact gpCC):P:=h k
theorem QH3 {P Q:Prop} (k:Q) (h:Q->P:=by (with_reducible apply vlk (α:=Int));first|exact QFv _ fX|exact QGB _ _|exact QGD _ _|exact QGx _ _|exact QbX _ ha|exact QbX _ fX):P:=h k
theorem QJC {P Q:Prop} (k:Q) (h:Q->P:=by apply sdk;first|exact ⟨gC,gS,rfl,(by show 0+C3.length<=25;omega)⟩|exact ⟨gC,gS,rfl,(by show 0+C3.length<=CC.length;omega)⟩):P:=h k
theorem QH4 {P Q:Prop} (k:Q) (h:Q->P:=by apply sdk;refine ⟨rfl,rfl,?_,?_,?_⟩;(focus (show RR.length=R.length*6;omega));(focus (show (R.length+1)*48<=_;omega));(focus omega)):P:=h k
theorem QH5 {P Q:Prop} (k:Q) (h:Q->P:=by apply sdk;refine ⟨rfl,rfl,?_,?_,?_⟩;(focus (show RR.length=R.length*4;omega));(focus (show (R.length+1)*12<=_;omega));(focus omega)):P:=h k
theorem QAP {P Q:Prop} (k:Q) (h:Q->P:=by (with_reducible apply gek (α:=SV));exact hg):P:=h k
theorem QHg {P Q:Prop} (k:Q) (h:Q->P:=by (with_reducible apply gek (α:=SV));first|exact rA|exact rB|exact rC|exact gp|exact gp2):P:=h k
theorem QH6 {P Q:Prop} (k:Q) (h:Q->P:=by (with_reducible apply vlk (α:=List SV));first|exact qZ|exact fH _ (by first|rfl|assumption)|exact wQ _ (by first|rfl|assumption)):P:=h k
theorem QH7 {P Q:Prop} (k:Q) (h:Q->P:=by apply sdk;first|exact ⟨gC,gS,rfl,(by show 0+C3.length<=25;omega)⟩|exact ⟨el,ek,rfl,(by show 0+EE.length<=4;omega)⟩):P:=h k
theorem QFj {P Q:Prop} (k:Q) (h:Q->P:=by with_reducible first|exact vlk qm|exact vlk q4|exact vlk qv):P:=h k
theorem QH8 {P Q:Prop} (k:Q) (h:Q->P:=by apply sdk;first|omega|(refine ⟨rfl,rfl,rfl,?_⟩;first|(show _<=X0.length;simp;omega)|(show _<=X1.length;simp;omega))):P:=h k
theorem QH9 {P Q:Prop} (k:Q) (h:Q->P:=by apply sdk;refine ⟨rfl,rfl,?_,?_,?_⟩;(focus (show RR.length=i*1;omega));(focus (show (i+1)*4<=_;omega));(focus omega)):P:=h k
theorem QFk {P Q:Prop} (k:Q) (h:Q->P:=by apply sdk;first|omega|(show (0:Int)<=_/\_<_;omega)):P:=h k
theorem QAQ {P Q:Prop} (k:Q) (h:Q->P:=by with_reducible exact vlk b1):P:=h k
theorem QHh {P Q:Prop} (k:Q) (h:Q->P:=by (with_reducible apply gek (α:=UInt8));exact Qfn (f:=ln8) (by kernel_rfl) i kk):P:=h k
theorem QDy {P Q:Prop} (k:Q) (h:Q->P:=by apply sdk;exact ⟨rfl,Int.natCast_nonneg _⟩):P:=h k
theorem QFl {P Q:Prop} (k:Q) (h:Q->P:=by (with_reducible apply vlk (α:=Nat));exact Nat.zero_add N):P:=h k
theorem QFm {P Q:Prop} (k:Q) (h:Q->P:=by (with_reducible apply gek (α:=SV));first|exact vR):P:=h k
theorem QFn {P Q:Prop} (k:Q) (h:Q->P:=by (with_reducible apply vlk (α:=List SV));exact fE):P:=h k
theorem QIa {P Q:Prop} (k:Q) (h:Q->P:=by (with_reducible apply vlk (α:=List SV));first|with_reducible exact hap|exact Qby (by rw [KR];rfl)):P:=h k
theorem QIb {P Q:Prop} (k:Q) (h:Q->P:=by (with_reducible apply vlk (α:=List SV));first|with_reducible exact a1|with_reducible exact a2|exact a2):P:=h k
theorem QHi {P Q:Prop} (k:Q) (h:Q->P:=by (with_reducible apply gek (α:=List SV));exact QBT rfl rfl rfl rfl):P:=h k
theorem QFo {P Q:Prop} (k:Q) (h:Q->P:=by with_reducible first|exact vlk q1|exact vlk q2):P:=h k
theorem QIc {P Q:Prop} (k:Q) (h:Q->P:=by with_reducible first|exact vlk qm|exact vlk qv):P:=h k
theorem QFp {P Q:Prop} (k:Q) (h:Q->P:=by with_reducible first|exact vlk q2|exact vlk q5):P:=h k
theorem QHj {P Q:Prop} (k:Q) (h:Q->P:=by with_reducible first|exact vlk q1|exact vlk q2|exact vlk q3):P:=h k
theorem QHk {P Q:Prop} (k:Q) (h:Q->P:=by with_reducible first|exact vlk u1|exact vlk u2|exact vlk u3):P:=h k
theorem QHl {P Q:Prop} (k:Q) (h:Q->P:=by (with_reducible apply gek (α:=SV));first|exact vR|exact WG):P:=h k
theorem QHm {P Q:Prop} (k:Q) (h:Q->P:=by (with_reducible apply vlk (α:=Nat));with_reducible exact rix ma):P:=h k
theorem QId {P Q:Prop} (k:Q) (h:Q->P:=by (with_reducible apply gek (α:=SV));first|exact rA|exact rB|exact rC|exact gpCC|exact gpC3):P:=h k
theorem QFq {P Q:Prop} (k:Q) (h:Q->P:=by (with_reducible apply vlk (α:=Nat));exact x1):P:=h k
theorem QAR {P Q:Prop} (k:Q) (h:Q->P:=by apply sgk;exact Qa7 C UN):P:=h k
theorem QIe {P Q:Prop} (k:Q) (h:Q->P:=by (with_reducible apply gek (α:=SV));exact rB):P:=h k
theorem QIf {P Q:Prop} (k:Q) (h:Q->P:=by apply sdk;refine ⟨rfl,rfl,rfl,?_,?_⟩<;>first|omega|(show (0+N)*48<=_;omega)):P:=h k
theorem QIg {P Q:Prop} (k:Q) (h:Q->P:=by (with_reducible apply vlk (α:=List SV));(with_reducible refine GY _ ?_);(focus exact rfl)):P:=h k
theorem QIh {P Q:Prop} (k:Q) (h:Q->P:=by apply sdk;first|exact wD|exact ⟨hl,wD,rfl,by show 0+KN.length<=32;omega⟩):P:=h k
theorem QIi {P Q:Prop} (k:Q) (h:Q->P:=by with_reducible first|exact vlk q1|exact vlk yA|exact vlk HV|exact vlk wi4):P:=h k
theorem QAS {P Q:Prop} (k:Q) (h:Q->P:=by with_reducible exact vlk q1):P:=h k
theorem QIj {P Q:Prop} (k:Q) (h:Q->P:=by with_reducible first|exact vlk q2|exact vlk q3|exact vlk q4|exact vlk q5):P:=h k
theorem QIk {P Q:Prop} (k:Q) (h:Q->P:=by with_reducible first|exact vlk e0|exact vlk e1|exact vlk e2|exact vlk e3):P:=h k
theorem QIl {P Q:Prop} (k:Q) (h:Q->P:=by with_reducible first|exact vlk (QFy a)|exact vlk (QIx a)|exact vlk (QIy a)):P:=h k
theorem QHn {P Q:Prop} (k:Q) (h:Q->P:=by (with_reducible apply gek (α:=List Int));exact rfl):P:=h k
theorem QHo {P Q:Prop} (k:Q) (h:Q->P:=by (with_reducible apply gek (α:=List Int));exact ht):P:=h k
theorem QIm {P Q:Prop} (k:Q) (h:Q->P:=by (with_reducible apply vlk (α:=List SV));with_reducible exact List.append_nil OL):P:=h k
theorem QIn {P Q:Prop} (k:Q) (h:Q->P:=by (with_reducible apply vlk (α:=Nat));with_reducible first|exact x1|exact x2):P:=h k
theorem QIo {P Q:Prop} (k:Q) (h:Q->P:=by (with_reducible apply vlk (α:=Nat));with_reducible first|exact e3|exact e4):P:=h k
theorem QHp {P Q:Prop} (k:Q) (h:Q->P:=by with_reducible first|exact vlk a2|exact vlk an):P:=h k
theorem QHq {P Q:Prop} (k:Q) (h:Q->P:=by with_reducible first|exact vlk s1|exact vlk s2):P:=h k
theorem QHr {P Q:Prop} (k:Q) (h:Q->P:=by with_reducible first|exact vlk m0|exact vlk b4):P:=h k
theorem QDp {P Q:Prop} (k:Q) (h:Q->P:=by (with_reducible apply gek (α:=SV));first|exact vR|exact WG|exact KX):P:=h k
theorem QDq {P Q:Prop} (k:Q) (h:Q->P:=by (with_reducible apply vlk (α:=List SV));first|exact qZ|exact yJ _ rfl):P:=h k
theorem QzT {P Q:Prop} (k:Q) (h:Q->P:=by (with_reducible apply gek (α:=SV));exact g1):P:=h k
theorem QcO {P:Prop} (h:P:=by unfold exX;rw [zN (by omega),zN (by omega),zN (by omega),zN (by omega),zN (by omega)]):P:=h
theorem QaS {P:Prop} (h:P:=by rw [Qb4 (by omega) (by omega)];omega):P:=h
theorem Qdh {P:Prop} (h:P:=by unfold exP;rw [zN (by omega),zN (by omega),zN (by omega),zN (by omega),zN (by omega)]):P:=h
theorem Qd1 {P:Prop} (h:P:=by unfold exE;rw [zN (by omega),zN (by omega),zN (by omega),zN (by omega),zN (by omega)]):P:=h
theorem Qci {P:Prop} (h:P:=by unfold exC;rw [zN (by omega),zN (by omega),zN (by omega)]):P:=h
theorem QfT {P:Prop} (h:P:=by first|exact QcN (Qcx (QaK rfl))|exact QcN (Qcx (Qse rfl))|exact QcN (Qcx (QcC rfl))):P:=h
theorem QsL {P:Prop} (h:P:=by (try (conv=>whnf));first|(apply Fin.mv (m:= [(0,some 0),(1,some 1),(2,some 2),(3,some 3),(4,some 4),(5,some 1),(6,some 2),(7,some 3),(8,some 4)]);(focus exact rfl);(all_goals ((try (show QcE _ _ _ [] _));first|exact aFi|exact rfl)))):P:=h
theorem QD1 {P:Prop} (h:P:=by (try (conv=>whnf));first|(exact Qb9)|(exfalso;simp only [zde,decide_eq_false_iff_not,beq_iff_eq,beq_eq_false_iff_ne,ne_eq] at *;omega)):P:=h
theorem Qet {P:Prop} (h:P:=by (try (conv=>whnf));first|(exact Qb9)):P:=h
theorem Qz3 {P:Prop} (h:P:=by (try (conv=>whnf));first|(apply Fin.mv (m:= [(0,some 0),(1,some 1),(2,some 2),(3,some 3),(4,some 4),(5,some 1),(6,some 2),(7,some 3),(8,some 4)]);(focus exact rfl);(all_goals ((try (show QcE _ _ _ [] _));first|exact aFi|exact rfl)))|(exfalso;simp at hb;omega)):P:=h
theorem Qz4 {P:Prop} (h:P:=by (try (conv=>whnf));first|(exfalso;simp at hb;omega)|(apply Fin.mv (m:= [(0,some 0),(1,some 1),(2,some 2),(3,some 3),(4,some 4),(5,some 1),(6,some 2),(7,some 3),(8,some 4)]);(focus exact rfl);(all_goals ((try (show QcE _ _ _ [] _));first|exact aFi|exact rfl)))):P:=h
theorem Qz5 {P:Prop} (h:P:=by (try (conv=>whnf));first|(apply Fin.mv (m:= [(0,some 0),(1,some 1),(2,some 2),(3,some 3),(4,some 4),(5,some 132160),(6,some 132161),(7,some 132162),(8,some 132163)]);(focus exact rfl);(all_goals ((try (show QcE _ _ _ [] _));first|exact aFi|exact rfl)))):P:=h
theorem QdK {P:Prop} (h:P:=by rw [Qws (by omega) (by omega)];omega):P:=h
theorem Qva {P:Prop} (h:P:=by (try (conv=>whnf));first|(exact Qdg)|(exfalso;simp only [zde,decide_eq_false_iff_not,beq_iff_eq,beq_eq_false_iff_ne,ne_eq] at *;omega)):P:=h
theorem QfU {P:Prop} (h:P:=by rw [Int.tdiv_eq_ediv_of_nonneg (by omega)];rfl):P:=h
theorem QD2 {P:Prop} (h:P:=by (try (conv=>whnf));first|(refine Qjt jI ?_;(apply Fin.mk (m:= [(0,some 0),(1,some 3),(2,some 4)]);(focus exact rfl);(all_goals ((try (show HlS _ _ [] _));first|(exact aFi)|exact rfl))))):P:=h
theorem Qcy {P:Prop} (h:P:=by (try (conv=>whnf));first|(exact QbJ)):P:=h
theorem QD3 {P:Prop} (h:P:=by (try (conv=>whnf));first|(apply Fin.mv (m:= [(0,some 0),(1,some 1),(2,some 2),(3,some 3),(4,some 4),(5,some 327808),(6,some 327809),(7,some 327810),(8,some 327811)]);(focus exact rfl);(all_goals ((try (show QcE _ _ _ [] _));first|exact aFi|exact rfl)))):P:=h
theorem QHt {P:Prop} (h:P:=by (try (conv=>whnf));first|(apply Fin.mv (m:= [(0,some 0),(1,some 1),(2,some 2),(3,some 3),(4,some 4),(5,some 5),(6,some 6),(7,some 7),(8,some 8),(9,some 9)]);(focus exact rfl);(all_goals ((try (show QcE _ _ _ [] _));first|exact aFi|exact rfl)))):P:=h
theorem Qfu {P:Prop} (h:P:=by rw [Qe7 (by omega) (by omega)];omega):P:=h
theorem QHu {P:Prop} (h:P:=by (try (conv=>whnf));first|(apply Fin.mv (m:= [(0,some 0),(1,some 1),(2,some 2),(3,some 3),(4,some 4),(5,some 5),(6,some 6),(7,some 7),(8,some 8)]);(focus exact rfl);(all_goals ((try (show QcE _ _ _ [] _));first|exact aFi|exact rfl)))):P:=h
theorem QHv {P:Prop} (h:P:=by (try (conv=>whnf));first|(exfalso;omega)|(exfalso;simp at hb;omega)|(exact zf_)):P:=h
theorem QHw {P:Prop} (h:P:=by (try (conv=>whnf));first|(exfalso;omega)|(exfalso;simp at hb;first|done|fail)|(refine hB _ ?_;(exact zwV [(0,some 0),(1,some 1),(2,some 2),(3,some 3),(4,some 4),(5,some 5),(6,some 6),(7,some 7),(8,some 8)]))):P:=h
theorem QD4 {P:Prop} (h:P:=by (try (conv=>whnf));first|(exfalso;omega)|(exfalso;simp at hb;first|done|fail)|(refine hR _ ?_;(exact zwV [(0,some 0),(1,some 1),(2,some 2),(3,some 3),(4,some 4),(5,some 5),(6,some 6),(7,some 7),(8,some 8)]))):P:=h
theorem Qeu {P:Prop} (h:P:=by unfold mpg;split<;>omega):P:=h
theorem QsM {P:Prop} (h:P:=by first|exact QcN (Qcx (QaK rfl))|exact QcN (Qcx (QcC rfl))):P:=h
theorem QHx {P:Prop} (h:P:=by (try (conv=>whnf));first|(apply Fin.mk (m:= [(0,some 0),(1,some 1),(2,some 2),(3,some 5),(4,some 6)]);(focus exact rfl);(all_goals ((try (show HlS _ _ [] _));first|(exact aFi)|exact rfl)))):P:=h
theorem Qku {P:Prop} (h:P:=by rw [Int.tmod_eq_emod_of_nonneg (by omega)];rfl):P:=h
theorem Qhr {P:Prop} (h:P:=by (try (conv=>whnf));first|exact QbT rfl gL rfl rfl):P:=h
theorem QHy {P:Prop} (h:P:=by (try (conv=>whnf));first|(refine QcJ ?_ ?_;(focus (exact zf_));rw [<- hB];first|(rw [zbi];simp;first|done|fail)|(rw [zbi];simp;omega)|(rw [zbi];simp;grind))):P:=h
theorem Qvb {P:Prop} (h:P:=by unfold exX;rw [zN (by omega),zN (by omega),zN (by omega),zP (by omega)]):P:=h
theorem Qok {P:Prop} (h:P:=by rw [QmY (by omega),Qe7 (by omega) (by omega)];omega):P:=h
theorem Qz6 {P:Prop} (h:P:=by first|exact QcN (Qcx (QaK rfl))|exact QcN (Qcx (QeZ rfl))|exact QcN (Qcx (QcC rfl))):P:=h
theorem QD5 {P:Prop} (h:P:=by (try (conv=>whnf));first|(apply Fin.mk (m:= [(0,some 0),(1,some 3),(2,some 4)]);(focus exact rfl);(all_goals ((try (show HlS _ _ [] _));first|(exact aFi)|exact rfl)))):P:=h
theorem QiV {P:Prop} (h:P:=by (try (conv=>whnf));first|(exact zf_)):P:=h
theorem Qhs {P:Prop} (h:P:=by (try (conv=>whnf));first|(exact Qdg)):P:=h
theorem Qht {P:Prop} (h:P:=by rw [Qb4 (by omega) (by omega)]):P:=h
theorem QD6 {P:Prop} (h:P:=by (try (conv=>whnf));first|(refine hB _ ?_;(exact zwV [(0,some 0),(1,some 1),(2,some 2),(3,some 3),(4,some 4),(5,some 5),(6,some 6),(7,some 7),(8,some 8)]))):P:=h
theorem Qol {P:Prop} (h:P:=by unfold szO;split;exact .inr rfl;exact .inl rfl):P:=h
theorem Qom {P:Prop} (h:P:=by show 0+((i:Nat):Int).toNat * 4=_;omega):P:=h
theorem QHz {P:Prop} (h:P:=by (try (conv=>whnf));first|(exact QbJ)|(exfalso;simp only [zde,decide_eq_false_iff_not,beq_iff_eq,beq_eq_false_iff_ne,ne_eq] at *;omega)):P:=h
theorem Qvc {P:Prop} (h:P:=by rw [zbi];simp only [zde,beq_iff_eq];omega):P:=h
theorem Qkv {P:Prop} (h:P:=by rw [List.length_set];exact hE.M.x):P:=h
theorem QsN {P:Prop} (h:P:=by rw [<- ZK];exact zdf (by omega)):P:=h
theorem QD7 {P:Prop} (h:P:=by first|exact QcN (Qcx (QaK rfl))|exact QcN (Qcx (QcC rfl))|exact QcN (Qcx (QzA rfl))):P:=h
theorem Qkw {P:Prop} (h:P:=by unfold QaD;rw [zN vL]):P:=h
theorem Qkx {P:Prop} (h:P:=by unfold QaD;rw [zP vL]):P:=h
theorem QD8 {P:Prop} (h:P:=by unfold exX;rw [zN (by omega),zN (by omega),zN (by omega),zN (by omega),zP (by omega)]):P:=h
theorem QD9 {P:Prop} (h:P:=by unfold exP;rw [zN (by omega),zN (by omega),zN (by omega),zN (by omega),zP (by omega)]):P:=h
theorem QEa {P:Prop} (h:P:=by unfold exE;rw [zN (by omega),zN (by omega),zN (by omega),zN (by omega),zP (by omega)]):P:=h
theorem Ql0 {P:Prop} (h:P:=by rw [Qws (by omega) (by omega)]):P:=h
theorem QEb {P:Prop} (h:P:=by (try (conv=>whnf));first|(refine hN _ ?_;(exact zwL [(0,some 0),(1,some 1),(2,some 2),(3,some 3),(4,some 131200)]))):P:=h
theorem QEc {P:Prop} (h:P:=by unfold rsK;rw [eO,zN (c:=QdP ac=false\/szB sz=false) (by rw [k1,k2];simp),zP gY]):P:=h
theorem QHA {P:Prop} (h:P:=by (try (conv=>whnf));first|(refine QcJ ?_ ?_;(focus (exact zf_));unfold Qd7;rw [zbi];simp;try omega)):P:=h
theorem Qvd {P:Prop} (h:P:=by unfold Qa9;rw [Qe7 (by omega) (by omega)];omega):P:=h
theorem Qve {P:Prop} (h:P:=by (try (conv=>whnf));first|(exact Qb9)|(exfalso;simp at hb;omega)):P:=h
theorem QEd {P:Prop} (h:P:=by (try (conv=>whnf));first|(exfalso;simp at hb;omega)|(exact Qb9)):P:=h
theorem Qvf {P:Prop} (h:P:=by simp only [Int.toNat_natCast,IntKind.bits];omega):P:=h
theorem Qvg {P:Prop} (h:P:=by rw [Int.tmod_eq_emod_of_nonneg (by omega)];omega):P:=h
theorem Qvh {P:Prop} (h:P:=by show 0+((j:Nat):Int).toNat * 6=_;omega):P:=h
theorem Qz7 {P:Prop} (h:P:=by show 0+(((Qa9 r va:Nat):Int) / 4).toNat * 1=_;omega):P:=h
theorem QEe {P:Prop} (h:P:=by unfold exP;rw [zN (by omega),zN (by omega),zN (by omega),zP (by omega)]):P:=h
theorem QEf {P:Prop} (h:P:=by unfold exE;rw [zN (by omega),zN (by omega),zN (by omega),zP (by omega)]):P:=h
theorem Qz8 {P:Prop} (h:P:=by rw [<- hN];exact (zgs.1 he).1):P:=h
theorem Qvi {P:Prop} (h:P:=by unfold exP;rw [zP ho.1,ho.2];rfl):P:=h
theorem Qvj {P:Prop} (h:P:=by rw [k.1,Qb4 (by omega) (by omega)]):P:=h
theorem Qz9 {P:Prop} (h:P:=by rw [<- wR];exact Qim .i64 ps i (by omega)):P:=h
theorem QAa {P:Prop} (h:P:=by show 0+((i:Nat):Int).toNat * 6=_;omega):P:=h
theorem QAb {P:Prop} (h:P:=by show 0+((i:Nat):Int).toNat * 1=_;omega):P:=h
theorem QAc {P:Prop} (h:P:=by show 0+((i:Nat):Int).toNat * 3=_;omega):P:=h
theorem QAd {P:Prop} (h:P:=by show 0+((j:Nat):Int).toNat * 1=_;omega):P:=h
theorem QAe {P:Prop} (h:P:=by rw [dv2];exact Qe7 (by omega) (by omega)):P:=h
theorem QfV {P:Prop} (h:P:=by (repeat' ((conv=>whnf);first|exact zi0|refine zj0 fun hb=>?_|refine QHc ?_|(refine Qag (f:=58) cp [⟨0,0⟩] [(0,⟨false,1,XX⟩)] rfl ⟨rfl,trivial⟩ ⟨rfl,Qap gL,trivial⟩ ⟨rfl,Qbp⟩ ?_)|refine zs0 ?_|refine zbb ?_ ?_));all_goals exact Qb9):P:=h
theorem Qdi {P:Prop} (h:P:=by (repeat' ((conv=>whnf);first|exact zi2|refine zj0 fun hb=>?_|refine zse ?_|refine zbb ?_ ?_));all_goals exact Qet):P:=h
theorem Qfv {P:Prop} (h:P:=by (repeat' ((conv=>whnf);first|exact zi2|refine zj0 fun hb=>?_|refine zse ?_|refine zbb ?_ ?_));all_goals exact zF_):P:=h
theorem QEg {P:Prop} (h:P:=by (repeat' ((conv=>whnf);first|exact zi2|refine zj0 fun hb=>?_|(refine QaA cb ?_)|(refine zpu cm ?_)|(refine zpu cl ?_)|(refine Qag cw [⟨131200,0⟩,⟨131136,0⟩,⟨131137,0⟩] [(131200,⟨true,1,[.sl 131136 0 N,.sl 131137 0 N]⟩),(131136,⟨true,1,CK⟩),(131137,⟨true,3,CV⟩)] rfl ⟨rfl,rfl,rfl,trivial⟩ ⟨rfl,QmM rfl,rfl,Qap (by assumption),rfl,Qap (by assumption),trivial⟩ ⟨rfl,Qbp⟩ ?_)|(apply Sk.mk; . exact sk)|(apply Sd.mk; . first|omega)|refine QDw ?_|refine zse ?_|refine zbb ?_ ?_));all_goals exact QbJ):P:=h
theorem QiW {P:Prop} (h:P:=by (repeat' ((conv=>whnf);first|exact zi2|refine zj0 fun hb=>?_|refine zse ?_|refine zbb ?_ ?_));all_goals exact QiV):P:=h
theorem Qon {P:Prop} (h:P:=by (repeat' ((conv=>whnf);first|exact zi2|refine zj0 fun hb=>?_|(refine QaA q1 ?_)|refine zse ?_|refine zbb ?_ ?_));all_goals exact Qet):P:=h
theorem QAf {P:Prop} (h:P:=by (repeat' ((conv=>whnf);first|exact zi3|refine zj0 fun hb=>?_|refine zq0 ?_|refine zq3 ?_|refine QsU ?_|(refine QaA hc ?_)|(refine QaA q0 ?_)|(refine QaA q1 ?_)|(refine QaA q2 ?_)|refine zse ?_|refine zbb ?_ ?_));all_goals exact Qcy):P:=h
theorem Qoo {P:Prop} (h:P:=by (repeat' ((conv=>whnf);first|exact zi2|refine zj0 fun hb=>?_|refine zse ?_|refine zbb ?_ ?_));all_goals exact QHv):P:=h
theorem QEh {P:Prop} (h:P:=by (repeat' ((conv=>whnf);first|exact zi2|refine zj0 fun hb=>?_|refine Qwu ?_|refine zq4 ?_|refine zq1 ?_|refine QAO ?_|(refine Qhq hr ?_)|(refine QaA qJ ?_)|(refine zpu jO ?_)|(refine zpu gH ?_)|(refine Qhq jU ?_)|refine zse ?_|refine zbb ?_ ?_));all_goals exact QfR):P:=h
theorem QAg {P:Prop} (h:P:=by (repeat' ((conv=>whnf);first|exact zi3|refine zj0 fun hb=>?_|refine QAQ ?_|(refine QaA q0 ?_)|(refine QaA l2 ?_)|(refine zpu d2 ?_)|refine zse ?_|refine zbb ?_ ?_));all_goals exact QfR):P:=h
theorem QAh {P:Prop} (h:P:=by (repeat' ((conv=>whnf);first|exact zi3|refine zj0 fun hb=>?_|(refine QaA q0 ?_)|(refine Qhq q1 ?_)|refine zq3 ?_|refine QsU ?_|refine zse ?_|refine zbb ?_ ?_));all_goals exact Qhs):P:=h
theorem QsO {P:Prop} (h:P:=by (repeat' ((conv=>whnf);first|exact zi2|refine zj0 fun hb=>?_|refine zse ?_|refine zbb ?_ ?_));all_goals exact QD1):P:=h
theorem Qvk {P:Prop} (h:P:=by (repeat' ((conv=>whnf);first|exact zi2|refine zj0 fun hb=>?_|(refine zpu hg ?_)|refine zse ?_|refine zbb ?_ ?_));all_goals exact zF_):P:=h
theorem QEi {P:Prop} (h:P:=by (repeat' ((conv=>whnf);first|exact zi2|refine zj0 fun hb=>?_|refine QIc ?_|refine QHY ?_|refine zq4 ?_|refine zq1 ?_|refine QIe ?_|(refine QaA hr ?_)|(refine zpu WU ?_)|(refine zpu fW ?_)|refine zse ?_|refine zbb ?_ ?_));all_goals exact Qe2):P:=h
theorem QEj {P:Prop} (h:P:=by (repeat' ((conv=>whnf);first|exact zi2|refine zj0 fun hb=>?_|refine QJC ?_|refine zq4 ?_|refine zq1 ?_|(refine QaA hf ?_)|(refine zpu jO ?_)|(refine zpu gH ?_)|(refine QaA jU ?_)|refine zse ?_|refine zbb ?_ ?_));all_goals exact Qe2):P:=h
theorem QEk {P:Prop} (h:P:=by (repeat' ((conv=>whnf);first|exact zi2|refine zj0 fun hb=>?_|refine QIc ?_|refine QHY ?_|refine zq4 ?_|refine zq1 ?_|refine QIe ?_|(refine Qhq hr ?_)|(refine zpu fW ?_)|refine zse ?_|refine zbb ?_ ?_));all_goals exact QfR):P:=h
theorem QEl {P:Prop} (h:P:=by (repeat' ((conv=>whnf);first|exact zi2|refine zj0 fun hb=>?_|(with_reducible first|refine zv cv ?_|refine zv cf ?_)|(refine QaA q1 ?_)|(refine QaA q2 ?_)|(refine zpu q3 ?_)|refine zse ?_|refine zbb ?_ ?_));all_goals exact QHz):P:=h
theorem QAi {P:Prop} (h:P:=by (repeat' ((conv=>whnf);first|exact zi2|refine zj0 fun hb=>?_|refine zq0 ?_|(refine zpu q3 ?_)|refine zse ?_|refine zbb ?_ ?_));all_goals exact Qet):P:=h
theorem Qvl {P:Prop} (h:P:=by (repeat' ((conv=>whnf);first|exact zi2|refine zj0 fun hb=>?_|refine zse ?_|refine zbb ?_ ?_));all_goals exact Qdg):P:=h
theorem QEm {P:Prop} (h:P:=by (repeat' ((conv=>whnf);first|exact zi3|refine zj0 fun hb=>?_|refine QAQ ?_|(refine QaA q0 ?_)|(refine QaA l2 ?_)|(refine zpu z2 ?_)|refine zse ?_|refine zbb ?_ ?_));all_goals exact QfR):P:=h
theorem QEn {P:Prop} (h:P:=by (repeat' ((conv=>whnf);first|exact zi2|refine zj0 fun hb=>?_|(with_reducible refine zv cf ?_)|(refine QaA q1 ?_)|(refine QaA q2 ?_)|refine zse ?_|refine zbb ?_ ?_));all_goals exact Qcy):P:=h
theorem QAj {P:Prop} (h:P:=by (repeat' ((conv=>whnf);first|exact zi2|refine zj0 fun hb=>?_|refine zq0 ?_|refine zse ?_|refine zbb ?_ ?_));all_goals exact QEd):P:=h
theorem QEo {P:Prop} (h:P:=by (repeat' ((conv=>whnf);first|exact zi2|refine zj0 fun hb=>?_|(with_reducible refine zv b2 ?_)|(refine QaA he ?_)|refine zse ?_|refine zbb ?_ ?_));all_goals exact QfR):P:=h
theorem QAk {P:Prop} (h:P:=by (repeat' ((conv=>whnf);first|exact zi0|refine zj0 fun hb=>?_|refine zs0 ?_|refine zbb ?_ ?_));all_goals exact Qdg):P:=h
theorem QAl {P:Prop} (h:P:=by (repeat' ((conv=>whnf);first|exact zi2|refine zj0 fun hb=>?_|refine zse ?_|refine zbb ?_ ?_));all_goals exact Qhs):P:=h
theorem QEp {P:Prop} (h:P:=by (repeat' ((conv=>whnf);first|exact zi2|refine zj0 fun hb=>?_|(with_reducible refine zv qs ?_)|refine zse ?_|refine zbb ?_ ?_));all_goals exact zF_):P:=h
theorem QEq {P:Prop} (h:P:=by (repeat' ((conv=>whnf);first|exact zi4|refine zj4 fun hb=>?_|refine QFd ?_|refine QHe ?_|refine zse ?_|refine zbb ?_ ?_));all_goals exact QD2):P:=h
theorem QEr {P:Prop} (h:P:=by (repeat' ((conv=>whnf);first|exact zi3|refine zj0 fun hb=>?_|(refine QaA q0 ?_)|refine zse ?_|refine zbb ?_ ?_));all_goals exact QfR):P:=h
theorem QEs {P:Prop} (h:P:=by (repeat' ((conv=>whnf);first|exact zi2|refine zj0 fun hb=>?_|(refine zpu qP ?_)|refine zse ?_|refine zbb ?_ ?_));all_goals exact Qet):P:=h
theorem QEt {P:Prop} (h:P:=by (repeat' ((conv=>whnf);first|exact zi3|refine zj0 fun hb=>?_|(refine zpu q3 ?_)|refine zse ?_|refine zbb ?_ ?_));all_goals exact Qhs):P:=h
theorem QEu {P:Prop} (h:P:=by (repeat' ((conv=>whnf);first|exact zi2|refine zj0 fun hb=>?_|refine zq0 ?_|refine zse ?_|refine zbb ?_ ?_));all_goals exact Qet):P:=h
theorem QEv {P:Prop} (h:P:=by (repeat' ((conv=>whnf);first|exact zi0|refine zj0 fun hb=>?_|refine zs0 ?_|refine zbb ?_ ?_));all_goals exact Qb9):P:=h
theorem QEw {P:Prop} (h:P:=by (repeat' ((conv=>whnf);first|exact zi0|refine zj0 fun hb=>?_|refine zs0 ?_|refine zbb ?_ ?_));all_goals exact QHx):P:=h
theorem QEx {P:Prop} (h:P:=by (repeat' ((conv=>whnf);first|exact zi0|refine zj0 fun hb=>?_|refine zst ?_|refine zbb ?_ ?_));all_goals exact Qdg):P:=h
theorem QEy {P:Prop} (h:P:=by (repeat' ((conv=>whnf);first|exact zi2|refine zj0 fun hb=>?_|refine zse ?_|refine zbb ?_ ?_));all_goals exact QHA):P:=h
theorem QEz {P:Prop} (h:P:=by (repeat' ((conv=>whnf);first|exact zi2|refine zj0 fun hb=>?_|refine zse ?_|refine zbb ?_ ?_));all_goals exact QHy):P:=h
theorem QEA {P:Prop} (h:P:=by (repeat' ((conv=>whnf);first|exact zi2|refine zj0 fun hb=>?_|refine zse ?_|refine zbb ?_ ?_));all_goals exact zf_):P:=h
theorem QEB {P:Prop} (h:P:=by (repeat' ((conv=>whnf);first|exact zi3|refine zj0 fun hb=>?_|refine zse ?_|refine zbb ?_ ?_));all_goals exact QHt):P:=h
theorem QEC {P:Prop} (h:P:=by (repeat' ((conv=>whnf);first|exact zi3|refine zj0 fun hb=>?_|refine zse ?_|refine zbb ?_ ?_));all_goals exact QHu):P:=h
theorem QED {P:Prop} (h:P:=by (repeat' ((conv=>whnf);first|exact zi4|refine zj4 fun hb=>?_|refine zse ?_|refine zbb ?_ ?_));all_goals exact QHw):P:=h
theorem Qox {P:Prop} (h:P:=by
  obtain ⟨fV,qG,jQ,jD⟩:=hm;have p1:IntKind.i64.wrap (m.n-1)=m.n-1:=Qb4 (by omega) (by omega);have p2:=Qau (m.n-1);have p3:=Qau (4*(w32 (m.n-1):Nat));have p4:=Qb1 E.M.pc m.n;have p5:=Qau ((lpc E.M.pc m.n:Nat)+4);have p6:=Qau ((lpc E.M.pc m.n:Nat)+(m.k:Nat));have KX:=Qbr E hE 1 2 3 4 m.a fV;have vR:=Qbr E hE 1 2 3 4 m.b qG;have ctk:=QpF m.o (E.M.x.getD m.a 0) (E.M.x.getD m.b 0) (Qab hE.M.xr m.a) (Qab hE.M.xr m.b);rw [jT] at ctk;clear jT;have qF:QaD E.M.x 0 (0)=E.M.x:=by unfold QaD;rw [zP rfl]
  unfold fnE;rw [qF];clear qF;generalize w32 ((lpc E.M.pc m.n:Nat)+(m.k:Nat))=nxk,E.M.x.getD m.a 0=xa,E.M.x.getD m.b 0=xb at *;generalize lpc E.M.pc m.n=lp,w32 (4*(w32 (m.n-1):Nat))=p44 at *;generalize w32 (m.n-1)=p11,w32 ((lp:Int)+4)=nx4 at *;obtain ⟨_,ma,mb,mc,mk,_⟩:=m;dsimp only [Mi.C] at *;subst fO;have fD:=Qaa E.M.m;have gO:=Qae E.T;have gZ:=Qac E.B;have fY:=(Qax hE.o).2.1;obtain ⟨hM,hT,_,hB,_,ho,_,_⟩:=hE;obtain ⟨M,T,B,o,_,s⟩:=E;dsimp only [Eg.H,Eg.R,Eg.Rk,Eg.C,wrt] at *;obtain ⟨hx,hc,hY,gA,gH,gB,gI,gE,gD,gG⟩:=hM;obtain ⟨x,pc,_,m,_,_,_,_,d,n⟩:=M;dsimp only at *;obtain ⟨_,_,_,_,_,_,_,_,_,_,_,_,_,_,_,_,rfl⟩:=Qem hx;obtain ⟨_,_,_,_,_,_,_,_,rfl⟩:=QfC hc;cases d;cases n;dsimp only [Mc.C,Mc.D,Dk.C,Nk.C,Dk.ok,Nk.ok] at *
  try dsimp only [cR,Mc.C,Mc.D,Dk.C,Nk.C] at *
  try simp only [Qaf,zca,zna,zds,zdz] at *
  generalize gP:wsv m=XX,hX3:bks B=BB,hX4:OLs o=OO,gJ:m.length=nn,gM:B.length=bn,gQ:o.length=on,gV:tes T=TT,htn:T.length=tn at *;clear gP gV hX3 hX4 gJ gM gQ htn hT hB ho hY gA gH gB gI gE gD gG;refine fnW Tryz.func93 ?_;(conv=>whnf);(repeat' ((first|exact zi2|refine zj0 fun hb=>?_|refine QDs ?_|refine QHd ?_|((with_reducible apply Ge.mk (α:=SV)); . first|exact KX|exact vR)|refine QAL ?_|(refine zpu ctk ?_)|refine zse ?_|refine zbb ?_ ?_)<;>conv=>whnf))
  all_goals first|(exfalso;simp at hb;omega)|(apply Fin.mv (m:= [(0,some 0),(1,some 1),(2,some 2),(3,some 3),(4,some 4),(5,some 1),(6,some 2),(7,some 3),(8,some 4)]);(focus exact rfl);(all_goals ((try (show QcE _ _ _ [] _));first|exact aFi|exact rfl)))):P:=h
theorem QDG {P:Prop} (h:P:=by
  rw [eX,eP,eC,eE];have rA:=Qav x pc c A hx hA;have rB:=Qav x pc c B hx hB;have rC:=Qav x pc c C hx hC;have qm:IntKind.u32.wrap m=((w32 m:Nat):Int):=Qau m;have q4:IntKind.u32.wrap ((pc:Int)+4)=((w32 ((pc:Int)+4):Nat):Int):=Qau _;have q4m:IntKind.u32.wrap (4*((w32 m:Nat):Int))=((w32 (4*(w32 m:Nat)):Nat):Int):=Qau _;have xA:=Qab hY A;have xB:=Qab hY B;have lm:=QaG m;have gT:=Qar (x) (pc) (c) hx hc;have jJ:=Qal (x) (pc) (c);have qN:=Qah (x) (pc) (c);have qR:=Qai gT;have gpCC:=QaB (x) (pc) (c) hx;obtain ⟨PP,qQ⟩:∃ PP,w32 ((pc:Int)+4)=PP:=⟨_,rfl⟩;rw [qQ];rw [qQ] at q4;have qZ:=QaP x pc c PP hx;have gC:=Qar (x) (PP) (c) hx hc;have fZ:=Qal (x) (PP) (c);have gS:=Qah (x) (PP) (c);have fH:=Qai gC;have gpC3:=QaB (x) (PP) (c) hx;generalize Qay (x) (PP) (c)=C3 at *;clear eX eP eC eE;generalize x.getD A 0=vA,x.getD B 0=vB,x.getD C 0=vC,Qay (x) (pc) (c)=CC,w32 (4*((w32 m:Nat):Int))=m4 at *;generalize w32 m=mm,w32 ((pc:Int)+4)=p4 at *;refine fnW Tryz.func99 ?_;(conv=>whnf);(repeat' ((first|exact zi2|refine zj0 fun hb=>?_|(with_reducible first|refine zv qm ?_|refine zv q4 ?_|refine zv q4m ?_)|refine zq8 ?_|((with_reducible apply Vl.mk (α:=List SV)); . first|exact qZ|exact qR _ (by first|rfl|assumption)|exact fH _ (by first|rfl|assumption))|refine zq1 ?_|refine QId ?_|refine zse ?_|refine zbb ?_ ?_)<;>conv=>whnf))
  all_goals exact zF_):P:=h
theorem QDO {P:Prop} (h:P:=by
  rw [eX,eP,eC,eE];have rA:=Qav x pc c A hx hA;have rB:=Qav x pc c B hx hB;have rC:=Qav x pc c C hx hC;have gp:=QaB x pc c hx;have qm:IntKind.u32.wrap m=((w32 m:Nat):Int):=Qau m;have q4:IntKind.u32.wrap ((pc:Int)+4)=((w32 ((pc:Int)+4):Nat):Int):=Qau _;have xA:=Qab hY A;have xB:=Qab hY B;have xC:=Qab hY C;have lm:=QaG m;have hl:=Qar x pc c hx hc;have hs:=Qal x pc c;have hk:=Qah x pc c;have wV:=Qai hl;obtain ⟨PP,qQ⟩:∃ PP,w32 ((pc:Int)+4)=PP:=⟨_,rfl⟩;rw [qQ];rw [qQ] at q4;have qZ:=QaP x pc c PP hx;have jC:=Qar x PP c hx hc;have gZ:=Qal x PP c;have yE:=Qah x PP c;have yJ:=Qai jC;generalize Qay x PP c=C3 at *;clear eX eP eC eE hY gA hm;generalize x.getD A 0=vA,x.getD B 0=vB,x.getD C 0=vC at *;skip;generalize Qay x pc c=CC,w32 m=mm,w32 ((pc:Int)+4)=p4 at *;refine fnW Tryz.func208 ?_;(conv=>whnf);(repeat' ((first|exact zi2|refine zj0 fun hb=>?_|refine QHg ?_|refine QzV ?_|((with_reducible apply Vl.mk (α:=List SV)); . first|exact qZ|exact wV _ rfl|exact yJ _ rfl)|refine QzU ?_|(apply Sd.mk; . first|exact ⟨hl,hk,rfl,(by show 0+CC.length<=25;omega)⟩|exact ⟨jC,yE,rfl,(by show 0+C3.length<=25;omega)⟩|(refine ⟨rfl,rfl,rfl,?_⟩;show 16+1<=CC.length;omega)|(refine ⟨rfl,rfl,rfl,?_⟩;show 0+16+1<=CC.length;omega)|(show (0:Int)<=A/\(A:Int)<16;omega)|(show (0:Int)<=B/\(B:Int)<16;omega)|(show (0:Int)<=C/\(C:Int)<16;omega))|(refine And.intro rfl ?_)|refine zse ?_|refine zbb ?_ ?_)<;>conv=>whnf))
  all_goals exact zF_):P:=h
theorem QIp {P:Prop} (h:P:=by
  have gN:=Qg4 x pc c A V hx hc hA;have qZ:=QaP (QaD x A V) pc c PP (by rw [Qaz];exact hx);have qM:=Qar (QaD x A V) (pc) (c) (by rw [Qaz];exact hx) hc;have uY:=Qal (QaD x A V) (pc) (c);have jP:=Qah (QaD x A V) (pc) (c);have wQ:=Qai qM;have gpC2:=QaB (QaD x A V) (pc) (c) (by rw [Qaz];exact hx);have gC:=Qar (QaD x A V) (PP) (c) (by rw [Qaz];exact hx) hc;have fZ:=Qal (QaD x A V) (PP) (c);have gS:=Qah (QaD x A V) (PP) (c);have fH:=Qai gC;have gpC3:=QaB (QaD x A V) (PP) (c) (by rw [Qaz];exact hx);generalize Qay (QaD x A V) (PP) (c)=C3,Qay (QaD x A V) (pc) (c)=C2 at *;clear eX eP eC;generalize x.getD A 0=vA,x.getD B 0=vB,x.getD C 0=vC,Qay (x) (pc) (c)=CC,w32 (4*((w32 m:Nat):Int))=m4 at *;generalize w32 m=mm,w32 ((pc:Int)+4)=p4 at *;refine fnW Tryz.func100 ?_;(conv=>whnf);(repeat' ((first|exact zi2|refine zj0 fun hb=>?_|refine QFf ?_|(apply Sd.mk; . first|exact ⟨gT,qN,rfl,(by show 0+CC.length<=25;omega)⟩|exact ⟨gC,gS,rfl,(by show 0+C3.length<=25;omega)⟩|exact ⟨qM,jP,rfl,(by show 0+C2.length<=25;omega)⟩|exact ⟨gT,qN,rfl,(by show 0+CC.length<=C3.length;omega)⟩|exact ⟨gT,qN,rfl,(by show 0+CC.length<=C2.length;omega)⟩|exact ⟨gC,gS,rfl,(by show 0+C3.length<=CC.length;omega)⟩|exact ⟨gC,gS,rfl,(by show 0+C3.length<=C2.length;omega)⟩|exact ⟨qM,jP,rfl,(by show 0+C2.length<=CC.length;omega)⟩|exact ⟨qM,jP,rfl,(by show 0+C2.length<=C3.length;omega)⟩|(show (0:Int)<=A/\(A:Int)<16;omega)|(show (0:Int)<=B/\(B:Int)<16;omega)|(refine ⟨rfl,rfl,rfl,?_⟩;show 0+16+1<=CC.length;omega)|(refine ⟨rfl,rfl,rfl,?_⟩;show 0+16+1<=C3.length;omega)|(refine ⟨rfl,rfl,rfl,?_⟩;show 0+16+1<=C2.length;omega))|((with_reducible apply Vl.mk (α:=List SV)); . first|exact qZ|exact qR _ (by first|rfl|assumption)|exact fH _ (by first|rfl|assumption)|exact wQ _ (by first|rfl|assumption))|(apply Sg.mk; . first|exact Qa7 CC gT|exact Qa7 C3 gC|exact Qa7 C2 qM)|((with_reducible apply Ge.mk (α:=SV)); . first|exact rA|exact rB|exact rC|exact gpCC|exact gpC3|exact gpC2)|(refine zpu gN ?_)|refine zse ?_|refine zbb ?_ ?_)<;>conv=>whnf))
  all_goals exact zF_):P:=h
theorem QD0 {P:Prop} (h:P:=by
  refine fnW Tryz.func118 ?_;dsimp only [Mi.C];(conv=>whnf);(repeat' ((first|exact zi0|refine zj0 fun hb=>?_|(apply Sd.mk; . exact fK)|refine QHf ?_|(refine Qad (f:=185) (vN) rfl ?_)|(refine Qad (f:=186) (h3) rfl ?_)|(refine Qad (f:=187) (uN) rfl ?_)|refine zs0 ?_|refine zbb ?_ ?_)<;>conv=>whnf))
  all_goals
   first
    | exact Qam rfl rfl
  ):P:=h
theorem QIq {P:Prop} (h:P:=by
  generalize QbV o=bb at *;have gN:=QhQ x pc c A V hx hc hA;have hl2:=Qar (QaD x A V) pc c (by rw [Qaz];exact hx) hc;have gO:=Qal (QaD x A V) pc c;have jA:=Qah (QaD x A V) pc c;have wN:QaC (Qay x pc c) 0 (Qay (QaD x A V) pc c)=Qay (QaD x A V) pc c:=Qce (by omega);have qZ:=QaP (QaD x A V) pc c PP (by rw [Qaz];exact hx);have jC:=Qar (QaD x A V) PP c (by rw [Qaz];exact hx) hc;have gZ:=Qal (QaD x A V) PP c;have yE:=Qah (QaD x A V) PP c;have yJ:=Qai jC;have gp2:=QaB (QaD x A V) pc c (by rw [Qaz];exact hx);generalize Qay (QaD x A V) PP c=C3,Qay (QaD x A V) pc c=C2 at *;clear eX eP eC eE hY gA hm;generalize x.getD A 0=vA,x.getD B 0=vB,x.getD C 0=vC at *;skip;generalize Qay x pc c=CC,w32 m=mm,w32 ((pc:Int)+4)=p4 at *;refine fnW Tryz.func208 ?_;(conv=>whnf);(repeat' ((first|exact zi2|refine zj0 fun hb=>?_|refine QHg ?_|refine QzV ?_|((with_reducible apply Vl.mk (α:=List SV)); . first|exact wN|exact qZ|exact wV _ rfl|exact yJ _ rfl)|(apply Sg.mk; . first|exact Qa7 C3 jC|exact Qa7 C2 hl2|exact Qa7 CC hl)|(apply Sd.mk; . first|exact ⟨hl,hk,rfl,(by show 0+CC.length<=25;omega)⟩|exact ⟨jC,yE,rfl,(by show 0+C3.length<=25;omega)⟩|exact ⟨hl2,jA,rfl,(by show 0+C2.length<=CC.length;omega)⟩|(refine ⟨rfl,rfl,rfl,?_⟩;show 16+1<=C2.length;omega)|(refine ⟨rfl,rfl,rfl,?_⟩;show 0+16+1<=C2.length;omega)|(show (0:Int)<=A/\(A:Int)<16;omega)|(show (0:Int)<=B/\(B:Int)<16;omega)|(show (0:Int)<=C/\(C:Int)<16;omega))|(refine zpu gN ?_)|(refine zpu gY ?_)|refine zse ?_|refine zbb ?_ ?_)<;>conv=>whnf))
  all_goals exact zF_):P:=h
theorem QHs {P:Prop} (h:P:=by
  clear hM jM yO;generalize OLs os=OL,os.length=ol,wsv M.m=Xe at *;obtain ⟨_,_,_,me,_,_,_,_,de,ne⟩:=M;dsimp only at *;obtain ⟨_,_,_,_,_,_,_,_,_,_,_,_,_,_,_,_,rfl⟩:=Qem KJ;obtain ⟨_,_,_,_,_,_,_,_,rfl⟩:=QfC FJ;cases de;cases ne;unfold Qct;unfold Qct at hB;simp only [Qaf,zca,zna,Mc.C,Mc.D,Dk.C,Nk.C] at *;generalize me.length=nn1 at *;(conv=>whnf);(repeat' ((first|exact zi4|refine zj4 fun hb=>?_|(refine QaA qs ?_)|(refine QaA qr ?_)|refine zse ?_|refine zbb ?_ ?_)<;>conv=>whnf))
  all_goals first|(exfalso;omega)|(exfalso;simp at hb;first|done|fail)|(refine hB _ ?_;(exact zwL [(0,some 0),(1,some 1),(2,some 2),(3,some 3),(4,some 4)]))):P:=h
theorem QIr {P:Prop} (h:P:=by
  have fD:=Qaa E.M.m;have gO:=Qae E.T;have gZ:=Qac E.B;have fY:=(Qax hE.o).2.1;obtain ⟨hM,hT,_,hB,_,ho,_,_⟩:=hE;obtain ⟨M,T,B,o,_,s⟩:=E;dsimp only [Eg.H,Eg.R,Eg.Rk,Eg.C,wrt] at *;obtain ⟨hx,hc,hY,gA,gH,gB,gI,gE,gD,gG⟩:=hM;obtain ⟨_,_,c,m,_,_,_,_,d,n,_,_,_,wt⟩:=M;dsimp only at *;obtain ⟨_,_,_,_,_,_,_,_,_,_,_,_,_,_,_,_,rfl⟩:=Qem hx;obtain ⟨_,_,_,_,_,_,_,_,rfl⟩:=QfC hc;cases d;cases n;dsimp only [Mc.C,Mc.D,Dk.C,Nk.C,Dk.ok,Nk.ok] at *;subst hw
  try dsimp only [cR,Mc.C,Mc.D,Dk.C,Nk.C] at *
  try simp only [Qaf,zca,zna,zds,zdz] at *
  generalize gP:wsv m=XX,hX3:bks B=BB,hX4:OLs o=OO,gJ:m.length=nn,gM:B.length=bn,gQ:o.length=on,gV:tes T=TT,htn:T.length=tn at *;clear gP gV hX3 hX4 gJ gM gQ htn hT hB ho hY gA gH gB gI gE gD gG;refine fnW Tryz.func50 ?_;(conv=>whnf);(repeat' ((first|exact zi2|refine zj0 fun hb=>?_|refine QHp ?_|(refine QaA cl ?_)|refine zse ?_|refine zbb ?_ ?_)<;>conv=>whnf))
  all_goals first|(exfalso;simp at hb;omega)|(exfalso;simp_all;omega)|(apply Fin.mv (m:= [(0,some 0),(1,some 1),(2,some 2),(3,some 3),(4,some 4),(5,some 1),(6,some 2),(7,some 3),(8,some 4)]);(focus exact rfl);(all_goals ((try (show QcE _ _ _ [] _));first|exact aFi|exact rfl)))):P:=h
theorem QIs {P:Prop} (h:P:=by
  clear eX eP eC eE;generalize x.getD A 0=vA,x.getD B 0=vB,x.getD C 0=vC,Qay (x) (pc) (c)=CC,w32 (4*((w32 m:Nat):Int))=m4 at *;generalize w32 m=mm,w32 ((pc:Int)+4)=p4 at *;refine fnW Tryz.func99 ?_;(conv=>whnf);(repeat' ((first|exact zi2|refine zj0 fun hb=>?_|(with_reducible first|refine zv qm ?_|refine zv q4 ?_|refine zv q4m ?_)|refine zq8 ?_|((with_reducible apply Vl.mk (α:=List SV)); . first|exact qR _ (by first|rfl|assumption)|exact fH _ (by first|rfl|assumption))|refine zq1 ?_|refine QId ?_|(refine zpu fW ?_)|refine zse ?_|refine zbb ?_ ?_)<;>conv=>whnf))
  all_goals exact zF_):P:=h
theorem QFr {P:Prop} (h:P:=by
  generalize knC is v=KN at *;refine fnW Tryz.func118 ?_;dsimp only [Mi.C];(conv=>whnf);(repeat' ((first|exact zi0|refine zj0 fun hb=>?_|(apply Sd.mk; . exact fK)|refine QHf ?_|refine zs0 ?_|refine zbb ?_ ?_)<;>conv=>whnf))
  all_goals
   first
    | exact Qam rfl rfl
  ):P:=h
theorem QzY {P:Prop} (h:P:=by
  (conv=>whnf);(repeat' ((first|exact zi0|refine zj0 fun hb=>?_|(with_reducible first|refine zv (QbX _ ha) ?_|refine zv (QbX _ fX) ?_)|refine zs0 ?_|refine zbb ?_ ?_)<;>conv=>whnf))
  all_goals
   apply Qam
   (focus rfl)
   simp only [Qbc];congr 3
   first
    | (subst hb;simp [Qdk];first|done|fail)
    | (subst hb;simp [Qdk];omega)
    | (unfold Qdk;rw [zN (by omega),zN (by omega),zN (by omega),zN (by omega),zN (by omega)];simp;first|done|fail)
    | (subst hb;rw [zbi];simp [Qdk];first|done|fail)
    | (subst hb;rw [zbi];simp [Qdk];omega)):P:=h
theorem QDz {P:Prop} (h:P:=by
  clear eX eP eC eE hY gA hm;generalize x.getD A 0=vA,x.getD B 0=vB,x.getD C 0=vC at *;skip;generalize Qay x pc c=CC,w32 m=mm,w32 ((pc:Int)+4)=p4 at *;refine fnW Tryz.func208 ?_;(conv=>whnf);(repeat' ((first|exact zi2|refine zj0 fun hb=>?_|refine QHg ?_|refine QzV ?_|((with_reducible apply Vl.mk (α:=List SV)); . first|exact yJ _ rfl|exact wV _ rfl|exact yJ _ rfl)|refine QzU ?_|(apply Sd.mk; . first|exact ⟨hl,hk,rfl,(by show 0+CC.length<=25;omega)⟩|exact ⟨jC,yE,rfl,(by show 0+C3.length<=25;omega)⟩|(show (0:Int)<=A/\(A:Int)<16;omega)|(show (0:Int)<=B/\(B:Int)<16;omega)|(show (0:Int)<=C/\(C:Int)<16;omega))|(refine zpu fW ?_)|refine zse ?_|refine zbb ?_ ?_)<;>conv=>whnf))
  all_goals exact zF_):P:=h
theorem QDA {P:Prop} (h:P:=by
  refine fnW Tryz.func93 ?_;(conv=>whnf);(repeat' ((first|exact zi2|refine zj0 fun hb=>?_|refine zq2 ?_|refine QHd ?_|((with_reducible apply Ge.mk (α:=SV)); . first|exact vR|exact ZT)|refine QAL ?_|(refine zpu cal ?_)|refine zse ?_|refine zbb ?_ ?_)<;>conv=>whnf))
  all_goals first|(exfalso;simp at hb;omega)|(apply Fin.mv (m:= [(0,some 0),(1,some 1),(2,some 2),(3,some 3),(4,some 4),(5,some 1),(6,some 2),(7,some 3),(8,some 4)]);(focus exact rfl);(all_goals ((try (show QcE _ _ _ [] _));first|exact aFi|exact rfl)))):P:=h
theorem QDB {P:Prop} (h:P:=by
  refine fnW Tryz.func93 ?_;(conv=>whnf);(repeat' ((first|exact zi2|refine zj0 fun hb=>?_|refine zq2 ?_|refine QHd ?_|refine QFm ?_|refine QAL ?_|(refine zpu cal ?_)|refine zse ?_|refine zbb ?_ ?_)<;>conv=>whnf))
  all_goals first|(exfalso;simp at hb;omega)|(apply Fin.mv (m:= [(0,some 0),(1,some 1),(2,some 2),(3,some 3),(4,some 4),(5,some 1),(6,some 2),(7,some 3),(8,some 4)]);(focus exact rfl);(all_goals ((try (show QcE _ _ _ [] _));first|exact aFi|exact rfl)))):P:=h
theorem QlZ {P:Prop} (h:P:=by
  (conv=>whnf);(repeat' ((first|exact zi2|refine zj0 fun hb=>?_|refine zse ?_|refine zbb ?_ ?_)<;>conv=>whnf))
  all_goals exact zf_):P:=h
theorem QDC {P:Prop} (h:P:=by
  refine fnW Tryz.func93 ?_;(conv=>whnf);(repeat' ((first|exact zi2|refine zj0 fun hb=>?_|refine zq2 ?_|refine QHm ?_|refine QAL ?_|(refine Qaw ca ?_)|refine zse ?_|refine zbb ?_ ?_)<;>conv=>whnf))
  all_goals first|(exfalso;simp at hb;omega)|(apply Fin.mv (m:= [(0,some 0),(1,some 1),(2,some 2),(3,some 3),(4,some 4),(5,some 786560),(6,some 786561),(7,some 786562),(8,some 786563)]);(focus exact rfl);(all_goals ((try (show QcE _ _ _ [] _));first|exact aFi|exact rfl)))):P:=h
theorem QDD {P:Prop} (h:P:=by
  refine fnW Tryz.func93 ?_;(conv=>whnf);(repeat' ((first|exact zi2|refine zj0 fun hb=>?_|refine zq2 ?_|refine QHm ?_|refine QAL ?_|(refine Qaw ca ?_)|refine zse ?_|refine zbb ?_ ?_)<;>conv=>whnf))
  all_goals first|(exfalso;simp at hb;omega)|(apply Fin.mv (m:= [(0,some 0),(1,some 1),(2,some 2),(3,some 3),(4,some 4),(5,some 721024),(6,some 721025),(7,some 721026),(8,some 721027)]);(focus exact rfl);(all_goals ((try (show QcE _ _ _ [] _));first|exact aFi|exact rfl)))):P:=h
theorem QDE {P:Prop} (h:P:=by
  refine fnW Tryz.func93 ?_;(conv=>whnf);(repeat' ((first|exact zi2|refine zj0 fun hb=>?_|refine zq2 ?_|refine QHm ?_|refine QAL ?_|(refine Qaw ca ?_)|refine zse ?_|refine zbb ?_ ?_)<;>conv=>whnf))
  all_goals first|(exfalso;simp at hb;omega)|(apply Fin.mv (m:= [(0,some 0),(1,some 1),(2,some 2),(3,some 3),(4,some 4),(5,some 655488),(6,some 655489),(7,some 655490),(8,some 655491)]);(focus exact rfl);(all_goals ((try (show QcE _ _ _ [] _));first|exact aFi|exact rfl)))):P:=h
theorem Qoj {P:Prop} (h:P:=by
  (conv=>whnf);(repeat' ((first|exact zi2|refine zj0 fun hb=>?_|refine zse ?_|refine zbb ?_ ?_)<;>conv=>whnf))
  all_goals exact zF_):P:=h
theorem QDF {P:Prop} (h:P:=by
  (conv=>whnf);(repeat' ((first|exact zi3|refine zj0 fun hb=>?_|refine QIj ?_|refine Qwv ?_|refine QfL ?_|refine QFk ?_|(refine Qaw ce_ ?_)|refine zse ?_|refine zbb ?_ ?_)<;>conv=>whnf))
  all_goals first|(exfalso;simp at hb;omega)|(exfalso;simp at hb;first|done|fail)|(refine hB _ ?_;(exact zwV [(0,some 0),(1,some 1),(2,some 2),(3,some 3),(4,some 4),(5,some 197248),(6,some 197249),(7,some 197250),(8,some 197251)]))):P:=h
theorem QDH {P:Prop} (h:P:=by
  rw [hB] at vN gY;generalize knC is v=KN at *;refine fnW Tryz.func118 ?_;dsimp only [Mi.C];(conv=>whnf);(repeat' ((first|exact zi0|refine zj0 fun hb=>?_|(apply Sd.mk; . exact fK)|refine QHf ?_|(refine Qad (f:=185) (vN) rfl ?_)|(refine Qad (f:=186) (h3) rfl ?_)|(refine Qad (f:=187) (uN) rfl ?_)|(refine Qad (f:=161) (gY) rfl ?_)|refine zs0 ?_|refine zbb ?_ ?_)<;>conv=>whnf))
  all_goals
   first
    | exact Qam rfl rfl
  ):P:=h
theorem QDI {P:Prop} (h:P:=by
  refine fnW Tryz.func93 ?_;(conv=>whnf);(repeat' ((first|exact zi2|refine zj0 fun hb=>?_|refine zq2 ?_|(refine Qaw ca ?_)|refine zse ?_|refine zbb ?_ ?_)<;>conv=>whnf))
  all_goals first|(exfalso;simp at hb;omega)|(apply Fin.mv (m:= [(0,some 0),(1,some 1),(2,some 2),(3,some 3),(4,some 4),(5,some 917632),(6,some 917633),(7,some 917634),(8,some 917635)]);(focus exact rfl);(all_goals ((try (show QcE _ _ _ [] _));first|exact aFi|exact rfl)))):P:=h
theorem QDJ {P:Prop} (h:P:=by
  refine fnW Tryz.func93 ?_;(conv=>whnf);(repeat' ((first|exact zi2|refine zj0 fun hb=>?_|refine zq2 ?_|(refine Qaw ca ?_)|refine zse ?_|refine zbb ?_ ?_)<;>conv=>whnf))
  all_goals first|(exfalso;simp at hb;omega)|(apply Fin.mv (m:= [(0,some 0),(1,some 1),(2,some 2),(3,some 3),(4,some 4),(5,some 852096),(6,some 852097),(7,some 852098),(8,some 852099)]);(focus exact rfl);(all_goals ((try (show QcE _ _ _ [] _));first|exact aFi|exact rfl)))):P:=h
theorem QDK {P:Prop} (h:P:=by
  clear gP gV hX3 hX4 hX5 hT hB ho hY gA gH gB gI gE gD gG VQ gM hb2n htn gJ gQ;refine fnW Tryz.func155 ?_;(conv=>whnf);(repeat' ((first|exact zi2|refine zj0 fun hb=>?_|(refine QaA ci ?_)|refine zse ?_|refine zbb ?_ ?_)<;>conv=>whnf))
  all_goals first|(apply Fin.mv (m:= [(0,some 0),(1,some 1),(2,some 2),(3,some 3),(4,some 4),(5,some 1),(6,some 2),(7,some 65984),(8,some 4)]);(focus exact rfl);(all_goals ((try (show QcE _ _ _ [] _));first|exact aFi|exact rfl)))|(exfalso;simp at hb;omega)):P:=h
theorem QzZ {P:Prop} (h:P:=by
  (conv=>whnf);(repeat' ((first|exact zi2|refine zj0 fun hb=>?_|(with_reducible first|refine zv c1 ?_|refine zv c2 ?_)|(refine QaA hp ?_)|refine zse ?_|refine zbb ?_ ?_)<;>conv=>whnf))
  all_goals exact Qb9):P:=h
theorem QDL {P:Prop} (h:P:=by
  (conv=>whnf);(repeat' ((first|exact zi2|refine zj0 fun hb=>?_|(refine QaA hm ?_)|(refine QaA hi ?_)|refine zse ?_|refine zbb ?_ ?_)<;>conv=>whnf))
  all_goals first
   | (refine QcJ ?_ ?_;(focus (exact Qb9));rw [<- hB];symm;first|(rw [zbi];simp;first|done|fail)|(rw [zbi];simp;omega)|(rw [zbi];simp_all;first|done|fail)|(rw [zbi];simp;grind))
 ):P:=h
theorem QDM {P:Prop} (h:P:=by
  (conv=>whnf);(repeat' ((first|exact zi0|refine zj0 fun hb=>?_|refine zs0 ?_|refine zbb ?_ ?_)<;>conv=>whnf))
  all_goals first
   | (subst hb;exact Qam rfl rfl)
   | (
     have e1:Qcv ac=5:=by unfold Qcv;rw [zN (by omega),zN (by omega)]
     have e2:QdP ac=false:=by unfold QdP;exact zdf (by omega)
     rw [e1,e2]
     exact Qam rfl rfl)
 ):P:=h
theorem Qz0 {P:Prop} (h:P:=by
  by_cases hj:j<xs.length
  .rw [zgd,zgg hj];exact h _ (List.getElem_mem hj)
  .rw [zgd,List.getElem?_eq_none (by omega)];simp):P:=h
theorem QDN {P:Prop} (h:P:=by
  (conv=>whnf);(repeat' ((first|exact zi2|refine zj0 fun hb=>?_|refine QDx ?_|refine zse ?_|refine zbb ?_ ?_)<;>conv=>whnf))
  all_goals first|(refine QcJ ?_ ?_;(focus (exact zf_));rw [<- hB];first|(symm;exact zdf (by omega))|(rw [zbi];simp;grind))):P:=h
theorem Qz1 {P:Prop} (h:P:=by
  (conv=>whnf);(repeat' ((first|exact zi2|refine zj0 fun hb=>?_|(refine zpu hg ?_)|refine zse ?_|refine zbb ?_ ?_)<;>conv=>whnf))
  all_goals exact zf_):P:=h
theorem QDP {P:Prop} (h:P:=by
  refine Qas (Qan rfl rfl rfl rfl (Qaj h3)) ?_;refine Qas (Qan rfl rfl rfl rfl (Qaj h4)) ?_;refine Qas (Qan rfl rfl rfl rfl (.cons (QcC rfl) (.cons (QcC rfl) .nil))) ?_;refine Qil ?_;refine Qil ?_;refine Qf5 rfl ?_;refine Qf5 rfl ?_;refine Qf5 rfl ?_
  exact QaL):P:=h
theorem QDQ {P:Prop} (h:P:=by
  (conv=>whnf);(repeat' ((first|exact zi2|refine zj0 fun hb=>?_|refine zse ?_|refine zbb ?_ ?_)<;>conv=>whnf))
  all_goals first|(refine QcJ ?_ ?_;(focus (exact zf_));rw [<- hB];first|(rw [zbi];simp;first|done|fail)|(rw [zbi];simp;omega)|(rw [zbi];simp;grind))):P:=h
theorem Qz2 {P:Prop} (h:P:=by
  (conv=>whnf);(repeat' ((first|exact zi2|refine zj0 fun hb=>?_|refine zse ?_|refine zbb ?_ ?_)<;>conv=>whnf))
  all_goals first|(exact Qb9)):P:=h
theorem QDR {P:Prop} (h:P:=by
  generalize Qcv ac=C,wsv xs=XX at *;refine fnW Tryz.func220 ?_;(conv=>whnf);(repeat' ((first|exact zi0|refine zj0 fun hb=>?_|(refine Qad (f:=257) (cc) rfl ?_)|refine zs0 ?_|refine zbb ?_ ?_)<;>conv=>whnf))
  all_goals first|exact QbT rfl gL rfl rfl):P:=h
theorem QDS {P:Prop} (h:P:=by
  (conv=>whnf);(repeat' ((first|exact zi2|refine zj0 fun hb=>?_|refine zse ?_|refine zbb ?_ ?_)<;>conv=>whnf))
  all_goals first|(exact Qb9)|(exfalso;simp only [zde,decide_eq_false_iff_not,beq_iff_eq,beq_eq_false_iff_ne,ne_eq] at *;omega)):P:=h
theorem QDT {P:Prop} (h:P:=by
  (conv=>whnf);(repeat' ((first|exact zi0|refine zj0 fun hb=>?_|refine zs0 ?_|refine zbb ?_ ?_)<;>conv=>whnf))
  all_goals (refine QbT rfl (Qaa _) rfl ?_;simp only [Qbc];congr 3;unfold mpg;split<;>omega)):P:=h
theorem QDU {P:Prop} (h:P:=by
  (conv=>whnf);(repeat' ((first|exact zi2|refine zj0 fun hb=>?_|refine zse ?_|refine zbb ?_ ?_)<;>conv=>whnf))
  all_goals first|(exfalso;omega)|(exfalso;simp at hb;omega)|(exact zf_)):P:=h
theorem QDV {P:Prop} (h:P:=by
  (conv=>whnf);(repeat' ((first|exact zi0|refine zj0 fun hb=>?_|(with_reducible refine zv ha ?_)|(refine QaA hl ?_)|refine zst ?_|refine zbb ?_ ?_)<;>conv=>whnf))
  all_goals exact Qb9):P:=h
theorem QDW {P:Prop} (h:P:=by
  (conv=>whnf);(repeat' ((first|exact zi0|refine zj0 fun hb=>?_|refine zs0 ?_|refine zbb ?_ ?_)<;>conv=>whnf))
  all_goals (subst hb;apply Qam;(focus rfl);rfl)):P:=h
theorem QDX {P:Prop} (h:P:=by
  (conv=>whnf);(repeat' ((first|exact zi2|refine zj0 fun hb=>?_|(refine zpu hg ?_)|refine zse ?_|refine zbb ?_ ?_)<;>conv=>whnf))
  all_goals exact zF_):P:=h
theorem QDY {P:Prop} (h:P:=by
  (conv=>whnf);(repeat' ((first|exact zi0|refine zj0 fun hb=>?_|refine zs0 ?_|refine zbb ?_ ?_)<;>conv=>whnf))
  all_goals exact Qam rfl rfl):P:=h
theorem QDZ {P:Prop} (h:P:=by
  rw [show (255:Int)=((255:Nat):Int) from rfl,QcF v 255 hv (by omega),show (255:Nat)=2^8-1 from rfl,Nat.and_two_pow_sub_one_eq_mod]):P:=h
theorem Qu9 {P:Prop} (h:P:=by
  have:=Qpn w hw;rw [h] at this
  exact this):P:=h
theorem zf_ {P:Prop} (h:P:=by (try (conv=>whnf));first|(apply Fin.mk (m:= []);(focus exact rfl);(all_goals ((try (show HlS _ _ [] _));first|exact aFi|exact rfl)))|fail):P:=h
theorem zF_ {P:Prop} (h:P:=by (try (conv=>whnf));first|(exfalso;omega)|(exfalso;simp at hb;done)|(apply Fin.mk (m:= []);(focus exact rfl);(all_goals ((try (show HlS _ _ [] _));first|exact aFi|exact rfl)))|fail):P:=h
theorem Qb9 {P:Prop} (h:P:=by (try (conv=>whnf));first|(apply Fin.mk (m:= [(0,some 0)]);(focus exact rfl);(all_goals ((try (show HlS _ _ [] _));first|exact aFi|exact rfl)))|fail):P:=h
theorem QfR {P:Prop} (h:P:=by (try (conv=>whnf));first|(exfalso;omega)|(exfalso;simp at hb;done)|(apply Fin.mk (m:= [(0,some 0)]);(focus exact rfl);(all_goals ((try (show HlS _ _ [] _));first|exact aFi|exact rfl)))|fail):P:=h
theorem Qdg {P:Prop} (h:P:=by (try (conv=>whnf));first|(apply Fin.mk (m:= [(0,some 0),(1,some 1)]);(focus exact rfl);(all_goals ((try (show HlS _ _ [] _));first|exact aFi|exact rfl)))|fail):P:=h
theorem QsE {P:Prop} (h:P:=by (try (conv=>whnf));first|(exfalso;omega)|(exfalso;simp at hb;done)|(apply Fin.mk (m:= [(0,some 0),(1,some 1)]);(focus exact rfl);(all_goals ((try (show HlS _ _ [] _));first|exact aFi|exact rfl)))|fail):P:=h
theorem QsJ {P:Prop} (h:P:=by (try (conv=>whnf));first|(apply Fin.mk (m:= [(0,some 0),(1,some 1),(2,some 2)]);(focus exact rfl);(all_goals ((try (show HlS _ _ [] _));first|exact aFi|exact rfl)))|fail):P:=h
theorem QsF {P:Prop} (h:P:=by (try (conv=>whnf));first|(exfalso;omega)|(exfalso;simp at hb;done)|(apply Fin.mk (m:= [(0,some 0),(1,some 1),(2,some 2),(3,some 3)]);(focus exact rfl);(all_goals ((try (show HlS _ _ [] _));first|exact aFi|exact rfl)))|fail):P:=h
theorem QHX {P:Prop} (h:P:=by (try (conv=>whnf));first|(apply Fin.mk (m:= [(0,some _)]);(focus exact rfl);(all_goals ((try (show HlS _ _ [] _));first|exact aFi|exact rfl)))|fail):P:=h
theorem QbJ {P:Prop} (h:P:=by (try (conv=>whnf));first|(apply Fin.mk (m:= [(0,some 0),(1,some _)]);(focus exact rfl);(all_goals ((try (show HlS _ _ [] _));first|exact aFi|exact rfl)))|fail):P:=h
theorem Qe2 {P:Prop} (h:P:=by (try (conv=>whnf));first|(exfalso;omega)|(exfalso;simp at hb;done)|(apply Fin.mk (m:= [(0,some 0),(1,some _)]);(focus exact rfl);(all_goals ((try (show HlS _ _ [] _));first|exact aFi|exact rfl)))|fail):P:=h
theorem Qkt {P:Prop} (h:P:=by (try (conv=>whnf));first|(apply Fin.mk (m:= [(0,some 0),(1,some 1),(2,some _)]);(focus exact rfl);(all_goals ((try (show HlS _ _ [] _));first|exact aFi|exact rfl)))|fail):P:=h
theorem Qoi {P:Prop} (h:P:=by (try (conv=>whnf));first|(apply Fin.mk (m:= [(0,some 0),(1,none)]);(focus exact rfl);(all_goals ((try (show HlS _ _ [] _));first|exact aFi|exact rfl)))|fail):P:=h
theorem QDo {P:Prop} (h:P:=by (try (conv=>whnf));first|(apply Fin.mk (m:= [(0,some 0),(1,some _),(2,some _)]);(focus exact rfl);(all_goals ((try (show HlS _ _ [] _));first|exact aFi|exact rfl)))|fail):P:=h
theorem QaA {P:Program} {det:Bool} {f:FuncId} {l:List AV} {hp:Hp} {n:Nat} {K:KK} {args:List AV} {r0:Row} {R:Res} {n0:Nat} {q0:Row} (hF:Fn P f args [r0] (. =R)) (k:Vl (R.ef [⟨n0,0⟩] [r0].length n) fun e=>K [(n0,q0)] e) (h2:l=args.map (QcZ [⟨n0,0⟩] [r0].length n):=by exact aRn) (a0:hp n0=some q0:=by exact rfl) (b0:Qdm [⟨n0,0⟩] [r0].length n 0 ⟨n0,0⟩ r0 q0:=by exact Qap (by assumption)) (h5:Nat.ble R.nw.length Qaq=true/\∀ p∈R.up,p.1< [r0].length:=by exact ⟨rfl,Qcu rfl⟩):Cll P det f l hp n K:=Qag hF [⟨n0,0⟩] [(n0,q0)] h2 ⟨a0,trivial⟩ ⟨rfl,b0,trivial⟩ h5 k
theorem QfS {P:Program} {det:Bool} {f:FuncId} {l:List AV} {hp:Hp} {n:Nat} {K:KK} {args:List AV} {r0 r1:Row} {R:Res} {n0 n1:Nat} {q0 q1:Row} (hF:Fn P f args [r0,r1] (. =R)) (k:Vl (R.ef [⟨n0,0⟩,⟨n1,0⟩] [r0,r1].length n) fun e=>K [(n0,q0),(n1,q1)] e) (h2:l=args.map (QcZ [⟨n0,0⟩,⟨n1,0⟩] [r0,r1].length n):=by exact aRn) (a0:hp n0=some q0:=by exact rfl) (b0:Qdm [⟨n0,0⟩,⟨n1,0⟩] [r0,r1].length n 0 ⟨n0,0⟩ r0 q0:=by exact Qap (by assumption)) (a1:hp n1=some q1:=by exact rfl) (b1:Qdm [⟨n0,0⟩,⟨n1,0⟩] [r0,r1].length n 1 ⟨n1,0⟩ r1 q1:=by exact Qap (by assumption)) (h5:Nat.ble R.nw.length Qaq=true/\∀ p∈R.up,p.1< [r0,r1].length:=by exact ⟨rfl,Qcu rfl⟩):Cll P det f l hp n K:=Qag hF [⟨n0,0⟩,⟨n1,0⟩] [(n0,q0),(n1,q1)] h2 ⟨a0,a1,trivial⟩ ⟨rfl,b0,rfl,b1,trivial⟩ h5 k
theorem QcD {P:Program} {det:Bool} {f:FuncId} {l:List AV} {hp:Hp} {n:Nat} {K:KK} {args:List AV} {r0 r1 r2:Row} {R:Res} {n0 n1 n2:Nat} {q0 q1 q2:Row} (hF:Fn P f args [r0,r1,r2] (. =R)) (k:Vl (R.ef [⟨n0,0⟩,⟨n1,0⟩,⟨n2,0⟩] [r0,r1,r2].length n) fun e=>K [(n0,q0),(n1,q1),(n2,q2)] e) (h2:l=args.map (QcZ [⟨n0,0⟩,⟨n1,0⟩,⟨n2,0⟩] [r0,r1,r2].length n):=by exact aRn) (a0:hp n0=some q0:=by exact rfl) (b0:Qdm [⟨n0,0⟩,⟨n1,0⟩,⟨n2,0⟩] [r0,r1,r2].length n 0 ⟨n0,0⟩ r0 q0:=by exact Qap (by assumption)) (a1:hp n1=some q1:=by exact rfl) (b1:Qdm [⟨n0,0⟩,⟨n1,0⟩,⟨n2,0⟩] [r0,r1,r2].length n 1 ⟨n1,0⟩ r1 q1:=by exact Qap (by assumption)) (a2:hp n2=some q2:=by exact rfl) (b2:Qdm [⟨n0,0⟩,⟨n1,0⟩,⟨n2,0⟩] [r0,r1,r2].length n 2 ⟨n2,0⟩ r2 q2:=by exact Qap (by assumption)) (h5:Nat.ble R.nw.length Qaq=true/\∀ p∈R.up,p.1< [r0,r1,r2].length:=by exact ⟨rfl,Qcu rfl⟩):Cll P det f l hp n K:=Qag hF [⟨n0,0⟩,⟨n1,0⟩,⟨n2,0⟩] [(n0,q0),(n1,q1),(n2,q2)] h2 ⟨a0,a1,a2,trivial⟩ ⟨rfl,b0,rfl,b1,rfl,b2,trivial⟩ h5 k
theorem Qhq {P:Program} {det:Bool} {f:FuncId} {l:List AV} {hp:Hp} {n:Nat} {K:KK} {args:List AV} {r0:Row} {R:Res} {n0:Nat} {q0:Row} (hF:Fn P f args [r0] (. =R)) (k:Vl (R.ef [⟨n0,0⟩] [r0].length n) fun e=>K [(n0,q0)] e) (h2:l=args.map (QcZ [⟨n0,0⟩] [r0].length n):=by exact aRn) (a0:hp n0=some q0:=by exact rfl) (b0:Qdm [⟨n0,0⟩] [r0].length n 0 ⟨n0,0⟩ r0 q0:=by exact QaE (by assumption) rfl) (h5:Nat.ble R.nw.length Qaq=true/\∀ p∈R.up,p.1< [r0].length:=by exact ⟨rfl,Qcu rfl⟩):Cll P det f l hp n K:=Qag hF [⟨n0,0⟩] [(n0,q0)] h2 ⟨a0,trivial⟩ ⟨rfl,b0,trivial⟩ h5 k
theorem Qkr {P:Program} {det:Bool} {f:FuncId} {l:List AV} {hp:Hp} {n:Nat} {K:KK} {args:List AV} {r0 r1:Row} {R:Res} {n0 n1:Nat} {q0 q1:Row} (hF:Fn P f args [r0,r1] (. =R)) (k:Vl (R.ef [⟨n0,0⟩,⟨n1,0⟩] [r0,r1].length n) fun e=>K [(n0,q0),(n1,q1)] e) (h2:l=args.map (QcZ [⟨n0,0⟩,⟨n1,0⟩] [r0,r1].length n):=by exact aRn) (a0:hp n0=some q0:=by exact rfl) (b0:Qdm [⟨n0,0⟩,⟨n1,0⟩] [r0,r1].length n 0 ⟨n0,0⟩ r0 q0:=by exact QbO rfl rfl) (a1:hp n1=some q1:=by exact rfl) (b1:Qdm [⟨n0,0⟩,⟨n1,0⟩] [r0,r1].length n 1 ⟨n1,0⟩ r1 q1:=by exact QaE (by assumption) rfl) (h5:Nat.ble R.nw.length Qaq=true/\∀ p∈R.up,p.1< [r0,r1].length:=by exact ⟨rfl,Qcu rfl⟩):Cll P det f l hp n K:=Qag hF [⟨n0,0⟩,⟨n1,0⟩] [(n0,q0),(n1,q1)] h2 ⟨a0,a1,trivial⟩ ⟨rfl,b0,rfl,b1,trivial⟩ h5 k
theorem QzS {P:Program} {det:Bool} {f:FuncId} {l:List AV} {hp:Hp} {n:Nat} {K:KK} {args:List AV} {r0 r1 r2 r3:Row} {R:Res} {n0 n1 n2 n3:Nat} {q0 q1 q2 q3:Row} (hF:Fn P f args [r0,r1,r2,r3] (. =R)) (k:Vl (R.ef [⟨n0,0⟩,⟨n1,0⟩,⟨n2,0⟩,⟨n3,0⟩] [r0,r1,r2,r3].length n) fun e=>K [(n0,q0),(n1,q1),(n2,q2),(n3,q3)] e) (h2:l=args.map (QcZ [⟨n0,0⟩,⟨n1,0⟩,⟨n2,0⟩,⟨n3,0⟩] [r0,r1,r2,r3].length n):=by exact aRn) (a0:hp n0=some q0:=by exact rfl) (b0:Qdm [⟨n0,0⟩,⟨n1,0⟩,⟨n2,0⟩,⟨n3,0⟩] [r0,r1,r2,r3].length n 0 ⟨n0,0⟩ r0 q0:=by exact QbO rfl rfl) (a1:hp n1=some q1:=by exact rfl) (b1:Qdm [⟨n0,0⟩,⟨n1,0⟩,⟨n2,0⟩,⟨n3,0⟩] [r0,r1,r2,r3].length n 1 ⟨n1,0⟩ r1 q1:=by exact QaE (by assumption) rfl) (a2:hp n2=some q2:=by exact rfl) (b2:Qdm [⟨n0,0⟩,⟨n1,0⟩,⟨n2,0⟩,⟨n3,0⟩] [r0,r1,r2,r3].length n 2 ⟨n2,0⟩ r2 q2:=by exact QaE (by assumption) rfl) (a3:hp n3=some q3:=by exact rfl) (b3:Qdm [⟨n0,0⟩,⟨n1,0⟩,⟨n2,0⟩,⟨n3,0⟩] [r0,r1,r2,r3].length n 3 ⟨n3,0⟩ r3 q3:=by exact QaE (by assumption) rfl) (h5:Nat.ble R.nw.length Qaq=true/\∀ p∈R.up,p.1< [r0,r1,r2,r3].length:=by exact ⟨rfl,Qcu rfl⟩):Cll P det f l hp n K:=Qag hF [⟨n0,0⟩,⟨n1,0⟩,⟨n2,0⟩,⟨n3,0⟩] [(n0,q0),(n1,q1),(n2,q2),(n3,q3)] h2 ⟨a0,a1,a2,a3,trivial⟩ ⟨rfl,b0,rfl,b1,rfl,b2,rfl,b3,trivial⟩ h5 k
theorem QsG {P:Program} {det:Bool} {f:FuncId} {l:List AV} {hp:Hp} {n:Nat} {K:KK} {args:List AV} {r0 r1 r2 r3:Row} {R:Res} {n0 n1 n2 n3:Nat} {q0 q1 q2 q3:Row} (hF:Fn P f args [r0,r1,r2,r3] (. =R)) (k:Vl (R.ef [⟨n0,0⟩,⟨n1,0⟩,⟨n2,0⟩,⟨n3,0⟩] [r0,r1,r2,r3].length n) fun e=>K [(n0,q0),(n1,q1),(n2,q2),(n3,q3)] e) (h2:l=args.map (QcZ [⟨n0,0⟩,⟨n1,0⟩,⟨n2,0⟩,⟨n3,0⟩] [r0,r1,r2,r3].length n):=by exact aRn) (a0:hp n0=some q0:=by exact rfl) (b0:Qdm [⟨n0,0⟩,⟨n1,0⟩,⟨n2,0⟩,⟨n3,0⟩] [r0,r1,r2,r3].length n 0 ⟨n0,0⟩ r0 q0:=by exact Qap (by assumption)) (a1:hp n1=some q1:=by exact rfl) (b1:Qdm [⟨n0,0⟩,⟨n1,0⟩,⟨n2,0⟩,⟨n3,0⟩] [r0,r1,r2,r3].length n 1 ⟨n1,0⟩ r1 q1:=by exact Qap (by assumption)) (a2:hp n2=some q2:=by exact rfl) (b2:Qdm [⟨n0,0⟩,⟨n1,0⟩,⟨n2,0⟩,⟨n3,0⟩] [r0,r1,r2,r3].length n 2 ⟨n2,0⟩ r2 q2:=by exact Qap (by assumption)) (a3:hp n3=some q3:=by exact rfl) (b3:Qdm [⟨n0,0⟩,⟨n1,0⟩,⟨n2,0⟩,⟨n3,0⟩] [r0,r1,r2,r3].length n 3 ⟨n3,0⟩ r3 q3:=by exact Qap (by assumption)) (h5:Nat.ble R.nw.length Qaq=true/\∀ p∈R.up,p.1< [r0,r1,r2,r3].length:=by exact ⟨rfl,Qcu rfl⟩):Cll P det f l hp n K:=Qag hF [⟨n0,0⟩,⟨n1,0⟩,⟨n2,0⟩,⟨n3,0⟩] [(n0,q0),(n1,q1),(n2,q2),(n3,q3)] h2 ⟨a0,a1,a2,a3,trivial⟩ ⟨rfl,b0,rfl,b1,rfl,b2,rfl,b3,trivial⟩ h5 k
theorem Qaw {P:Program} {det:Bool} {f:FuncId} {l:List AV} {hp:Hp} {n:Nat} {K:KK} {args:List AV} {r0 r1 r2 r3 r4:Row} {R:Res} {n0 n1 n2 n3 n4:Nat} {q0 q1 q2 q3 q4:Row} (hF:Fn P f args [r0,r1,r2,r3,r4] (. =R)) (k:Vl (R.ef [⟨n0,0⟩,⟨n1,0⟩,⟨n2,0⟩,⟨n3,0⟩,⟨n4,0⟩] [r0,r1,r2,r3,r4].length n) fun e=>K [(n0,q0),(n1,q1),(n2,q2),(n3,q3),(n4,q4)] e) (h2:l=args.map (QcZ [⟨n0,0⟩,⟨n1,0⟩,⟨n2,0⟩,⟨n3,0⟩,⟨n4,0⟩] [r0,r1,r2,r3,r4].length n):=by exact aRn) (a0:hp n0=some q0:=by exact rfl) (b0:Qdm [⟨n0,0⟩,⟨n1,0⟩,⟨n2,0⟩,⟨n3,0⟩,⟨n4,0⟩] [r0,r1,r2,r3,r4].length n 0 ⟨n0,0⟩ r0 q0:=by exact QbO rfl rfl) (a1:hp n1=some q1:=by exact rfl) (b1:Qdm [⟨n0,0⟩,⟨n1,0⟩,⟨n2,0⟩,⟨n3,0⟩,⟨n4,0⟩] [r0,r1,r2,r3,r4].length n 1 ⟨n1,0⟩ r1 q1:=by exact QaE (by assumption) rfl) (a2:hp n2=some q2:=by exact rfl) (b2:Qdm [⟨n0,0⟩,⟨n1,0⟩,⟨n2,0⟩,⟨n3,0⟩,⟨n4,0⟩] [r0,r1,r2,r3,r4].length n 2 ⟨n2,0⟩ r2 q2:=by exact QaE (by assumption) rfl) (a3:hp n3=some q3:=by exact rfl) (b3:Qdm [⟨n0,0⟩,⟨n1,0⟩,⟨n2,0⟩,⟨n3,0⟩,⟨n4,0⟩] [r0,r1,r2,r3,r4].length n 3 ⟨n3,0⟩ r3 q3:=by exact QaE (by assumption) rfl) (a4:hp n4=some q4:=by exact rfl) (b4:Qdm [⟨n0,0⟩,⟨n1,0⟩,⟨n2,0⟩,⟨n3,0⟩,⟨n4,0⟩] [r0,r1,r2,r3,r4].length n 4 ⟨n4,0⟩ r4 q4:=by exact QaE (by assumption) rfl) (h5:Nat.ble R.nw.length Qaq=true/\∀ p∈R.up,p.1< [r0,r1,r2,r3,r4].length:=by exact ⟨rfl,Qcu rfl⟩):Cll P det f l hp n K:=Qag hF [⟨n0,0⟩,⟨n1,0⟩,⟨n2,0⟩,⟨n3,0⟩,⟨n4,0⟩] [(n0,q0),(n1,q1),(n2,q2),(n3,q3),(n4,q4)] h2 ⟨a0,a1,a2,a3,a4,trivial⟩ ⟨rfl,b0,rfl,b1,rfl,b2,rfl,b3,rfl,b4,trivial⟩ h5 k
theorem Qks {P:Program} {det:Bool} {f:FuncId} {l:List AV} {hp:Hp} {n:Nat} {K:KK} {args:List AV} {r0 r1 r2 r3 r4 r5:Row} {R:Res} {n0 n1 n2 n3 n4 n5:Nat} {q0 q1 q2 q3 q4 q5:Row} (hF:Fn P f args [r0,r1,r2,r3,r4,r5] (. =R)) (k:Vl (R.ef [⟨n0,0⟩,⟨n1,0⟩,⟨n2,0⟩,⟨n3,0⟩,⟨n4,0⟩,⟨n5,0⟩] [r0,r1,r2,r3,r4,r5].length n) fun e=>K [(n0,q0),(n1,q1),(n2,q2),(n3,q3),(n4,q4),(n5,q5)] e) (h2:l=args.map (QcZ [⟨n0,0⟩,⟨n1,0⟩,⟨n2,0⟩,⟨n3,0⟩,⟨n4,0⟩,⟨n5,0⟩] [r0,r1,r2,r3,r4,r5].length n):=by exact aRn) (a0:hp n0=some q0:=by exact rfl) (b0:Qdm [⟨n0,0⟩,⟨n1,0⟩,⟨n2,0⟩,⟨n3,0⟩,⟨n4,0⟩,⟨n5,0⟩] [r0,r1,r2,r3,r4,r5].length n 0 ⟨n0,0⟩ r0 q0:=by exact QbO rfl rfl) (a1:hp n1=some q1:=by exact rfl) (b1:Qdm [⟨n0,0⟩,⟨n1,0⟩,⟨n2,0⟩,⟨n3,0⟩,⟨n4,0⟩,⟨n5,0⟩] [r0,r1,r2,r3,r4,r5].length n 1 ⟨n1,0⟩ r1 q1:=by exact QaE (by assumption) rfl) (a2:hp n2=some q2:=by exact rfl) (b2:Qdm [⟨n0,0⟩,⟨n1,0⟩,⟨n2,0⟩,⟨n3,0⟩,⟨n4,0⟩,⟨n5,0⟩] [r0,r1,r2,r3,r4,r5].length n 2 ⟨n2,0⟩ r2 q2:=by exact QaE (by assumption) rfl) (a3:hp n3=some q3:=by exact rfl) (b3:Qdm [⟨n0,0⟩,⟨n1,0⟩,⟨n2,0⟩,⟨n3,0⟩,⟨n4,0⟩,⟨n5,0⟩] [r0,r1,r2,r3,r4,r5].length n 3 ⟨n3,0⟩ r3 q3:=by exact QaE (by assumption) rfl) (a4:hp n4=some q4:=by exact rfl) (b4:Qdm [⟨n0,0⟩,⟨n1,0⟩,⟨n2,0⟩,⟨n3,0⟩,⟨n4,0⟩,⟨n5,0⟩] [r0,r1,r2,r3,r4,r5].length n 4 ⟨n4,0⟩ r4 q4:=by exact QaE (by assumption) rfl) (a5:hp n5=some q5:=by exact rfl) (b5:Qdm [⟨n0,0⟩,⟨n1,0⟩,⟨n2,0⟩,⟨n3,0⟩,⟨n4,0⟩,⟨n5,0⟩] [r0,r1,r2,r3,r4,r5].length n 5 ⟨n5,0⟩ r5 q5:=by exact Qap (by assumption)) (h5:Nat.ble R.nw.length Qaq=true/\∀ p∈R.up,p.1< [r0,r1,r2,r3,r4,r5].length:=by exact ⟨rfl,Qcu rfl⟩):Cll P det f l hp n K:=Qag hF [⟨n0,0⟩,⟨n1,0⟩,⟨n2,0⟩,⟨n3,0⟩,⟨n4,0⟩,⟨n5,0⟩] [(n0,q0),(n1,q1),(n2,q2),(n3,q3),(n4,q4),(n5,q5)] h2 ⟨a0,a1,a2,a3,a4,a5,trivial⟩ ⟨rfl,b0,rfl,b1,rfl,b2,rfl,b3,rfl,b4,rfl,b5,trivial⟩ h5 k
theorem fnW {f : FuncId} {fn : Func} (hf : Tryz.prog.funcs[f]? = some fn) {c : Code} {args : List AV} {H : List Row} {Post : Res -> Prop} {tm : Tm} {hl : Hl} (k : vc Tryz.prog tys fn.ntmps H.length c ⟨tm,hl,[0]⟩ (QHG tys H Post fn.results.toList)) (hb : fn.body = some c := by exact rfl) (h1 : QkI 0 args = tm := by (dsimp only [QkI,Nat.zero_add,Nat.reduceAdd]); first | done | exact rfl) (h2 : Qdb 0 H = hl := by (dsimp only [Qdb,Nat.zero_add,Nat.reduceAdd]); first | done | exact rfl) (gF : (Nat.ble args.length fn.ntmps && Nat.ble H.length 1000) = true := by exact rfl) (hn : (fn.name == "runtime.NumGoroutine") = false := by kernel_rfl) : FN f args H Post := by
 subst h1 h2;exact Qmn Qyc Qm2 _ _ hf hn hb rfl rfl gF k
theorem zpu {P:Program} {det:Bool} {f:FuncId} {l:List AV} {hp:Hp} {n0:Nat} {K:KK} {args:List AV} {v:TV} (hF:Fn P f args [] (. =⟨v,[],[]⟩)) (k:Vl (QCG [] 0 n0 v) fun v=>K [] ⟨v,[],[]⟩) (h2:l=args.map (QcZ [] 0 n0):=by exact aRn):Cll P det f l hp n0 K:=Qad hF h2 k
theorem zwL (m:Rn) {N k:Nat} {σ σ':St} (h1:TmL m (tmG σ.tm) σ'.tm:=by ((repeat' (first|exact QaY|apply QaN));all_goals exact aFi)) (h2:HlL m (hpG σ.h) σ'.h:=by ((show HlS _ _ [] _);exact aFi)) (h3:(QAy m σ'.ids&&idn m k)=true:=by (first|exact rfl|rfl|kernel_rfl)):Wk N k σ σ':=Qcg m h1 h2 h3
theorem zwV (m:Rn) {N k:Nat} {σ σ':St} (h1:TmL m (tmG σ.tm) σ'.tm:=by ((repeat' (first|exact QaY|apply QaN));all_goals exact aFi)) (h2:HlV m (hpG σ.h) σ'.h:=by ((show QcE _ _ _ [] _);exact aFi)) (h3:(QAy m σ'.ids&&idn m k)=true:=by (first|exact rfl|rfl|kernel_rfl)):Wk N k σ σ':=QG6 m h1 h2 h3
def kEq:IntKind->IntKind->Bool
 | .i8,.i8=>true| .i16,.i16=>true| .i32,.i32=>true| .i64,.i64=>true
 | .u8,.u8=>true| .u16,.u16=>true| .u32,.u32=>true| .u64,.u64=>true
 | _,_=>false
theorem Qmv {a b:IntKind} (h:kEq a b=true):a=b:=by cases a<;>cases b<;>first|rfl|cases h
def Qeb:List UInt8->List UInt8->Bool
 | [],[]=>true
 | a::l,b::m=>match Nat.beq a.toNat b.toNat with
  | true=>Qeb l m
  | false=>false
 | _,_=>false
theorem QbQ:∀ l m:List UInt8,Qeb l m=(l==m)
 | [],[]=>rfl
 | a::l,[]=>rfl
 | [],b::m=>rfl
 | a::l,b::m=>by
  unfold Qeb;rw [QbQ l m]
  cases hb:Nat.beq a.toNat b.toNat with
  | true =>
   have:a=b:=UInt8.toNat_inj.1 (zbq hb);subst this;simp
  | false=>grind [Nat.beq_refl,Qeb,Nat.beq,zbq]
inductive SK where
 | int|bool|str
def eqS:SK->SV->SV->Option Bool
 | .int,.int k m,.int k' n=>match kEq k k' with
  | true=>some (m==n)
  | false=>none
 | .bool,.bool m,.bool n=>some (m==n)
 | .str,.str m,.str n=>some (Qeb m.data.toList n.data.toList)
 | _,_,_=>none
def QaQ:List SK->List SV->List SV->Option Bool
 | [],[],[]=>some true
 | k::ks,a::l,b::m=>match eqS k a b with
  | some x=>match QaQ ks l m with
   | some y=>some (x&&y)
   | none=>none
  | none=>none
 | _,_,_=>none
theorem Qef:∀ {ks:List SK} {l m:List SV} {b:Bool},QaQ ks l m=some b->l.length=ks.length/\m.length=ks.length
 | [],[],[],b,_=>⟨rfl,rfl⟩
 | k::ks,a::l,c::m,b,h=>by
  unfold QaQ at h;split at h
  .split at h
   .rename_i y hy;have:=Qef hy;simp [this]
   .cases h
  .cases h
 | [],_::_,_,_,h=>by cases h
 | [],[],_::_,_,h=>by cases h
 | _::_,[],_,_,h=>by cases h
 | _::_,_::_,[],_,h=>by cases h
theorem QcH:∀ {ks ks':List SK} {l m:List SV} {b:Bool},QaQ (ks++ks') l m=some b ->
  ∃ x y,QaQ ks (l.take ks.length) (m.take ks.length)=some x/\QaQ ks' (l.drop ks.length) (m.drop ks.length)=some y/\b=(x&&y)
 | [],ks',l,m,b,h=>⟨true,b,by simp [QaQ],by simpa using h,by simp⟩
 | k::ks,ks',a::l,c::m,b,h=>by
  change QaQ (k::(ks++ks')) (a::l) (c::m)=some b at h;unfold QaQ at h;split at h
  .rename_i x hx
   split at h
   .rename_i y hy
    injection h with h
    obtain ⟨u,v,h1,h2,rfl⟩:=QcH hy;refine ⟨x&&u,v,?_,by simpa using h2,by rw [<- h,Bool.and_assoc]⟩;simp only [List.length_cons,List.take_succ_cons];unfold QaQ;rw [hx,h1]
   .cases h
  .cases h
 | _::_,_,[],_,_,h=>by cases h
 | _::_,_,_::_,[],_,h=>by cases h
def QFs (ag:Bool) (ρ:Nm) (l:List SV) (v:Value):Prop:=match ag with
 | true=>∃ cs,v= .agg cs/\VSs ρ l cs.toList
 | false=>∃ s,l= [s]/\VS ρ s v
def QAn (P:Program) (d:Nat) (t:TypeId) (ag:Bool) (ks:List SK):Prop :=
 ∀ (ρ:Nm) (w:World) (l l':List SV) (v v':Value) (b:Bool),QFs ag ρ l v->QFs ag ρ l' v'->QaQ ks l l'=some b->(Op.equalIn d t v v').run P w= .ok b w
theorem Qf4 {P:Program} {T:Tys} (hT:QaU P T) {t:TypeId} {y:Ty} (hy:T t=some y) {ρ:Nm} {w:World} {l:List SV} {cs:Array Value} (h:VSs ρ l cs.toList) (off:Nat) (hl:off+y.size<=l.length) (hs:y.kind.agg=false->y.size=1) :
  ∃ v,(part t cs off).run P w= .ok v w/\QFs y.kind.agg ρ ((l.drop off).take y.size) v:=by
 have ha:=(hT t y hy).agg w;have hz:=(hT t y hy).sizeOf w;have gF:l.length=cs.size:=by have:=h.1;simpa using this
 cases e:y.kind.agg with
 | true =>
  rw [e] at ha;refine ⟨.agg (cs.extract off (off+y.size)),by simp [part,ha,hz],_,rfl,?_⟩;exact Qwf h off y.size
 | false =>
  rw [e] at ha;have h1:=hs e;rw [h1] at hl |-;have gU:off<l.length:=by omega
  obtain ⟨v,h2,h3⟩:=h.2 off _ (zgg gU);have h2:cs[off]?=some v:=by simpa using h2
  refine ⟨v,by simp [part,ha,h2],l[off],?_,h3⟩;rw [List.drop_eq_getElem_cons gU];rfl
theorem Qtp {P:Program} {d:Nat} {t:TypeId} {k:IntKind} (h:P.underlying t=some (.int k)):QAn P (d+1) t false [.int]:=by
 rintro ρ w l l' v v' b ⟨s,rfl,h1⟩ ⟨s',rfl,h2⟩ he;unfold QaQ at he;split at he
 .rename_i x hx
  simp only [QaQ,Option.some.injEq,Bool.and_true] at he;subst he;unfold eqS at hx;split at hx<;>try cases hx
  .split at hx
   .rename_i hk
    injection hx with hx;subst hx
    have:=Qmv hk;subst this;have h1:v=_:=h1;have h2:v'=_:=h2;rw [h1,h2];exact run_equalIn_int w d t _ k _ _ h
   .cases hx
  all_goals contradiction
 .cases he
theorem QpB {P:Program} {d:Nat} {t:TypeId} (h:P.underlying t=some .bool):QAn P (d+1) t false [.bool]:=by
 rintro ρ w l l' v v' b ⟨s,rfl,h1⟩ ⟨s',rfl,h2⟩ he;unfold QaQ at he;split at he
 .rename_i x hx
  simp only [QaQ,Option.some.injEq,Bool.and_true] at he;subst he;unfold eqS at hx;split at hx<;>try cases hx
  .grind
  .have h1:v=_:=h1
   have h2:v'=_:=h2;rw [h1,h2];exact run_equalIn_bool w d t _ _ h
  .grind
 .cases he
theorem Qtq {P:Program} {d:Nat} {t:TypeId} (h:P.underlying t=some .string):QAn P (d+1) t false [.str]:=by
 rintro ρ w l l' v v' b ⟨s,rfl,h1⟩ ⟨s',rfl,h2⟩ he;unfold QaQ at he;split at he
 .rename_i x hx
  simp only [QaQ,Option.some.injEq,Bool.and_true] at he;subst he;unfold eqS at hx;split at hx<;>try cases hx
  .grind
  .grind
  .have h1:v=_:=h1
   have h2:v'=_:=h2;rw [h1,h2,run_equalIn_string w d t _ _ h,QbQ,ByteArray.toList_eq,ByteArray.toList_eq]
 .cases he
def QCW (sh:TypeId->Option (List SK)):Nat->List (Nat × TypeId)->Option (List SK)
 | _,[]=>some []
 | o,p::l=>match Nat.beq p.1 o with
  | true=>match sh p.2 with
   | some a=>match QCW sh (o+a.length) l with
    | some b=>some (a++b)
    | none=>none
   | none=>none
  | false=>none
def QAG (a:List SK):Nat->List SK
 | 0=> []
 | n+1=>a++QAG a n
def shp (T:Tys):Nat->TypeId->Option (List SK)
 | 0,_=>none
 | d+1,t=>match T t with
  | some y=>match y.kind with
   | .int _=>match Nat.beq y.size 1 with|true=>some [.int]|false=>none
   | .bool=>match Nat.beq y.size 1 with|true=>some [.bool]|false=>none
   | .str=>match Nat.beq y.size 1 with|true=>some [.str]|false=>none
   | .struct fs=>match QCW (shp T d) 0 fs with
    | some a=>match Nat.beq a.length y.size&&Nat.blt 0 y.size with|true=>some a|false=>none
    | none=>none
   | .array n e=>match shp T d e with
    | some a=>match Nat.beq (QAG a n).length y.size&&Nat.blt 0 y.size with|true=>some (QAG a n)|false=>none
    | none=>none
   | _=>none
  | none=>none
def Qma (c:TypeId->Bool):List Field->Bool
 | []=>true
 | f :: l => (f.name != "_") && c f.type && Qma c l
def Qjd (P:Program):Nat->TypeId->Bool
 | 0,_=>true
 | d+1,t=>match P.underlying t with
  | some (.struct fs)=> !P.stoodInHeld t&&Qma (Qjd P d) fs.toList
  | some (.array _ e)=>Qjd P d e
  | _=>true
theorem Qzu {T:Tys} {d:Nat} {t:TypeId} {a:List SK} (h:shp T d t=some a):∃ y,T t=some y/\a.length=y.size/\(y.kind.agg=false->y.size=1)/\0<y.size:=by
 cases d with
 | zero=>cases h
 | succ d =>
  unfold shp at h;split at h
  .rename_i y hy
   refine ⟨y,hy,?_⟩;split at h<;>rename_i hk
   .split at h
    .rename_i hb;injection h with h;subst h;have hb:=zbq hb;exact ⟨hb.symm,fun _=>hb,by omega⟩
    .cases h
   .split at h
    .rename_i hb;injection h with h;subst h;have hb:=zbq hb;exact ⟨hb.symm,fun _=>hb,by omega⟩
    .cases h
   .split at h
    .rename_i hb;injection h with h;subst h;have hb:=zbq hb;exact ⟨hb.symm,fun _=>hb,by omega⟩
    .cases h
   .split at h
    .split at h
     .rename_i hb;injection h with h;subst h;rw [zba] at hb;exact ⟨zbq hb.1,fun e=>(by rw [hk] at e;cases e),by simpa using hb.2⟩
     .cases h
    .cases h
   .split at h
    .split at h
     .rename_i hb;injection h with h;subst h;rw [zba] at hb;exact ⟨zbq hb.1,fun e=>(by rw [hk] at e;cases e),by simpa using hb.2⟩
     .cases h
    .cases h
   .cases h
  .cases h
theorem QvH {P:Program} {T:Tys} (hT:QaU P T) {d:Nat} {sh:TypeId->Option (List SK)} {c:TypeId->Bool} (hd:∀ t a,sh t=some a->c t=true->∃ y,T t=some y/\a.length=y.size/\(y.kind.agg=false->y.size=1)/\0<y.size/\QAn P d t y.kind.agg a)
  {ρ:Nm} {w:World}:∀ (fs:List Field) (o:Nat) (ks:List SK) (l l':List SV) (cs cs':Array Value) (b:Bool),QCW sh o (fs.map fun f=>(f.offset,f.type))=some ks->Qma c fs=true->VSs ρ l cs.toList->VSs ρ l' cs'.toList ->
  QaQ ks (l.drop o) (l'.drop o)=some b->(Op.eqFields d cs cs' fs).run P w= .ok b w
 | [],o,ks,l,l',cs,cs',b,h,_,_,_,he=>by
  simp only [List.map_nil,QCW,Option.some.injEq] at h;subst h
  have:b=true:=by
   cases e1:l.drop o<;>cases e2:l'.drop o<;>rw [e1,e2] at he<;>simp [QaQ] at he
   first|exact he|exact he.symm
  subst this;simp [Op.eqFields]
 | f::fs,o,ks,l,l',cs,cs',b,h,hc,h1,h2,he=>by
  simp only [List.map_cons] at h;unfold QCW at h;simp only [] at h;split at h
  .rename_i ho
   have ho:=zbq ho;split at h
   .rename_i a ha
    split at h
    .rename_i r hr
     injection h with h;subst h
     unfold Qma at hc;rw [zba,zba] at hc;obtain ⟨⟨hn,gK⟩,hc⟩:=hc;obtain ⟨y,hy,gF,qA,_,qB⟩:=hd _ _ ha gK;obtain ⟨u,v,g1,g2,rfl⟩:=QcH he;have hL:=Qef g1
     have VX:o+y.size<=l.length:=by
      have:=hL.1;rw [gF] at this;simp at this;omega
     have JI:o+y.size<=l'.length:=by
      have:=hL.2;rw [gF] at this;simp at this;omega
     obtain ⟨p,p1,p2⟩:=Qf4 (P:=P) hT hy (w:=w) h1 o VX qA;obtain ⟨p',p1',p2'⟩:=Qf4 (P:=P) hT hy (w:=w) h2 o JI qA;rw [gF] at g1 g2;have hq:=qB ρ w _ _ p p' u p2 p2' g1;have jE:=QvH hT hd (w:=w) fs (o+a.length) r l l' cs cs' v hr hc h1 h2 (by rw [gF];simpa [List.drop_drop,Nat.add_comm] using g2);have uG : f.name ≠ "_" := by simpa using hn
     unfold Op.eqFields;rw [zP uG,ho];simp only [Sem.run_bind,p1,p1',Result.andThen_ok,hq];cases u
     .simp
     .simp [jE]
    .cases h
   .cases h
  .cases h
theorem QvG {P:Program} {T:Tys} (hT:QaU P T) {d:Nat} {e:TypeId} {a:List SK} {y:Ty} (hy:T e=some y) (gF:a.length=y.size) (qA:y.kind.agg=false->y.size=1) (uV:0<y.size) (qB:QAn P d e y.kind.agg a)
  {ρ:Nm} {w:World} {l l':List SV} {cs cs':Array Value} (h1:VSs ρ l cs.toList) (h2:VSs ρ l' cs'.toList):∀ (n i:Nat) (b:Bool),QaQ (QAG a n) (l.drop (i*y.size)) (l'.drop (i*y.size))=some b ->
   ((
    forIn (List.range' i n) ((none,()):Option Bool × PUnit) fun i r=>do
    if !(<- Op.equalIn d e (<- part e cs (i*y.size)) (<- part e cs' (i*y.size))) then pure (ForInStep.done (some false,())) else pure (ForInStep.yield (none,()))):Sem (Option Bool × PUnit)).run P w= .ok (if b then (none,()) else (some false,())) w
 | 0,i,b,he=>by
  have:b=true:=by
   cases e1:l.drop (i*y.size)<;>cases e2:l'.drop (i*y.size)<;>rw [e1,e2] at he<;>simp [QaQ,QAG] at he
   first|exact he|exact he.symm
  subst this;simp
 | n+1,i,b,he=>by
  unfold QAG at he;obtain ⟨u,v,g1,g2,rfl⟩:=QcH he;have hL:=Qef g1
  have VX:i*y.size+y.size<=l.length:=by
   have:=hL.1;rw [gF] at this;simp at this;omega
  have JI:i*y.size+y.size<=l'.length:=by
   have:=hL.2;rw [gF] at this;simp at this;omega
  obtain ⟨p,p1,p2⟩:=Qf4 (P:=P) hT hy (w:=w) h1 (i*y.size) VX qA;obtain ⟨p',p1',p2'⟩:=Qf4 (P:=P) hT hy (w:=w) h2 (i*y.size) JI qA;rw [gF] at g1 g2;have hq:=qB ρ w _ _ p p' u p2 p2' g1;have jE:=QvG hT hy gF qA uV qB (w:=w) h1 h2 n (i+1) v (by rw [Nat.succ_mul];simpa [List.drop_drop,Nat.add_comm] using g2);rw [List.range'_succ,List.forIn_cons];simp only [Sem.run_bind,p1,p1',Result.andThen_ok,hq];cases u
  .simp
  .simp only [Bool.not_true,Bool.false_eq_true,if_false,Sem.run_pure,Result.andThen_ok,Bool.true_and]
   exact jE
theorem Qwi {P:Program} {T:Tys} (hT:QaU P T):∀ (d d':Nat) (t:TypeId) (a:List SK),shp T d t=some a->Qjd P d t=true->d<=d'->∃ y,T t=some y/\a.length=y.size/\(y.kind.agg=false->y.size=1)/\0<y.size/\QAn P d' t y.kind.agg a
 | 0,_,_,_,h,_,_=>by cases h
 | d+1,0,_,_,_,_,h=>by omega
 | d+1,d'+1,t,a,h,hc,jZ=>by
  obtain ⟨y,hy,h1,h2,h3⟩:=Qzu h;refine ⟨y,hy,h1,h2,h3,?_⟩;have ih:=fun t a h hc=>Qwi hT d d' t a h hc (by omega)
  unfold shp at h;rw [hy] at h;simp only [] at h;split at h<;>rename_i hk
  .split at h
   .injection h with h;subst h;rw [hk];exact Qtp ((hT t y hy).int hk)
   .cases h
  .split at h
   .injection h with h;subst h;rw [hk];exact QpB ((hT t y hy).bool hk)
   .cases h
  .split at h
   .injection h with h;subst h;rw [hk];exact Qtq ((hT t y hy).str hk)
   .cases h
  .rename_i fs
   split at h
   .rename_i a' KS
    split at h
    .injection h with h;subst h
     obtain ⟨fields,hu,hfs⟩:=(hT t y hy).struct hk;unfold Qjd at hc;rw [hu] at hc;simp only [zba,Bool.not_eq_true'] at hc;rw [hk];rintro ρ w l l' v v' b ⟨cs,rfl,g1⟩ ⟨cs',rfl,g2⟩ he;have GU:P.fieldsOf t=fields:=by unfold Program.fieldsOf;rw [hu]
     rw [run_equalIn_struct w d' t cs cs' (by rw [GU];exact hu) hc.1,GU];refine QvH hT (sh:=shp T d) (c:=Qjd P d) ih fields.toList 0 _ l l' cs cs' b (by rw [hfs];exact KS) hc.2 g1 g2 ?_;simpa using he
    .cases h
   .cases h
  .rename_i n e
   split at h
   .rename_i a' KS
    split at h
    .injection h with h;subst h
     have hu:=(hT t y hy).arr hk;unfold Qjd at hc;rw [hu] at hc;simp only [] at hc;obtain ⟨ye,q1,q2,q3,q5,q4⟩:=ih e a' KS hc;rw [hk];rintro ρ w l l' v v' b ⟨cs,rfl,g1⟩ ⟨cs',rfl,g2⟩ he;have hz:=(hT e ye q1).sizeOf w;have:=QvG hT q1 q2 q3 q5 q4 (w:=w) g1 g2 n 0 b (by simpa using he);unfold Op.equalIn;simp only [Sem.run_bind,run_underlying hu,Result.andThen_ok,hz,Std.Legacy.Range.forIn_eq_forIn_range',Std.Legacy.Range.size,Nat.sub_zero,Nat.add_one_sub_one,Nat.add_sub_cancel,Nat.div_one];rw [this];cases b<;>simp
    .cases h
   .cases h
  .cases h
theorem QFN {P:Program} {T:Tys} (hT:QaU P T) {t:TypeId} {y:Ty} {ks:List SK} {l l':List SV} {b:Bool} (hy:T t=some y) (zX:y.kind.agg=true) (hs:shp T 8 t=some ks) (hc:Qjd P 8 t=true) (hg:P.eqGuardType P.depth t=false) (he:QaQ ks l l'=some b):QAT P t l l' b:=by
 intro ρ w cs cs' x z h1 h2;obtain ⟨_,q1,_,_,_,q4⟩:=Qwi hT 8 10000 t ks hs hc (by omega);rw [hy] at q1;injection q1 with q1;subst q1
 rw [zX] at q4;have hr:=q4 ρ w l l' (.agg cs) (.agg cs') b ⟨cs,rfl,h1⟩ ⟨cs',rfl,h2⟩ he;refine ⟨run_eqGuard_agg w .eql t x z cs cs' hg,run_eqGuard_agg w .neq t x z cs cs' hg,?_,?_⟩
 .rw [run_eql_struct,hr];rfl
 .rw [run_neq_struct,hr];rfl
end Go.Proofs.YtpgkkfajljekpabGreat
