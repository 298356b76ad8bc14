import Derived.Test.YtjgikeckbeeehaaGreatP1
import Derived.Test.YtjgikeckbeeehaaGreatP3
import Derived.Below
import Derived.Test.YtjgikeckbeeehaaGreatProg
import Derived.KernelRfl
set_option linter.unusedSimpArgs false
set_option linter.unusedVariables false
set_option maxHeartbeats 100000000
set_option maxRecDepth 100000
namespace Go.Proofs.YtjgikeckbeeehaaGreat
open Go Go.RowKit
def LRow (w:World) (v:Value) (len:Nat) (cells:List SV):Prop :=
 ∃ p:PL,∀ (ρ:Nm) (n:Nat),ρ n=some p→RowOk ρ w n ⟨false,1,cells⟩∧VS ρ (.sl n 0 len) v
def isv (k:IntKind) (ls:List Int):List SV:=ls.map fun x=>SV.int k x
theorem lrow_ints {k:IntKind} {w:World} {a:Option Addr} {len cap:Nat} {zs:List Int} (h:RowIn k w a len cap zs):∃ ls:List Int,ls.length=len∧(∀ n∈ls,(Lit.int k n).wf=true)∧LRow w (.slice a len cap) len (isv k ls):=by
 obtain ⟨h1,h2,h3⟩:=h.rd
 refine ⟨zs.take len,h1,h3,?_⟩
 rcases h with ⟨rfl,rfl,rfl,rfl⟩|⟨x,rfl,hl,_,hz,hc,hw⟩
 ·refine ⟨.empty,fun ρ n hn=>⟨?_,none,0,rfl,Nat.le_refl _,.inr ⟨hn,rfl⟩⟩⟩
  unfold RowOk;rw [hn];rfl
 ·by_cases h0:cap=0
  ·refine ⟨.empty,fun ρ n hn=>⟨?_,some x,cap,rfl,hl,.inr ⟨hn,h0⟩⟩⟩
   unfold RowOk;rw [hn]
   have:len=0:=by omega
   subst this;simp [isv]
  ·have hc0:=hc 0 (by omega)
   obtain ⟨b,off,spot⟩:=x
   have hs:spot=none:=by simpa [Addr.add] using World.cell?_spot hc0
   subst hs
   have hadd:∀ j,(⟨b,off,none⟩:Addr).add j=⟨b,off+j,none⟩:=fun j=>by by_cases h:j=0<;>simp [Addr.add,h]
   obtain ⟨c,t,fz,hb⟩:∃ c t fz,w.heap[b]?=some (.cells c t fz):=by
    rw [hadd] at hc0
    unfold World.cell? at hc0
    simp only [] at hc0
    split at hc0
    ·rename_i c t fz e;exact ⟨c,t,fz,e⟩
    ·cases hc0
   have hcell:∀ i,i<cap→c[off+i]?=some (.int k (zs.getD i 0)):=fun i hi=>by
    have:=hc i (by omega)
    rw [hadd] at this
    simpa [World.cell?,hb] using this
   have hsz:off+cap≤c.size:=by
    have:=hcell (cap-1) (by omega)
    have:=(Array.getElem?_eq_some_iff.1 this).1
    omega
   refine ⟨.at ⟨b,off,c.size,1⟩,fun ρ n hn=>⟨?_,some ⟨b,off,none⟩,cap,rfl,hl,.inl ⟨_,hn,.inl ⟨by simp,by simp only [];omega⟩⟩⟩⟩
   unfold RowOk;rw [hn]
   refine ⟨rfl,by simp [isv];omega,c,t,fz,hb,rfl,fun h=>(by cases h),fun i s hs=>?_⟩
   unfold isv at hs
   rw [List.getElem?_map,List.getElem?_take] at hs
   split at hs
   ·rename_i hi
    rw [List.getElem?_eq_getElem (by omega)] at hs
    injection hs with hs;subst hs
    refine ⟨_,hcell i (by omega),?_⟩
    show Value.int k _= .int k _
    rw [List.getD_eq_getElem?_getD,List.getElem?_eq_getElem (by omega)];rfl
   ·cases hs
theorem Qjx {w:World} {a:Option Addr} {len cap:Nat} {zs:List Int} (h:RowIn .u32 w a len cap zs):∃ xs:List Nat,xs.length=len∧(∀ x∈xs,x<4294967296)∧LRow w (.slice a len cap) len (isv .u32 (xs.map fun (x:Nat)=>(x:Int))):=by
 obtain ⟨ls,h1,h2,h3⟩:=lrow_ints h
 have hb:∀ n∈ls,0≤n∧n<4294967296:=fun n hn=>by
  have:=h2 n hn
  simp [Lit.wf,IntKind.min,IntKind.max,IntKind.signed,IntKind.bits] at this
  omega
 have e:(ls.map Int.toNat).map (fun (x:Nat)=>(x:Int))=ls:=by
  rw [List.map_map]
  conv=>rhs;rw [← List.map_id ls]
  refine List.map_congr_left fun n hn=>?_
  have:=hb n hn
  simp only [Function.comp,id]
  omega
 refine ⟨ls.map Int.toNat,by simpa using h1,fun x hx=>?_,by rw [e];exact h3⟩
 obtain ⟨n,hn,rfl⟩:=List.mem_map.1 hx
 have:=hb n hn
 omega
def QrP (w:World):List (Value × Nat × List SV)→List PL→Prop
 | [],[]=>True
 | q::l,p::ps=>(∀ (ρ:Nm) (n:Nat),ρ n=some p→RowOk ρ w n ⟨false,1,q.2.2⟩∧VS ρ (.sl n 0 q.2.1) q.1)∧QrP w l ps
 | _,_=>False
theorem Qi8 {w:World}:∀ {l:List (Value × Nat × List SV)} {ps:List PL},QrP w l ps→l.length=ps.length∧∀ (i:Nat) q p,l[i]?=some q→ps[i]?=some p→∀ (ρ:Nm) (n:Nat),ρ n=some p→RowOk ρ w n ⟨false,1,q.2.2⟩∧VS ρ (.sl n 0 q.2.1) q.1
 | [],[],_=>⟨rfl,fun i q p h=>by simp at h⟩
 | q::l,p::ps,h=>by
  obtain ⟨h1,h2⟩:=Qi8 h.2
  refine ⟨by simp [h1],fun i q' p' hq hp=>?_⟩
  cases i with
  | zero=>injection hq with hq;injection hp with hp;subst hq hp;exact h.1
  | succ i=>exact h2 i q' p' hq hp
 | [],_::_,h=>h.elim
 | _::_,[],h=>h.elim
theorem vas_nil (ρ:Nm):VAs ρ [] []:=⟨rfl,fun k s h=>by simp at h⟩
theorem vas_cons {ρ:Nm} {a:AV} {v:Value} {l:List AV} {vs:List Value} (h:VA ρ a v) (hl:VAs ρ l vs):VAs ρ (a::l) (v::vs) :=
 ⟨by simp [hl.1],fun k s hs=>by
  cases k with
  | zero=>injection hs with hs;subst hs;exact ⟨v,rfl,h⟩
  | succ k=>exact hl.2 k s hs⟩
theorem law_of_fn {P:Program} {f:FuncId} {args:List AV} {H:List Row} {vs:Array Value} {w:World} (q:List (Value × Nat × List SV)) (hq:∀ x∈q,LRow w x.1 x.2.1 x.2.2) (hH:H=q.map fun x=>⟨false,1,x.2.2⟩) (hF:Fn P f args H (· =⟨.a (.s (.bool true)),[],[]⟩))
  (ha:∀ ρ:Nm,(∀ (i:Nat) x,q[i]?=some x→VS ρ (.sl i 0 x.2.1) x.1)→VAs ρ args vs.toList):Calls P f vs w fun e w'=>e= .returned (.bool true)∧Below w.heap.size w w':=by
 obtain ⟨ps,hps⟩:∃ ps:List PL,QrP w q ps:=by
  clear hH ha
  induction q with
  | nil=>exact ⟨[],trivial⟩
  | cons x q ih =>
   obtain ⟨ps,h⟩:=ih fun y hy=>hq y (by simp [hy])
   obtain ⟨p,hp⟩:=hq x (by simp)
   exact ⟨p::ps,hp,h⟩
 obtain ⟨hlen,hat⟩:=Qi8 hps
 have hHl:H.length=ps.length:=by rw [hH];simp [hlen]
 have hrow:∀ (i:Nat) r,H[i]?=some r→∃ x p,q[i]?=some x∧ps[i]?=some p∧r=⟨false,1,x.2.2⟩:=fun i r hr=>by
  rw [hH,List.getElem?_map] at hr
  cases e:q[i]? with
  | none=>rw [e] at hr;cases hr
  | some x =>
   rw [e] at hr
   injection hr with hr
   have hi:i<ps.length:=by rw [← hlen];exact (List.getElem?_eq_some_iff.1 e).1
   exact ⟨x,ps[i],rfl,List.getElem?_eq_getElem hi,hr.symm⟩
 have hown:∀ (i:Nat) r,H[i]?=some r→r.own=false:=fun i r hr=>by obtain ⟨x,p,_,_,rfl⟩:=hrow i r hr;rfl
 refine (hF.2 ⟨fun n=>ps[n]?,fun _ _=>False⟩ w vs (fun n hn=>List.getElem?_eq_none (by omega)) (ha _ fun i x hx=>?_) ⟨fun n r hn=>?_,fun n r m s Ln Lm h1 h2=>?_,fun n r L h1 h2=>?_,rfl,rfl,rfl,Nat.le_refl _,fun _ _ _=>rfl,fun _ _ h=>h.elim⟩).mono fun e w' he=>?_
 ·have hi:i<ps.length:=by rw [← hlen];exact (List.getElem?_eq_some_iff.1 hx).1
  exact (hat i x ps[i] hx (List.getElem?_eq_getElem hi) _ i (List.getElem?_eq_getElem hi)).2
 ·obtain ⟨x,p,h1,h2,rfl⟩:=hrow n r hn
  exact (hat n x p h1 h2 _ n h2).1
 ·rw [hown n r h1] at h2;cases h2
 ·rw [hown n r h1] at h2;cases h2
 ·obtain ⟨_,v,_,rfl,rfl,_,_,hv,hc,_⟩:=he
  have hv:v= .bool true:=hv
  refine ⟨by rw [hv],hc.os,hc.tape,hc.output,hc.size,fun b hb=>hc.block b hb ?_⟩
  rintro ⟨n,r,L,h1,h2,_⟩
  rw [hown n r h1] at h2;cases h2
end Go.Proofs.YtjgikeckbeeehaaGreat
namespace Go.Proofs.YtjgikeckbeeehaaGreat
open Go
def ty2:Ty:=⟨1,8,[.int .i64 0],.int .i64⟩
def ty3:Ty:=⟨1,8,[.int .i64 0],.int .i64⟩
def ty4:Ty:=⟨1,1,[.bool false],.bool⟩
def ty5:Ty:=⟨1,1,[.int .u8 0],.int .u8⟩
def ty6:Ty:=⟨1,1,[.int .u8 0],.int .u8⟩
def ty7:Ty:=⟨4,24,[.int .i64 0,.int .i64 0,.bool false,.int .u8 0],.struct [(0,2),(1,3),(2,4),(3,6)]⟩
def ty8:Ty:=⟨4,24,[.int .i64 0,.int .i64 0,.bool false,.int .u8 0],.struct [(0,2),(1,3),(2,4),(3,6)]⟩
def ty9:Ty:=⟨1,16,[.str { data:= #[] }],.str⟩
def ty10:Ty:=⟨1,16,[.str { data:= #[] }],.str⟩
def ty11:Ty:=⟨1,16,[.str { data:= #[] }],.str⟩
def ty12:Ty:=⟨1,8,[.int .u64 0],.int .u64⟩
def ty13:Ty:=⟨2,24,[.str { data:= #[] },.int .u64 0],.struct [(0,9),(1,12)]⟩
def ty14:Ty:=⟨2,24,[.str { data:= #[] },.int .u64 0],.struct [(0,9),(1,12)]⟩
def ty15:Ty:=⟨1,8,[.nil],.ptr 240⟩
def ty16:Ty:=⟨1,8,[.nil],.ptr 243⟩
def ty17:Ty:=⟨1,8,[.nil],.ptr 252⟩
def ty18:Ty:=⟨1,8,[.nil],.struct [(0,17)]⟩
def ty19:Ty:=⟨1,8,[.nil],.struct [(0,17)]⟩
def ty21:Ty:=⟨1,4,[.int .i32 0],.int .i32⟩
def ty22:Ty:=⟨1,24,[.nilsl],.slice 3⟩
def ty23:Ty:=⟨1,4,[.int .u32 0],.int .u32⟩
def ty24:Ty:=⟨16,64,[.int .u32 0,.int .u32 0,.int .u32 0,.int .u32 0,.int .u32 0,.int .u32 0,.int .u32 0,.int .u32 0,.int .u32 0,.int .u32 0,.int .u32 0,.int .u32 0,.int .u32 0,.int .u32 0,.int .u32 0,.int .u32 0],.array 16 23⟩
def ty25:Ty:=⟨8,32,[.int .u32 0,.int .u32 0,.int .u32 0,.int .u32 0,.int .u32 0,.int .u32 0,.int .u32 0,.int .u32 0],.array 8 23⟩
def ty26:Ty:=⟨25,100,[.int .u32 0,.int .u32 0,.int .u32 0,.int .u32 0,.int .u32 0,.int .u32 0,.int .u32 0,.int .u32 0,.int .u32 0,.int .u32 0,.int .u32 0,.int .u32 0,.int .u32 0,.int .u32 0,.int .u32 0,.int .u32 0,.int .u32 0,.int .u32 0,.int .u32 0,.int .u32 0,.int .u32 0,.int .u32 0,.int .u32 0,.int .u32 0,.int .u32 0],.struct [(0,24),(16,23),(17,25)]⟩
def ty27:Ty:=⟨25,100,[.int .u32 0,.int .u32 0,.int .u32 0,.int .u32 0,.int .u32 0,.int .u32 0,.int .u32 0,.int .u32 0,.int .u32 0,.int .u32 0,.int .u32 0,.int .u32 0,.int .u32 0,.int .u32 0,.int .u32 0,.int .u32 0,.int .u32 0,.int .u32 0,.int .u32 0,.int .u32 0,.int .u32 0,.int .u32 0,.int .u32 0,.int .u32 0,.int .u32 0],.struct [(0,24),(16,23),(17,25)]⟩
def ty28:Ty:=⟨1,24,[.nilsl],.slice 23⟩
def ty29:Ty:=⟨1,16,[.str { data:= #[] }],.struct [(0,9)]⟩
def ty30:Ty:=⟨1,16,[.str { data:= #[] }],.struct [(0,9)]⟩
def ty31:Ty:=⟨3,12,[.bool false,.int .u32 0,.bool false],.struct [(0,4),(1,23),(2,4)]⟩
def ty32:Ty:=⟨3,12,[.bool false,.int .u32 0,.bool false],.struct [(0,4),(1,23),(2,4)]⟩
def ty33:Ty:=⟨8,56,[.int .u32 0,.int .u32 0,.int .u32 0,.int .i64 0,.int .i64 0,.int .u32 0,.int .u32 0,.str { data:= #[] }],.struct [(0,23),(1,23),(2,23),(3,3),(4,3),(5,23),(6,23),(7,9)]⟩
def ty34:Ty:=⟨8,56,[.int .u32 0,.int .u32 0,.int .u32 0,.int .i64 0,.int .i64 0,.int .u32 0,.int .u32 0,.str { data:= #[] }],.struct [(0,23),(1,23),(2,23),(3,3),(4,3),(5,23),(6,23),(7,9)]⟩
def ty35:Ty:=⟨6,24,[.int .u32 0,.int .u32 0,.bool false,.int .u32 0,.bool false,.int .u32 0],.struct [(0,23),(1,23),(2,4),(3,23),(4,4),(5,23)]⟩
def ty36:Ty:=⟨6,24,[.int .u32 0,.int .u32 0,.bool false,.int .u32 0,.bool false,.int .u32 0],.struct [(0,23),(1,23),(2,4),(3,23),(4,4),(5,23)]⟩
def ty37:Ty:=⟨2,8,[.int .u32 0,.int .u32 0],.struct [(0,23),(1,23)]⟩
def ty38:Ty:=⟨2,8,[.int .u32 0,.int .u32 0],.struct [(0,23),(1,23)]⟩
def ty39:Ty:=⟨1,8,[.int .u64 0],.int .u64⟩
def ty40:Ty:=⟨49,264,[.int .u32 0,.int .u32 0,.int .u32 0,.int .u32 0,.int .u32 0,.int .u32 0,.int .u32 0,.int .u32 0,.int .u32 0,.int .u32 0,.int .u32 0,.int .u32 0,.int .u32 0,.int .u32 0,.int .u32 0,.int .u32 0,.int .u32 0,.int .u32 0,.int .u32 0,.int .u32 0,.int .u32 0,.int .u32 0,.int .u32 0,.int .u32 0,.int .u32 0,.nilsl,.str { data:= #[] },.bool false,.int .u32 0,.bool false,.int .u32 0,.int .u32 0,.int .u32 0,.int .i64 0,.int .i64 0,.int .u32 0,.int .u32 0,.str { data:= #[] },.int .u32 0,.int .u32 0,.bool false,.int .u32 0,.bool false,.int .u32 0,.int .u32 0,.int .u32 0,.int .u64 0,.bool false,.bool false],.struct [(0,27),(25,28),(26,30),(27,32),(30,34),(38,36),(44,38),(46,39),(47,4),(48,4)]⟩
def ty41:Ty:=⟨49,264,[.int .u32 0,.int .u32 0,.int .u32 0,.int .u32 0,.int .u32 0,.int .u32 0,.int .u32 0,.int .u32 0,.int .u32 0,.int .u32 0,.int .u32 0,.int .u32 0,.int .u32 0,.int .u32 0,.int .u32 0,.int .u32 0,.int .u32 0,.int .u32 0,.int .u32 0,.int .u32 0,.int .u32 0,.int .u32 0,.int .u32 0,.int .u32 0,.int .u32 0,.nilsl,.str { data:= #[] },.bool false,.int .u32 0,.bool false,.int .u32 0,.int .u32 0,.int .u32 0,.int .i64 0,.int .i64 0,.int .u32 0,.int .u32 0,.str { data:= #[] },.int .u32 0,.int .u32 0,.bool false,.int .u32 0,.bool false,.int .u32 0,.int .u32 0,.int .u32 0,.int .u64 0,.bool false,.bool false],.struct [(0,27),(25,28),(26,30),(27,32),(30,34),(38,36),(44,38),(46,39),(47,4),(48,4)]⟩
def ty50:Ty:=⟨4,32,[.int .i64 0,.int .i64 0,.int .i64 0,.int .u32 0],.struct [(0,3),(1,3),(2,3),(3,23)]⟩
def ty51:Ty:=⟨4,32,[.int .i64 0,.int .i64 0,.int .i64 0,.int .u32 0],.struct [(0,3),(1,3),(2,3),(3,23)]⟩
def ty67:Ty:=⟨3,16,[.int .u32 0,.int .u32 0,.int .i64 0],.struct [(0,23),(1,23),(2,3)]⟩
def ty68:Ty:=⟨3,16,[.int .u32 0,.int .u32 0,.int .i64 0],.struct [(0,23),(1,23),(2,3)]⟩
def ty74:Ty:=⟨5,40,[.int .i64 0,.int .i64 0,.int .i64 0,.int .i64 0,.int .i32 0],.struct [(0,3),(1,3),(2,3),(3,3),(4,21)]⟩
def ty75:Ty:=⟨5,40,[.int .i64 0,.int .i64 0,.int .i64 0,.int .i64 0,.int .i32 0],.struct [(0,3),(1,3),(2,3),(3,3),(4,21)]⟩
def ty85:Ty:=⟨1,8,[.int .u64 0],.int .u64⟩
def ty89:Ty:=⟨1,24,[.nilsl],.slice 164⟩
def ty90:Ty:=⟨1,24,[.nilsl],.slice 147⟩
def ty91:Ty:=⟨52,320,[.int .u32 0,.int .u32 0,.int .u32 0,.int .u32 0,.int .u32 0,.int .u32 0,.int .u32 0,.int .u32 0,.int .u32 0,.int .u32 0,.int .u32 0,.int .u32 0,.int .u32 0,.int .u32 0,.int .u32 0,.int .u32 0,.int .u32 0,.int .u32 0,.int .u32 0,.int .u32 0,.int .u32 0,.int .u32 0,.int .u32 0,.int .u32 0,.int .u32 0,.nilsl,.str { data:= #[] },.bool false,.int .u32 0,.bool false,.int .u32 0,.int .u32 0,.int .u32 0,.int .i64 0,.int .i64 0,.int .u32 0,.int .u32 0,.str { data:= #[] },.int .u32 0,.int .u32 0,.bool false,.int .u32 0,.bool false,.int .u32 0,.int .u32 0,.int .u32 0,.int .u64 0,.bool false,.bool false,.int .u32 0,.nilsl,.nilsl],.struct [(0,41),(49,23),(50,89),(51,90)]⟩
def ty92:Ty:=⟨52,320,[.int .u32 0,.int .u32 0,.int .u32 0,.int .u32 0,.int .u32 0,.int .u32 0,.int .u32 0,.int .u32 0,.int .u32 0,.int .u32 0,.int .u32 0,.int .u32 0,.int .u32 0,.int .u32 0,.int .u32 0,.int .u32 0,.int .u32 0,.int .u32 0,.int .u32 0,.int .u32 0,.int .u32 0,.int .u32 0,.int .u32 0,.int .u32 0,.int .u32 0,.nilsl,.str { data:= #[] },.bool false,.int .u32 0,.bool false,.int .u32 0,.int .u32 0,.int .u32 0,.int .i64 0,.int .i64 0,.int .u32 0,.int .u32 0,.str { data:= #[] },.int .u32 0,.int .u32 0,.bool false,.int .u32 0,.bool false,.int .u32 0,.int .u32 0,.int .u32 0,.int .u64 0,.bool false,.bool false,.int .u32 0,.nilsl,.nilsl],.struct [(0,41),(49,23),(50,89),(51,90)]⟩
def ty93:Ty:=⟨1,24,[.nilsl],.slice 215⟩
def ty110:Ty:=⟨5,12,[.bool false,.bool false,.bool false,.int .i32 0,.int .i32 0],.struct [(0,4),(1,4),(2,4),(3,21),(4,21)]⟩
def ty111:Ty:=⟨5,12,[.bool false,.bool false,.bool false,.int .i32 0,.int .i32 0],.struct [(0,4),(1,4),(2,4),(3,21),(4,21)]⟩
def ty121:Ty:=⟨1,24,[.nilsl],.slice 5⟩
def ty124:Ty:=⟨1,8,[.int .i64 0],.int .i64⟩
def ty125:Ty:=⟨2,16,[.int .i64 0,.int .i64 0],.struct [(0,124),(1,3)]⟩
def ty126:Ty:=⟨2,16,[.int .i64 0,.int .i64 0],.struct [(0,124),(1,3)]⟩
def ty138:Ty:=⟨1,2,[.int .i16 0],.int .i16⟩
def ty146:Ty:=⟨3,32,[.int .i64 0,.int .u32 0,.str { data:= #[] }],.struct [(0,3),(1,23),(2,9)]⟩
def ty147:Ty:=⟨3,32,[.int .i64 0,.int .u32 0,.str { data:= #[] }],.struct [(0,3),(1,23),(2,9)]⟩
def ty150:Ty:=⟨1,24,[.nilsl],.slice 178⟩
def ty151:Ty:=⟨1,24,[.nilsl],.slice 156⟩
def ty154:Ty:=⟨1,24,[.nilsl],.slice 158⟩
def ty155:Ty:=⟨6,72,[.str { data:= #[] },.int .i64 0,.nilsl,.int .i64 0,.int .i64 0,.int .i64 0],.struct [(0,9),(1,3),(2,154),(3,3),(4,3),(5,3)]⟩
def ty156:Ty:=⟨6,72,[.str { data:= #[] },.int .i64 0,.nilsl,.int .i64 0,.int .i64 0,.int .i64 0],.struct [(0,9),(1,3),(2,154),(3,3),(4,3),(5,3)]⟩
def ty157:Ty:=⟨3,32,[.int .i64 0,.int .i64 0,.str { data:= #[] }],.struct [(0,3),(1,2),(2,9)]⟩
def ty158:Ty:=⟨3,32,[.int .i64 0,.int .i64 0,.str { data:= #[] }],.struct [(0,3),(1,2),(2,9)]⟩
def ty163:Ty:=⟨4,40,[.int .u64 0,.int .i64 0,.int .u32 0,.str { data:= #[] }],.struct [(0,39),(1,147)]⟩
def ty164:Ty:=⟨4,40,[.int .u64 0,.int .i64 0,.int .u32 0,.str { data:= #[] }],.struct [(0,39),(1,147)]⟩
def ty166:Ty:=⟨1,8,[.nil],.ptr 41⟩
def ty171:Ty:=⟨1,8,[.nil],.ptr 92⟩
def ty173:Ty:=⟨1,24,[.nilsl],.slice 9⟩
def ty177:Ty:=⟨2,24,[.str { data:= #[] },.int .u32 0],.struct [(0,9),(1,23)]⟩
def ty178:Ty:=⟨2,24,[.str { data:= #[] },.int .u32 0],.struct [(0,9),(1,23)]⟩
def ty196:Ty:=⟨1,24,[.nilsl],.slice 200⟩
def ty199:Ty:=⟨3,32,[.int .i64 0,.str { data:= #[] },.bool false],.struct [(0,3),(1,9),(2,4)]⟩
def ty200:Ty:=⟨3,32,[.int .i64 0,.str { data:= #[] },.bool false],.struct [(0,3),(1,9),(2,4)]⟩
def ty214:Ty:=⟨4,40,[.int .i64 0,.int .u64 0,.int .u32 0,.str { data:= #[] }],.struct [(0,3),(1,39),(2,23),(3,9)]⟩
def ty215:Ty:=⟨4,40,[.int .i64 0,.int .u64 0,.int .u32 0,.str { data:= #[] }],.struct [(0,3),(1,39),(2,23),(3,9)]⟩
def ty239:Ty:=⟨4,40,[.nil,.nil,.nil,.str { data:= #[] }],.struct [(0,17),(1,17),(2,17),(3,9)]⟩
def ty240:Ty:=⟨4,40,[.nil,.nil,.nil,.str { data:= #[] }],.struct [(0,17),(1,17),(2,17),(3,9)]⟩
def ty241:Ty:=⟨0,0,[],.array 0 16⟩
def ty242:Ty:=⟨0,0,[],.struct [(0,241)]⟩
def ty243:Ty:=⟨0,0,[],.struct [(0,241)]⟩
def ty245:Ty:=⟨1,1,[.int .u8 0],.int .u8⟩
def ty246:Ty:=⟨1,1,[.int .u8 0],.int .u8⟩
def ty248:Ty:=⟨1,8,[.nil],.ptr 5⟩
def ty249:Ty:=⟨1,4,[.int .i32 0],.int .i32⟩
def ty250:Ty:=⟨1,4,[.int .i32 0],.int .i32⟩
theorem zty {t:TypeId} {d:TypeDesc} (i:TypeInfo) {y:Ty} {z:Value} (h1:Tryz.prog.underlying t=some d) (h2:Tryz.prog.info? t=some i:=by kernel_rfl) (h3:i.size=y.size:=by exact rfl) (h4:i.bytes=y.bytes:=by exact rfl) (h5:Qdq d y.kind:=by first|exact rfl|exact trivial|exact ⟨rfl,rfl⟩) (h6:i.zero=some z:=by exact rfl) (h7:z.cells.toList.map QpS=y.zero:=by exact rfl) (h8:y.zero.length=y.size:=by exact rfl):TyOk Tryz.prog t y:=⟨d,i,z,h1,h2,h3,h4,h5,h6,h7,h8⟩
theorem Quf:TyOk Tryz.prog 2 ty2:=zty Tryz.t2 Tryz.underlying2
theorem Qvq:TyOk Tryz.prog 3 ty3:=zty Tryz.t3 Tryz.underlying3
theorem Quk:TyOk Tryz.prog 4 ty4:=zty Tryz.t4 Tryz.underlying4
theorem Qv9:TyOk Tryz.prog 5 ty5:=zty Tryz.t5 Tryz.underlying5
theorem QvV:TyOk Tryz.prog 6 ty6:=zty Tryz.t6 Tryz.underlying6
theorem Qwn:TyOk Tryz.prog 7 ty7:=zty Tryz.t7 Tryz.underlying7
theorem Qwp:TyOk Tryz.prog 8 ty8:=zty Tryz.t8 Tryz.underlying8
theorem Qws:TyOk Tryz.prog 9 ty9:=zty Tryz.t9 Tryz.underlying9
theorem QtG:TyOk Tryz.prog 10 ty10:=zty Tryz.t10 Tryz.underlying10
theorem QrF:TyOk Tryz.prog 11 ty11:=zty Tryz.t11 Tryz.underlying11
theorem QtB:TyOk Tryz.prog 12 ty12:=zty Tryz.t12 Tryz.underlying12
theorem Qq3:TyOk Tryz.prog 13 ty13:=zty Tryz.t13 Tryz.underlying13
theorem QqX:TyOk Tryz.prog 14 ty14:=zty Tryz.t14 Tryz.underlying14
theorem QsT:TyOk Tryz.prog 15 ty15:=zty Tryz.t15 Tryz.underlying15
theorem Qtc:TyOk Tryz.prog 16 ty16:=zty Tryz.t16 Tryz.underlying16
theorem Qsm:TyOk Tryz.prog 17 ty17:=zty Tryz.t17 Tryz.underlying17
theorem QrB:TyOk Tryz.prog 18 ty18:=zty Tryz.t18 Tryz.underlying18
theorem Qth:TyOk Tryz.prog 19 ty19:=zty Tryz.t19 Tryz.underlying19
theorem Qr2:TyOk Tryz.prog 21 ty21:=zty Tryz.t21 Tryz.underlying21
theorem Qst:TyOk Tryz.prog 22 ty22:=zty Tryz.t22 Tryz.underlying22
theorem Qtq:TyOk Tryz.prog 23 ty23:=zty Tryz.t23 Tryz.underlying23
theorem Qrq:TyOk Tryz.prog 24 ty24:=zty Tryz.t24 Tryz.underlying24
theorem QrO:TyOk Tryz.prog 25 ty25:=zty Tryz.t25 Tryz.underlying25
theorem Qrc:TyOk Tryz.prog 26 ty26:=zty Tryz.t26 Tryz.underlying26
theorem Qtr:TyOk Tryz.prog 27 ty27:=zty Tryz.t27 Tryz.underlying27
theorem QsS:TyOk Tryz.prog 28 ty28:=zty Tryz.t28 Tryz.underlying28
theorem Qrk:TyOk Tryz.prog 29 ty29:=zty Tryz.t29 Tryz.underlying29
theorem QtI:TyOk Tryz.prog 30 ty30:=zty Tryz.t30 Tryz.underlying30
theorem Qrb:TyOk Tryz.prog 31 ty31:=zty Tryz.t31 Tryz.underlying31
theorem Qq5:TyOk Tryz.prog 32 ty32:=zty Tryz.t32 Tryz.underlying32
theorem QrL:TyOk Tryz.prog 33 ty33:=zty Tryz.t33 Tryz.underlying33
theorem QrS:TyOk Tryz.prog 34 ty34:=zty Tryz.t34 Tryz.underlying34
theorem Qsv:TyOk Tryz.prog 35 ty35:=zty Tryz.t35 Tryz.underlying35
theorem QqQ:TyOk Tryz.prog 36 ty36:=zty Tryz.t36 Tryz.underlying36
theorem QqS:TyOk Tryz.prog 37 ty37:=zty Tryz.t37 Tryz.underlying37
theorem QtM:TyOk Tryz.prog 38 ty38:=zty Tryz.t38 Tryz.underlying38
theorem Qs1:TyOk Tryz.prog 39 ty39:=zty Tryz.t39 Tryz.underlying39
theorem Qtt:TyOk Tryz.prog 40 ty40:=zty Tryz.t40 Tryz.underlying40
theorem Qtm:TyOk Tryz.prog 41 ty41:=zty Tryz.t41 Tryz.underlying41
theorem Qsf:TyOk Tryz.prog 50 ty50:=zty Tryz.t50 Tryz.underlying50
theorem QtF:TyOk Tryz.prog 51 ty51:=zty Tryz.t51 Tryz.underlying51
theorem Qrr:TyOk Tryz.prog 67 ty67:=zty Tryz.t67 Tryz.underlying67
theorem Qq7:TyOk Tryz.prog 68 ty68:=zty Tryz.t68 Tryz.underlying68
theorem QqW:TyOk Tryz.prog 74 ty74:=zty Tryz.t74 Tryz.underlying74
theorem QsH:TyOk Tryz.prog 75 ty75:=zty Tryz.t75 Tryz.underlying75
theorem Qtn:TyOk Tryz.prog 85 ty85:=zty Tryz.t85 Tryz.underlying85
theorem Qrl:TyOk Tryz.prog 89 ty89:=zty Tryz.t89 Tryz.underlying89
theorem Qro:TyOk Tryz.prog 90 ty90:=zty Tryz.t90 Tryz.underlying90
theorem QsK:TyOk Tryz.prog 91 ty91:=zty Tryz.t91 Tryz.underlying91
theorem QrD:TyOk Tryz.prog 92 ty92:=zty Tryz.t92 Tryz.underlying92
theorem QrE:TyOk Tryz.prog 93 ty93:=zty Tryz.t93 Tryz.underlying93
theorem QpM:TyOk Tryz.prog 110 ty110:=zty Tryz.t110 Tryz.underlying110
theorem Qnj:TyOk Tryz.prog 111 ty111:=zty Tryz.t111 Tryz.underlying111
theorem QoY:TyOk Tryz.prog 121 ty121:=zty Tryz.t121 Tryz.underlying121
theorem Qpn:TyOk Tryz.prog 124 ty124:=zty Tryz.t124 Tryz.underlying124
theorem Qoj:TyOk Tryz.prog 125 ty125:=zty Tryz.t125 Tryz.underlying125
theorem Qpj:TyOk Tryz.prog 126 ty126:=zty Tryz.t126 Tryz.underlying126
theorem Qo8:TyOk Tryz.prog 138 ty138:=zty Tryz.t138 Tryz.underlying138
theorem QpO:TyOk Tryz.prog 146 ty146:=zty Tryz.t146 Tryz.underlying146
theorem QpJ:TyOk Tryz.prog 147 ty147:=zty Tryz.t147 Tryz.underlying147
theorem Qoq:TyOk Tryz.prog 150 ty150:=zty Tryz.t150 Tryz.underlying150
theorem QnZ:TyOk Tryz.prog 151 ty151:=zty Tryz.t151 Tryz.underlying151
theorem QnV:TyOk Tryz.prog 154 ty154:=zty Tryz.t154 Tryz.underlying154
theorem Qny:TyOk Tryz.prog 155 ty155:=zty Tryz.t155 Tryz.underlying155
theorem QnA:TyOk Tryz.prog 156 ty156:=zty Tryz.t156 Tryz.underlying156
theorem Qpi:TyOk Tryz.prog 157 ty157:=zty Tryz.t157 Tryz.underlying157
theorem Qnr:TyOk Tryz.prog 158 ty158:=zty Tryz.t158 Tryz.underlying158
theorem Qnh:TyOk Tryz.prog 163 ty163:=zty Tryz.t163 Tryz.underlying163
theorem Qn0:TyOk Tryz.prog 164 ty164:=zty Tryz.t164 Tryz.underlying164
theorem Qok:TyOk Tryz.prog 166 ty166:=zty Tryz.t166 Tryz.underlying166
theorem QoG:TyOk Tryz.prog 171 ty171:=zty Tryz.t171 Tryz.underlying171
theorem Qn9:TyOk Tryz.prog 173 ty173:=zty Tryz.t173 Tryz.underlying173
theorem QpK:TyOk Tryz.prog 177 ty177:=zty Tryz.t177 Tryz.underlying177
theorem QpI:TyOk Tryz.prog 178 ty178:=zty Tryz.t178 Tryz.underlying178
theorem Qor:TyOk Tryz.prog 196 ty196:=zty Tryz.t196 Tryz.underlying196
theorem Qn5:TyOk Tryz.prog 199 ty199:=zty Tryz.t199 Tryz.underlying199
theorem Qns:TyOk Tryz.prog 200 ty200:=zty Tryz.t200 Tryz.underlying200
theorem Qod:TyOk Tryz.prog 214 ty214:=zty Tryz.t214 Tryz.underlying214
theorem QoA:TyOk Tryz.prog 215 ty215:=zty Tryz.t215 Tryz.underlying215
theorem QnW:TyOk Tryz.prog 239 ty239:=zty Tryz.t239 Tryz.underlying239
theorem Qou:TyOk Tryz.prog 240 ty240:=zty Tryz.t240 Tryz.underlying240
theorem QoN:TyOk Tryz.prog 241 ty241:=zty Tryz.t241 Tryz.underlying241
theorem QnY:TyOk Tryz.prog 242 ty242:=zty Tryz.t242 Tryz.underlying242
theorem Qnw:TyOk Tryz.prog 243 ty243:=zty Tryz.t243 Tryz.underlying243
theorem QpL:TyOk Tryz.prog 245 ty245:=zty Tryz.t245 Tryz.underlying245
theorem Qoy:TyOk Tryz.prog 246 ty246:=zty Tryz.t246 Tryz.underlying246
theorem Qpe:TyOk Tryz.prog 248 ty248:=zty Tryz.t248 Tryz.underlying248
theorem QoS:TyOk Tryz.prog 249 ty249:=zty Tryz.t249 Tryz.underlying249
theorem Qo2:TyOk Tryz.prog 250 ty250:=zty Tryz.t250 Tryz.underlying250
def tys:Tys:=fun t=>(match Nat.blt t 75 with|true=>(match Nat.blt t 25 with|true=>(match Nat.blt t 13 with|true=>(match Nat.blt t 7 with|true=>(match Nat.blt t 4 with|true=>(match Nat.blt t 3 with|true=>(match Nat.beq t 2 with|true=>some ty2|false=>none)|false=>(match Nat.beq t 3 with|true=>some ty3|false=>none))|false=>(match Nat.blt t 5 with|true=>(match Nat.beq t 4 with|true=>some ty4|false=>none)|false=>(match Nat.blt t 6 with|true=>(match Nat.beq t 5 with|true=>some ty5|false=>none)|false=>(match Nat.beq t 6 with|true=>some ty6|false=>none))))|false=>(match Nat.blt t 10 with|true=>(match Nat.blt t 8 with|true=>(match Nat.beq t 7 with|true=>some ty7|false=>none)|false=>(match Nat.blt t 9 with|true=>(match Nat.beq t 8 with|true=>some ty8|false=>none)|false=>(match Nat.beq t 9 with|true=>some ty9|false=>none)))|false=>(match Nat.blt t 11 with|true=>(match Nat.beq t 10 with|true=>some ty10|false=>none)|false=>(match Nat.blt t 12 with|true=>(match Nat.beq t 11 with|true=>some ty11|false=>none)|false=>(match Nat.beq t 12 with|true=>some ty12|false=>none)))))|false=>(match Nat.blt t 18 with|true=>(match Nat.blt t 15 with|true=>(match Nat.blt t 14 with|true=>(match Nat.beq t 13 with|true=>some ty13|false=>none)|false=>(match Nat.beq t 14 with|true=>some ty14|false=>none))|false=>(match Nat.blt t 16 with|true=>(match Nat.beq t 15 with|true=>some ty15|false=>none)|false=>(match Nat.blt t 17 with|true=>(match Nat.beq t 16 with|true=>some ty16|false=>none)|false=>(match Nat.beq t 17 with|true=>some ty17|false=>none))))|false=>(match Nat.blt t 22 with|true=>(match Nat.blt t 19 with|true=>(match Nat.beq t 18 with|true=>some ty18|false=>none)|false=>(match Nat.blt t 21 with|true=>(match Nat.beq t 19 with|true=>some ty19|false=>none)|false=>(match Nat.beq t 21 with|true=>some ty21|false=>none)))|false=>(match Nat.blt t 23 with|true=>(match Nat.beq t 22 with|true=>some ty22|false=>none)|false=>(match Nat.blt t 24 with|true=>(match Nat.beq t 23 with|true=>some ty23|false=>none)|false=>(match Nat.beq t 24 with|true=>some ty24|false=>none))))))|false=>(match Nat.blt t 36 with|true=>(match Nat.blt t 30 with|true=>(match Nat.blt t 27 with|true=>(match Nat.blt t 26 with|true=>(match Nat.beq t 25 with|true=>some ty25|false=>none)|false=>(match Nat.beq t 26 with|true=>some ty26|false=>none))|false=>(match Nat.blt t 28 with|true=>(match Nat.beq t 27 with|true=>some ty27|false=>none)|false=>(match Nat.blt t 29 with|true=>(match Nat.beq t 28 with|true=>some ty28|false=>none)|false=>(match Nat.beq t 29 with|true=>some ty29|false=>none))))|false=>(match Nat.blt t 33 with|true=>(match Nat.blt t 31 with|true=>(match Nat.beq t 30 with|true=>some ty30|false=>none)|false=>(match Nat.blt t 32 with|true=>(match Nat.beq t 31 with|true=>some ty31|false=>none)|false=>(match Nat.beq t 32 with|true=>some ty32|false=>none)))|false=>(match Nat.blt t 34 with|true=>(match Nat.beq t 33 with|true=>some ty33|false=>none)|false=>(match Nat.blt t 35 with|true=>(match Nat.beq t 34 with|true=>some ty34|false=>none)|false=>(match Nat.beq t 35 with|true=>some ty35|false=>none)))))|false=>(match Nat.blt t 41 with|true=>(match Nat.blt t 38 with|true=>(match Nat.blt t 37 with|true=>(match Nat.beq t 36 with|true=>some ty36|false=>none)|false=>(match Nat.beq t 37 with|true=>some ty37|false=>none))|false=>(match Nat.blt t 39 with|true=>(match Nat.beq t 38 with|true=>some ty38|false=>none)|false=>(match Nat.blt t 40 with|true=>(match Nat.beq t 39 with|true=>some ty39|false=>none)|false=>(match Nat.beq t 40 with|true=>some ty40|false=>none))))|false=>(match Nat.blt t 67 with|true=>(match Nat.blt t 50 with|true=>(match Nat.beq t 41 with|true=>some ty41|false=>none)|false=>(match Nat.blt t 51 with|true=>(match Nat.beq t 50 with|true=>some ty50|false=>none)|false=>(match Nat.beq t 51 with|true=>some ty51|false=>none)))|false=>(match Nat.blt t 68 with|true=>(match Nat.beq t 67 with|true=>some ty67|false=>none)|false=>(match Nat.blt t 74 with|true=>(match Nat.beq t 68 with|true=>some ty68|false=>none)|false=>(match Nat.beq t 74 with|true=>some ty74|false=>none)))))))|false=>(match Nat.blt t 158 with|true=>(match Nat.blt t 125 with|true=>(match Nat.blt t 92 with|true=>(match Nat.blt t 89 with|true=>(match Nat.blt t 85 with|true=>(match Nat.beq t 75 with|true=>some ty75|false=>none)|false=>(match Nat.beq t 85 with|true=>some ty85|false=>none))|false=>(match Nat.blt t 90 with|true=>(match Nat.beq t 89 with|true=>some ty89|false=>none)|false=>(match Nat.blt t 91 with|true=>(match Nat.beq t 90 with|true=>some ty90|false=>none)|false=>(match Nat.beq t 91 with|true=>some ty91|false=>none))))|false=>(match Nat.blt t 111 with|true=>(match Nat.blt t 93 with|true=>(match Nat.beq t 92 with|true=>some ty92|false=>none)|false=>(match Nat.blt t 110 with|true=>(match Nat.beq t 93 with|true=>some ty93|false=>none)|false=>(match Nat.beq t 110 with|true=>some ty110|false=>none)))|false=>(match Nat.blt t 121 with|true=>(match Nat.beq t 111 with|true=>some ty111|false=>none)|false=>(match Nat.blt t 124 with|true=>(match Nat.beq t 121 with|true=>some ty121|false=>none)|false=>(match Nat.beq t 124 with|true=>some ty124|false=>none)))))|false=>(match Nat.blt t 150 with|true=>(match Nat.blt t 138 with|true=>(match Nat.blt t 126 with|true=>(match Nat.beq t 125 with|true=>some ty125|false=>none)|false=>(match Nat.beq t 126 with|true=>some ty126|false=>none))|false=>(match Nat.blt t 146 with|true=>(match Nat.beq t 138 with|true=>some ty138|false=>none)|false=>(match Nat.blt t 147 with|true=>(match Nat.beq t 146 with|true=>some ty146|false=>none)|false=>(match Nat.beq t 147 with|true=>some ty147|false=>none))))|false=>(match Nat.blt t 155 with|true=>(match Nat.blt t 151 with|true=>(match Nat.beq t 150 with|true=>some ty150|false=>none)|false=>(match Nat.blt t 154 with|true=>(match Nat.beq t 151 with|true=>some ty151|false=>none)|false=>(match Nat.beq t 154 with|true=>some ty154|false=>none)))|false=>(match Nat.blt t 156 with|true=>(match Nat.beq t 155 with|true=>some ty155|false=>none)|false=>(match Nat.blt t 157 with|true=>(match Nat.beq t 156 with|true=>some ty156|false=>none)|false=>(match Nat.beq t 157 with|true=>some ty157|false=>none))))))|false=>(match Nat.blt t 214 with|true=>(match Nat.blt t 173 with|true=>(match Nat.blt t 164 with|true=>(match Nat.blt t 163 with|true=>(match Nat.beq t 158 with|true=>some ty158|false=>none)|false=>(match Nat.beq t 163 with|true=>some ty163|false=>none))|false=>(match Nat.blt t 166 with|true=>(match Nat.beq t 164 with|true=>some ty164|false=>none)|false=>(match Nat.blt t 171 with|true=>(match Nat.beq t 166 with|true=>some ty166|false=>none)|false=>(match Nat.beq t 171 with|true=>some ty171|false=>none))))|false=>(match Nat.blt t 196 with|true=>(match Nat.blt t 177 with|true=>(match Nat.beq t 173 with|true=>some ty173|false=>none)|false=>(match Nat.blt t 178 with|true=>(match Nat.beq t 177 with|true=>some ty177|false=>none)|false=>(match Nat.beq t 178 with|true=>some ty178|false=>none)))|false=>(match Nat.blt t 199 with|true=>(match Nat.beq t 196 with|true=>some ty196|false=>none)|false=>(match Nat.blt t 200 with|true=>(match Nat.beq t 199 with|true=>some ty199|false=>none)|false=>(match Nat.beq t 200 with|true=>some ty200|false=>none)))))|false=>(match Nat.blt t 243 with|true=>(match Nat.blt t 240 with|true=>(match Nat.blt t 215 with|true=>(match Nat.beq t 214 with|true=>some ty214|false=>none)|false=>(match Nat.blt t 239 with|true=>(match Nat.beq t 215 with|true=>some ty215|false=>none)|false=>(match Nat.beq t 239 with|true=>some ty239|false=>none)))|false=>(match Nat.blt t 241 with|true=>(match Nat.beq t 240 with|true=>some ty240|false=>none)|false=>(match Nat.blt t 242 with|true=>(match Nat.beq t 241 with|true=>some ty241|false=>none)|false=>(match Nat.beq t 242 with|true=>some ty242|false=>none))))|false=>(match Nat.blt t 248 with|true=>(match Nat.blt t 245 with|true=>(match Nat.beq t 243 with|true=>some ty243|false=>none)|false=>(match Nat.blt t 246 with|true=>(match Nat.beq t 245 with|true=>some ty245|false=>none)|false=>(match Nat.beq t 246 with|true=>some ty246|false=>none)))|false=>(match Nat.blt t 249 with|true=>(match Nat.beq t 248 with|true=>some ty248|false=>none)|false=>(match Nat.blt t 250 with|true=>(match Nat.beq t 249 with|true=>some ty249|false=>none)|false=>(match Nat.beq t 250 with|true=>some ty250|false=>none))))))))
theorem QaL:QaN Tryz.prog tys:=by
 intro t y h
 unfold tys at h
 repeat' split at h
 all_goals first
  | (cases h;done)
  | (injection h with h;subst h;rename_i hb;obtain rfl:=Nat.eq_of_beq_eq_true hb;first|with_reducible exact Quf|with_reducible exact Qvq|with_reducible exact Quk|with_reducible exact Qv9|with_reducible exact QvV|with_reducible exact Qwn|with_reducible exact Qwp|with_reducible exact Qws|with_reducible exact QtG|with_reducible exact QrF|with_reducible exact QtB|with_reducible exact Qq3|with_reducible exact QqX|with_reducible exact QsT|with_reducible exact Qtc|with_reducible exact Qsm|with_reducible exact QrB|with_reducible exact Qth|with_reducible exact Qr2|with_reducible exact Qst|with_reducible exact Qtq|with_reducible exact Qrq|with_reducible exact QrO|with_reducible exact Qrc|with_reducible exact Qtr|with_reducible exact QsS|with_reducible exact Qrk|with_reducible exact QtI|with_reducible exact Qrb|with_reducible exact Qq5|with_reducible exact QrL|with_reducible exact QrS|with_reducible exact Qsv|with_reducible exact QqQ|with_reducible exact QqS|with_reducible exact QtM|with_reducible exact Qs1|with_reducible exact Qtt|with_reducible exact Qtm|with_reducible exact Qsf|with_reducible exact QtF|with_reducible exact Qrr|with_reducible exact Qq7|with_reducible exact QqW|with_reducible exact QsH|with_reducible exact Qtn|with_reducible exact Qrl|with_reducible exact Qro|with_reducible exact QsK|with_reducible exact QrD|with_reducible exact QrE|with_reducible exact QpM|with_reducible exact Qnj|with_reducible exact QoY|with_reducible exact Qpn|with_reducible exact Qoj|with_reducible exact Qpj|with_reducible exact Qo8|with_reducible exact QpO|with_reducible exact QpJ|with_reducible exact Qoq|with_reducible exact QnZ|with_reducible exact QnV|with_reducible exact Qny|with_reducible exact QnA|with_reducible exact Qpi|with_reducible exact Qnr|with_reducible exact Qnh|with_reducible exact Qn0|with_reducible exact Qok|with_reducible exact QoG|with_reducible exact Qn9|with_reducible exact QpK|with_reducible exact QpI|with_reducible exact Qor|with_reducible exact Qn5|with_reducible exact Qns|with_reducible exact Qod|with_reducible exact QoA|with_reducible exact QnW|with_reducible exact Qou|with_reducible exact QoN|with_reducible exact QnY|with_reducible exact Qnw|with_reducible exact QpL|with_reducible exact Qoy|with_reducible exact Qpe|with_reducible exact QoS|with_reducible exact Qo2)
theorem QAu:ty2.bytes=8∧ty3.bytes=8∧ty4.bytes=1∧ty5.bytes=1∧ty6.bytes=1∧ty7.bytes=24∧ty8.bytes=24∧ty9.bytes=16∧ty10.bytes=16∧ty11.bytes=16∧ty12.bytes=8∧ty13.bytes=24∧ty14.bytes=24∧ty15.bytes=8∧ty16.bytes=8∧ty17.bytes=8∧ty18.bytes=8∧ty19.bytes=8∧ty21.bytes=4∧ty22.bytes=24∧ty23.bytes=4∧ty24.bytes=64∧ty25.bytes=32∧ty26.bytes=100∧ty27.bytes=100∧ty28.bytes=24∧ty29.bytes=16∧ty30.bytes=16∧ty31.bytes=12∧ty32.bytes=12∧ty33.bytes=56∧ty34.bytes=56∧ty35.bytes=24∧ty36.bytes=24∧ty37.bytes=8∧ty38.bytes=8∧ty39.bytes=8∧ty40.bytes=264∧ty41.bytes=264∧ty50.bytes=32∧ty51.bytes=32∧ty67.bytes=16∧ty68.bytes=16∧ty74.bytes=40∧ty75.bytes=40∧ty85.bytes=8∧ty89.bytes=24∧ty90.bytes=24∧ty91.bytes=320∧ty92.bytes=320∧ty93.bytes=24∧ty110.bytes=12∧ty111.bytes=12∧ty121.bytes=24∧ty124.bytes=8∧ty125.bytes=16∧ty126.bytes=16∧ty138.bytes=2∧ty146.bytes=32∧ty147.bytes=32∧ty150.bytes=24∧ty151.bytes=24∧ty154.bytes=24∧ty155.bytes=72∧ty156.bytes=72∧ty157.bytes=32∧ty158.bytes=32∧ty163.bytes=40∧ty164.bytes=40∧ty166.bytes=8∧ty171.bytes=8∧ty173.bytes=24∧ty177.bytes=24∧ty178.bytes=24∧ty196.bytes=24∧ty199.bytes=32∧ty200.bytes=32∧ty214.bytes=40∧ty215.bytes=40∧ty239.bytes=40∧ty240.bytes=40∧ty241.bytes=0∧ty242.bytes=0∧ty243.bytes=0∧ty245.bytes=1∧ty246.bytes=1∧ty248.bytes=8∧ty249.bytes=4∧ty250.bytes=4:=⟨rfl,rfl,rfl,rfl,rfl,rfl,rfl,rfl,rfl,rfl,rfl,rfl,rfl,rfl,rfl,rfl,rfl,rfl,rfl,rfl,rfl,rfl,rfl,rfl,rfl,rfl,rfl,rfl,rfl,rfl,rfl,rfl,rfl,rfl,rfl,rfl,rfl,rfl,rfl,rfl,rfl,rfl,rfl,rfl,rfl,rfl,rfl,rfl,rfl,rfl,rfl,rfl,rfl,rfl,rfl,rfl,rfl,rfl,rfl,rfl,rfl,rfl,rfl,rfl,rfl,rfl,rfl,rfl,rfl,rfl,rfl,rfl,rfl,rfl,rfl,rfl,rfl,rfl,rfl,rfl,rfl,rfl,rfl,rfl,rfl,rfl,rfl,rfl,rfl⟩
theorem QAF:ty2.size=1∧ty3.size=1∧ty4.size=1∧ty5.size=1∧ty6.size=1∧ty7.size=4∧ty8.size=4∧ty9.size=1∧ty10.size=1∧ty11.size=1∧ty12.size=1∧ty13.size=2∧ty14.size=2∧ty15.size=1∧ty16.size=1∧ty17.size=1∧ty18.size=1∧ty19.size=1∧ty21.size=1∧ty22.size=1∧ty23.size=1∧ty24.size=16∧ty25.size=8∧ty26.size=25∧ty27.size=25∧ty28.size=1∧ty29.size=1∧ty30.size=1∧ty31.size=3∧ty32.size=3∧ty33.size=8∧ty34.size=8∧ty35.size=6∧ty36.size=6∧ty37.size=2∧ty38.size=2∧ty39.size=1∧ty40.size=49∧ty41.size=49∧ty50.size=4∧ty51.size=4∧ty67.size=3∧ty68.size=3∧ty74.size=5∧ty75.size=5∧ty85.size=1∧ty89.size=1∧ty90.size=1∧ty91.size=52∧ty92.size=52∧ty93.size=1∧ty110.size=5∧ty111.size=5∧ty121.size=1∧ty124.size=1∧ty125.size=2∧ty126.size=2∧ty138.size=1∧ty146.size=3∧ty147.size=3∧ty150.size=1∧ty151.size=1∧ty154.size=1∧ty155.size=6∧ty156.size=6∧ty157.size=3∧ty158.size=3∧ty163.size=4∧ty164.size=4∧ty166.size=1∧ty171.size=1∧ty173.size=1∧ty177.size=2∧ty178.size=2∧ty196.size=1∧ty199.size=3∧ty200.size=3∧ty214.size=4∧ty215.size=4∧ty239.size=4∧ty240.size=4∧ty241.size=0∧ty242.size=0∧ty243.size=0∧ty245.size=1∧ty246.size=1∧ty248.size=1∧ty249.size=1∧ty250.size=1:=⟨rfl,rfl,rfl,rfl,rfl,rfl,rfl,rfl,rfl,rfl,rfl,rfl,rfl,rfl,rfl,rfl,rfl,rfl,rfl,rfl,rfl,rfl,rfl,rfl,rfl,rfl,rfl,rfl,rfl,rfl,rfl,rfl,rfl,rfl,rfl,rfl,rfl,rfl,rfl,rfl,rfl,rfl,rfl,rfl,rfl,rfl,rfl,rfl,rfl,rfl,rfl,rfl,rfl,rfl,rfl,rfl,rfl,rfl,rfl,rfl,rfl,rfl,rfl,rfl,rfl,rfl,rfl,rfl,rfl,rfl,rfl,rfl,rfl,rfl,rfl,rfl,rfl,rfl,rfl,rfl,rfl,rfl,rfl,rfl,rfl,rfl,rfl,rfl,rfl⟩
end Go.Proofs.YtjgikeckbeeehaaGreat
namespace Go.Proofs.YtjgikeckbeeehaaGreat
open Go Go.RowKit
noncomputable def fNb (n:Nat) (K:Nat→Bool):Bool:=Nat.rec (K 0) (fun m _=>K (Nat.succ m)) n
theorem QmQ (n:Nat) (K:Nat→Bool):fNb n K=K n:=by cases n<;>rfl
noncomputable def fLb (l:List Nat):(List Nat→Bool)→Bool:=List.rec (fun K=>K []) (fun a _ ih K=>fNb a fun a=>ih fun l=>K (a::l)) l
theorem Qqv:∀ (l:List Nat) (K:List Nat→Bool),fLb l K=K l
 | [],K=>rfl
 | a::l,K=>by
  show fNb a (fun a=>fLb l fun l=>K (a::l))=_
  rw [QmQ,Qqv l]
structure Inf where
 (dst:Option Nat) (lk rd wr:List Nat)
noncomputable def fPb (l:List Inf):(List Inf→Bool)→Bool:=List.rec (fun K=>K []) (fun a _ ih K=>ih fun l=>K (a::l)) l
theorem Qqu:∀ (l:List Inf) (K:List Inf→Bool),fPb l K=K l
 | [],K=>rfl
 | a::l,K=>by
  show fPb l (fun l=>K (a::l))=_
  rw [Qqu l]
noncomputable def Qw9 (l m:List Nat):Bool:=List.rec true (fun x _ ih=>match Qdu x m with
 | true=>false
 | false=>ih) l
theorem Qid:∀ {l m:List Nat},Qw9 l m=true→Qo6 l m=true
 | [],m,h=>rfl
 | x::l,m,h=>by
  change (match Qdu x m with|true=>false|false=>Qw9 l m)=true at h
  split at h
  ·cases h
  ·rename_i hb
   unfold Qo6
   rw [List.all_cons,Bool.and_eq_true]
   refine ⟨?_,Qid h⟩
   rw [List.all_eq_true]
   intro y hy
   cases hc:Nat.beq x y with
   | true=>have:=Nat.eq_of_beq_eq_true hc;subst this;exact absurd hy (QeO hb)
   | false=>rfl
def QoR (d:Option Nat) (l:List Nat):Bool:=match d with
 | some d=> !Qdu d l
 | none=>true
def neD (d e:Option Nat):Bool:=match d,e with
 | some d,some e=> !Nat.beq d e
 | _,_=>true
noncomputable def apI (x y:Inf):Bool:=QoR x.dst y.lk&&neD x.dst y.dst&&QoR y.dst x.lk&&Qw9 x.wr y.rd&&Qw9 y.wr x.rd
def QoF (arr:Array Oper) (o:Oper) (d:Did):Inf:=⟨o.dst,o.looksAt arr,d.rd,d.wr⟩
theorem QdQ {d:Nat} {l:List Nat} (h:Qdu d l=false):l.contains d=false:=by
 cases e:l.contains d with
 | false=>rfl
 | true=>exact absurd (List.contains_iff_mem.1 e) (QeO h)
theorem Quo {arr:Array Oper} {x y:Oper} {d e:Did} (h:apI (QoF arr x d) (QoF arr y e)=true):(x.apart arr y&&Qo6 d.wr e.rd&&Qo6 e.wr d.rd)=true:=by
 unfold apI QoF at h
 simp only [Bool.and_eq_true] at h
 obtain ⟨⟨⟨⟨h1,h2⟩,h3⟩,h4⟩,h5⟩:=h
 rw [Qid h4,Qid h5,Bool.and_true,Bool.and_true]
 unfold Oper.apart
 rw [Bool.and_eq_true]
 constructor
 ·cases hx:x.dst with
  | none=>rfl
  | some a =>
   rw [hx] at h1 h2
   simp only [QoR,Bool.not_eq_true'] at h1
   simp only [Bool.and_eq_true]
   refine ⟨by rw [QdQ h1];rfl,?_⟩
   cases hy:y.dst with
   | none=>rfl
   | some b =>
    rw [hy] at h2
    simp only [neD,Bool.not_eq_true'] at h2
    have:=Nat.ne_of_beq_eq_false h2
    simp
    exact fun e=>this e.symm
 ·cases hy:y.dst with
  | none=>rfl
  | some b =>
   rw [hy] at h3
   simp only [QoR,Bool.not_eq_true'] at h3
   show (!(x.looksAt arr).contains b)=true
   rw [QdQ h3];rfl
noncomputable def chk (m:Nat) (cur:Inf) (l:List Inf):Nat→Bool:=List.rec (fun _=>true) (fun p _ ih i=>match m.testBit i with
 | true=>fNb (i+1) ih
 | false=>match apI p cur with
  | true=>fNb (i+1) ih
  | false=>false) l
theorem Qqc {m:Nat} {cur:Inf}:∀ {l:List Inf} {s:Nat},chk m cur l s=true→∀ (i:Nat) p,l[i]?=some p→m.testBit (s+i)=true∨apI p cur=true
 | [],s,_,i,p,h=>by simp at h
 | q::l,s,h,i,p,hi=>by
  change (match m.testBit s with|true=>fNb (s+1) (chk m cur l)|false=>match apI q cur with|true=>fNb (s+1) (chk m cur l)|false=>false)=true at h
  rw [QmQ] at h
  have next:chk m cur l (s+1)=true:=by
   split at h
   ·exact h
   ·split at h
    ·exact h
    ·cases h
  cases i with
  | zero =>
   injection hi with hi;subst hi
   split at h
   ·rename_i hb;exact .inl hb
   ·split at h
    ·rename_i hb;exact .inr hb
    ·cases h
  | succ i =>
   rw [show s+(i+1)=s+1+i by omega]
   exact Qqc next i p (by simpa using hi)
noncomputable def QlE (arr:Array Oper) (l:List Oper):List Did→List Nat→List Inf→Bool :=
 List.rec (fun _ _ _=>true) (fun o _ ih ds acc prev=>match ds with
  | []=>false
  | d::ds=>fNb (QdZ o acc) fun m=>fLb (o.looksAt arr) fun lk=>fLb d.rd fun rd=>fLb d.wr fun wr=>match chk m ⟨o.dst,lk,rd,wr⟩ prev 0 with
   | true=>fLb (acc++ [m]) fun acc=>fPb (prev++ [⟨o.dst,lk,rd,wr⟩]) fun prev=>ih ds acc prev
   | false=>false) l
theorem Qgu:∀ (l:List Oper) (acc:List Nat) (k:Nat),k<acc.length→(QbE l acc).getD k 0=acc.getD k 0
 | [],acc,k,_=>rfl
 | o::l,acc,k,h=>by
  show (QbE l (acc++ [QdZ o acc])).getD k 0=_
  rw [Qgu l _ k (by simp;omega),List.getD_eq_getElem?_getD,List.getElem?_append_left h,← List.getD_eq_getElem?_getD]
theorem Qg5 {arr:Array Oper} {all:List Oper} {dsA:List Did} (harr:arr=all.toArray):∀ (l:List Oper) (ds:List Did) (acc:List Nat) (prev:List Inf) (pre:List Oper) (dpre:List Did),QlE arr l ds acc prev=true→all=pre++l→dsA=dpre++ds →
  acc.length=pre.length→dpre.length=pre.length→prev.length=pre.length→QbE all []=QbE l acc→(∀ (i:Nat) p,prev[i]?=some p→∃ o d,pre[i]?=some o∧dpre[i]?=some d∧p=QoF arr o d) →
  ∀ j,pre.length≤j→j<all.length→∀ i,i<j→(((QbE all []).getD j 0).testBit i||Qd0 all dsA i j)=true
 | [],ds,acc,prev,pre,dpre,_,h1,_,_,_,_,_,_,j,hj,hj2,i,hi=>by subst h1;simp at hj2;omega
 | o::l,ds,acc,prev,pre,dpre,hq,h1,h2,h3,h4,h5,h6,h7,j,hj,hj2,i,hi=>by
  cases ds with
  | nil=>cases hq
  | cons d ds =>
   change (fNb (QdZ o acc) fun m=>fLb (o.looksAt arr) fun lk=>fLb d.rd fun rd=>fLb d.wr fun wr=>match chk m ⟨o.dst,lk,rd,wr⟩ prev 0 with
    | true=>fLb (acc++ [m]) fun acc=>fPb (prev++ [⟨o.dst,lk,rd,wr⟩]) fun prev=>QlE arr l ds acc prev
    | false=>false)=true at hq
   simp only [QmQ,Qqv,Qqu] at hq
   split at hq
   ·rename_i hc
    by_cases hjp:j=pre.length
    ·subst hjp
     have hm:(QbE all []).getD pre.length 0=QdZ o acc:=by
      rw [h6]
      show (QbE l (acc++ [QdZ o acc])).getD pre.length 0=_
      rw [Qgu l _ _ (by simp;omega),← h3]
      simp [List.getD]
     obtain ⟨p,hp⟩:∃ p,prev[i]?=some p:=⟨_,List.getElem?_eq_getElem (by omega)⟩
     obtain ⟨o',d',q1,q2,rfl⟩:=h7 i p hp
     rw [hm,Bool.or_eq_true]
     rcases Qqc hc i _ hp with h8|h8
     ·rw [Nat.zero_add] at h8;exact .inl h8
     ·right
      unfold Qd0
      have e1:all[i]?=some o':=by rw [h1,List.getElem?_append_left hi];exact q1
      have e2:all[pre.length]?=some o:=by rw [h1,List.getElem?_append_right (Nat.le_refl _)];simp
      have e3:dsA[i]?=some d':=by rw [h2,List.getElem?_append_left (by omega)];exact q2
      have e4:dsA[pre.length]?=some d:=by rw [h2,← h4,List.getElem?_append_right (Nat.le_refl _)];simp
      rw [e1,e2,e3,e4]
      simp only []
      rw [← harr]
      exact Quo h8
    ·refine Qg5 harr l ds _ _ (pre++ [o]) (dpre++ [d]) hq (by simp [h1]) (by simp [h2]) (by simp [h3]) (by simp [h4]) (by simp [h5]) h6 (fun i p hp=>?_) j (by simp;omega) hj2 i hi
     by_cases hip:i<prev.length
     ·rw [List.getElem?_append_left hip] at hp
      obtain ⟨o',d',q1,q2,q3⟩:=h7 i p hp
      exact ⟨o',d',by rw [List.getElem?_append_left (by omega)];exact q1,by rw [List.getElem?_append_left (by omega)];exact q2,q3⟩
     ·rw [List.getElem?_append_right (by omega)] at hp
      have:i=prev.length:=by
       have:=(List.getElem?_eq_some_iff.1 hp).1
       simp at this;omega
      subst this
      simp at hp
      exact ⟨o,d,by rw [h5,List.getElem?_append_right (Nat.le_refl _)];simp,by rw [h5,← h4,List.getElem?_append_right (Nat.le_refl _)];simp,hp.symm⟩
   ·cases hq
noncomputable def QmJ (all:List Oper) (ds:List Did):Bool:=match Qe5 all 0 with
 | true=>QlE all.toArray all ds [] []
 | false=>false
theorem QiM {all:List Oper} {ds:List Did} (h:QmJ all ds=true):Qer all ds=true:=by
 unfold QmJ at h
 split at h
 ·rename_i he
  unfold Qer
  rw [he,Bool.true_and,List.all_eq_true]
  intro j hj
  rw [List.all_eq_true]
  intro i hi
  exact Qg5 rfl all ds [] [] [] [] h rfl rfl rfl rfl rfl rfl (fun i p hp=>by simp at hp) j (Nat.zero_le _) (by simpa using hj) i (by simpa using hi)
 ·cases h
end Go.Proofs.YtjgikeckbeeehaaGreat
