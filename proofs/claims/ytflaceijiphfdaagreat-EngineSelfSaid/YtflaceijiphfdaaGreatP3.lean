import Derived.Test.YtflaceijiphfdaaGreatP1
import Derived.Test.YtflaceijiphfdaaGreatP2
set_option linter.unusedSimpArgs false
set_option linter.unusedVariables false
set_option maxHeartbeats 0
set_option maxRecDepth 100000
namespace Go.Proofs.YtflaceijiphfdaaGreat
open Go Go.RowKit
def QHJ (w:World) (v:Value) (len:Nat) (cells:List SV):Prop :=
 ∃ p:PL,∀ (ρ:Nm) (n:Nat),ρ n=some p->RowOk ρ w n ⟨false,1,cells⟩/\VS ρ (.sl n 0 len) v
def isv (k:IntKind) (ls:List Int):List SV:=ls.map fun x=>SV.int k x
def QvZ (w:World):List (Value × Nat × List SV)->List PL->Prop
 | [],[]=>True
 | q::l,p::ps=>(∀ (ρ:Nm) (n:Nat),ρ n=some p->RowOk ρ w n ⟨false,1,q.2.2⟩/\VS ρ (.sl n 0 q.2.1) q.1)/\QvZ w l ps
 | _,_=>False
theorem Ql5 {w:World}:∀ {l:List (Value × Nat × List SV)} {ps:List PL},QvZ w l ps->l.length=ps.length/\∀ (i:Nat) q p,l[i]?=some q->ps[i]?=some p->∀ (ρ:Nm) (n:Nat),ρ n=some p->RowOk ρ w n ⟨false,1,q.2.2⟩/\VS ρ (.sl n 0 q.2.1) q.1
 | [],[],_=>⟨rfl,fun i q p h=>by simp at h⟩
 | q::l,p::ps,h=>by
  obtain ⟨h1,h2⟩:=Ql5 h.2;refine ⟨by simp [h1],fun i q' p' hq hp=>?_⟩
  cases i with
  | zero=>injection hq with hq;injection hp with hp;subst hq hp;exact h.1
  | succ i=>exact h2 i q' p' hq hp
 | [],_::_,h=>h.elim
 | _::_,[],h=>h.elim
theorem vas_nil (ρ:Nm):VAs ρ [] []:=⟨rfl,fun k s h=>by simp at h⟩
theorem vas_cons {ρ:Nm} {a:AV} {v:Value} {l:List AV} {vs:List Value} (h:VA ρ a v) (hl:VAs ρ l vs):VAs ρ (a::l) (v::vs) :=
 ⟨by simp [hl.1],fun k s hs=>by
  cases k with
  | zero=>injection hs with hs;subst hs;exact ⟨v,rfl,h⟩
  | succ k=>exact hl.2 k s hs⟩
theorem law_of_fn {P:Program} {f:FuncId} {args:List AV} {H:List Row} {vs:Array Value} {w:World} (q:List (Value × Nat × List SV)) (hq:∀ x∈q,QHJ w x.1 x.2.1 x.2.2) (hH:H=q.map fun x=>⟨false,1,x.2.2⟩) (hF:Fn P f args H (. =⟨.a (.s (.bool true)),[],[]⟩))
  (ha:∀ ρ:Nm,(∀ (i:Nat) x,q[i]?=some x->VS ρ (.sl i 0 x.2.1) x.1)->VAs ρ args vs.toList):Calls P f vs w fun e w'=>e= .returned (.bool true)/\Below w.heap.size w w':=by
 obtain ⟨ps,yI⟩:∃ ps:List PL,QvZ w q ps:=by
  clear hH ha
  induction q with
  | nil=>exact ⟨[],trivial⟩
  | cons x q ih =>
   obtain ⟨ps,h⟩:=ih fun y hy=>hq y (by simp [hy])
   obtain ⟨p,hp⟩:=hq x (by simp);exact ⟨p::ps,hp,h⟩
 obtain ⟨gF,FJ⟩:=Ql5 yI;have hHl:H.length=ps.length:=by rw [hH];simp [gF]
 have qG:∀ (i:Nat) r,H[i]?=some r->∃ x p,q[i]?=some x/\ps[i]?=some p/\r=⟨false,1,x.2.2⟩:=fun i r hr=>by
  rw [hH,List.getElem?_map] at hr
  cases e:q[i]? with
  | none=>rw [e] at hr;cases hr
  | some x =>
   rw [e] at hr;injection hr with hr
   have hi:i<ps.length:=by rw [<- gF];exact (List.getElem?_eq_some_iff.1 e).1
   exact ⟨x,ps[i],rfl,List.getElem?_eq_getElem hi,hr.symm⟩
 have jS:∀ (i:Nat) r,H[i]?=some r->r.own=false:=fun i r hr=>by obtain ⟨x,p,_,_,rfl⟩:=qG i r hr;rfl
 refine (hF.2 ⟨fun n=>ps[n]?,fun _ _=>False⟩ w vs (fun n hn=>List.getElem?_eq_none (by omega)) (ha _ fun i x hx=>?_) ⟨fun n r hn=>?_,fun n r m s Ln Lm h1 h2=>?_,fun n r L h1 h2=>?_,rfl,rfl,rfl,Nat.le_refl _,fun _ _ _=>rfl,fun _ _ h=>h.elim⟩).mono fun e w' he=>?_
 .have hi:i<ps.length:=by rw [<- gF];exact (List.getElem?_eq_some_iff.1 hx).1
  exact (FJ i x ps[i] hx (List.getElem?_eq_getElem hi) _ i (List.getElem?_eq_getElem hi)).2
 .obtain ⟨x,p,h1,h2,rfl⟩:=qG n r hn
  exact (FJ n x p h1 h2 _ n h2).1
 .rw [jS n r h1] at h2;cases h2
 .rw [jS n r h1] at h2;cases h2
 .obtain ⟨_,v,_,rfl,rfl,_,_,hv,hc,_⟩:=he
  have hv:v= .bool true:=hv;refine ⟨by rw [hv],hc.os,hc.tape,hc.output,hc.size,fun b hb=>hc.block b hb ?_⟩;rintro ⟨n,r,L,h1,h2,_⟩;rw [jS n r h1] at h2;cases h2
end Go.Proofs.YtflaceijiphfdaaGreat
