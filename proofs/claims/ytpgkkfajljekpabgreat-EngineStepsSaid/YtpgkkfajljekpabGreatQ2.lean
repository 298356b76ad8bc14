import Derived.Test.YtpgkkfajljekpabGreatQ1
import Derived.Laws.Cover3
import Derived.Deep.LoopGhost
set_option linter.unusedSimpArgs false
set_option linter.unusedVariables false
set_option maxHeartbeats 0
set_option maxRecDepth 100000
namespace Go.Proofs.YtpgkkfajljekpabGreat
open Go Go.RowKit
structure Res where
 v:TV
 up:List (Nat × Option Row)
 nw:List Row
def Hs (H:List Row):Hp:=fun n=>H[n]?
def Res.app (r:Res) (H:List Row):Hp:=fun n =>
 match Nat.ble H.length n with
 | true=>r.nw[n-H.length]?
 | false=>match QaX r.up n with
  | some x=>x
  | none=>H[n]?
def Qhf (H:List Row) (ρ:Nm):Nat->Prop:=fun b=>∃ n r L,H[n]?=some r/\r.own=true/\ρ n=some (.at L)/\L.b=b
def Qvm (P : Program) (f : FuncId) : Prop := ∃ fn,P.funcs[f]? = some fn /\ (fn.name == "runtime.NumGoroutine") = false /\ fn.body.isSome = true
def Fn (P:Program) (f:FuncId) (args:List AV) (H:List Row) (Post:Res->Prop):Prop :=
 Qvm P f/\∀ (ρ:Nm) (w:World) (vs:Array Value),(∀ n,H.length<=n->ρ n=none)->VAs ρ args vs.toList->Conc ⟨w,Qhf H ρ,ρ.fr⟩ ρ (Hs H) w ->
  Calls P f vs w fun e w'=>∃ R v ρ',Post R/\e= .returned v/\Ext ρ ρ'/\(∀ n,H.length+R.nw.length<=n->ρ' n=none)/\VT ρ' R.v v/\Conc ⟨w,Qhf H ρ,ρ.fr⟩ ρ' (R.app H) w' /\
   (∀ p∈R.up,∃ r,H[p.1]?=some r/\r.own=true)/\(∀ r∈R.nw,r.own=true)/\(∀ p∈R.up,∀ r,p.2=some r->r.own=true)
structure Em where
 (n sh:Nat)
def Qc7 (m:List Em) (k n0 i:Nat):Em:=match m[i]? with
 | some e=>e
 | none=>⟨n0+(i-k)%Qaq,0⟩
def QcQ (m:List Em) (k n0:Nat):SV->SV
 | .ptr i o=> .ptr (Qc7 m k n0 i).n ((Qc7 m k n0 i).sh+o)
 | .sl i o n=> .sl (Qc7 m k n0 i).n ((Qc7 m k n0 i).sh+o) n
 | .fn f cap=> .fn f (cap.map fun p=>((Qc7 m k n0 p.1).n,(Qc7 m k n0 p.1).sh+p.2))
 | s=>s
def QcZ (m:List Em) (k n0:Nat):AV->AV
 | .s x=> .s (QcQ m k n0 x)
 | .agg l=> .agg (l.map (QcQ m k n0))
def QCG (m:List Em) (k n0:Nat):TV->TV
 | .unk=> .unk
 | .a x=> .a (QcZ m k n0 x)
 | .tup l=> .tup (l.map (QcZ m k n0))
def Qeq (m:List Em) (ρ:Nm):Nm:=⟨fun i=>match m[i]? with
 | some e=>match ρ e.n with
  | some (.at L)=>some (.at { L with δ:=L.δ+e.sh })
  | p=>p
 | none=>none,ρ.fr⟩
theorem Qfh (m:List Em) (ρ:Nm) (i:Nat):Qeq m ρ i=match m[i]? with
 | some e=>match ρ e.n with
  | some (.at L)=>some (.at { L with δ:=L.δ+e.sh })
  | p=>p
 | none=>none:=rfl
theorem Qln {m:List Em} {ρ:Nm} {i:Nat} {L:Loc} (h:Qeq m ρ i=some (.at L)):∃ e L0,m[i]?=some e/\ρ e.n=some (.at L0)/\L= { L0 with δ:=L0.δ+e.sh }:=by grind [Qfh,Qeq]
theorem QiC {m:List Em} {ρ:Nm} {i:Nat} {e:Em} {L:Loc} (h:m[i]?=some e) (h2:ρ e.n=some (.at L)):Qeq m ρ i=some (.at { L with δ:=L.δ+e.sh }):=by grind [Qfh,Qeq]
theorem QhJ {m:List Em} {ρ:Nm} {i:Nat} {e:Em} (h:m[i]?=some e) (h2:ρ e.n=some .empty):Qeq m ρ i=some .empty:=by grind [Qfh,Qeq]
theorem QcL {m:List Em} {k n0 i:Nat} {e:Em} (h:m[i]?=some e):Qc7 m k n0 i=e:=by unfold Qc7;rw [h]
theorem QlQ {m:List Em} {k n0:Nat} {ρ:Nm} (hk:m.length=k) {s:SV} {v:Value} (hs:∀ i,k<=i->ρ (n0+(i-k)%Qaq)=none) (h:VS ρ (QcQ m k n0 s) v):VS (Qeq m ρ) s v:=by
 cases s<;>simp only [QcQ,VS] at h |- <;>try exact h
 case ptr i o=>grind [List.getElem?_eq_none_iff,Qc7,QcL,QiC,Nat.add_assoc,Qaq,VS,QcQ,Qeq]
 case sl i o n=>grind [List.getElem?_eq_none_iff,Qc7,QcL,QiC,Nat.add_assoc,QhJ,Qaq,VS,QcQ,Qeq]
 case fn f cap =>
  obtain ⟨vs,rfl,h1,h2⟩:=h;refine ⟨vs,rfl,by simpa using h1,fun j p hp=>?_⟩;obtain ⟨_,hL,h3⟩:=h2 j _ (by rw [List.getElem?_map,hp];rfl);simp only [] at hL h3
  cases e:m[p.1]? with
  | none=>grind [List.getElem?_eq_none_iff,Qc7,Qaq,VS,QcQ,Qeq]
  | some x=>grind [QcL,QiC,Nat.add_assoc,Qaq,VS,QcQ,Qeq]
theorem Qu4 {m:List Em} {k n0:Nat} {ρ:Nm} (hk:m.length=k) (hs:∀ i,k<=i->ρ (n0+(i-k)%Qaq)=none) {l:List AV} {vs:List Value} (h:VAs ρ (l.map (QcZ m k n0)) vs):VAs (Qeq m ρ) l vs:=by
 refine ⟨by simpa using h.1,fun j s e=>?_⟩;obtain ⟨v,h1,h2⟩:=h.2 j _ (by rw [List.getElem?_map,e];rfl);refine ⟨v,h1,?_⟩
 cases s with
 | s x=>exact QlQ hk hs h2
 | agg l =>
  obtain ⟨cs,rfl,h3⟩:=h2
  exact ⟨cs,rfl,by simpa using h3.1,fun q s e=>by
   obtain ⟨v,h4,h5⟩:=h3.2 q _ (by rw [List.getElem?_map,e];rfl)
   exact ⟨v,h4,QlQ hk hs h5⟩⟩
def Qey (m:List Em) (n0:Nat) (H:List Row) (hp:Hp):Prop :=
 ∀ (i:Nat) (r:Row),H[i]?=some r->∃ (e:Em) (rc:Row),m[i]?=some e/\hp e.n=some rc/\rc.es=r.es/\(∀ (k:Nat) s,r.cells[k]?=some s->rc.cells[e.sh+k]?=some (QcQ m H.length n0 s)) /\
  e.sh+r.cells.length<=rc.cells.length/\(r.own=true->rc.own=true/\e.sh=0/\rc.cells.length=r.cells.length/\∀ (j:Nat) (f:Em),m[j]?=some f->j≠i->f.n≠e.n)
theorem Qjk {F:Fr} {ρ:Nm} {hp:Hp} {w:World} {m:List Em} {n0:Nat} {H:List Row} (hc:Conc F ρ hp w) (hm:m.length=H.length) (hs:∀ i,H.length<=i->ρ (n0+(i-H.length)%Qaq)=none) (hr:Qey m n0 H hp) :
  Conc ⟨w,Qhf H (Qeq m ρ),ρ.fr⟩ (Qeq m ρ) (Hs H) w:=by
 refine ⟨fun i r hi=>?_,fun i r j s Li Lj h1 h2 h3 h4 h5 h6=>?_,fun i r L h1 h2 h3=> .inl ⟨i,r,L,h1,h2,h3,rfl⟩,rfl,rfl,rfl,Nat.le_refl _,fun _ _ _=>rfl,fun L c hf=>⟨(hc.frz L c hf).1,fun i r Li h1 h2 h3=>?_,.inl hf⟩⟩
 .obtain ⟨e,rc,h1,h2,h3,h4,h5,h6⟩:=hr i r hi
  have h7:=hc.rows _ _ h2;unfold RowOk at h7 |-
  cases e1:ρ e.n with
  | none=>grind
  | some p =>
   rw [e1] at h7
   cases p with
   | empty=>simp_all [QhJ,List.eq_nil_of_length_eq_zero,Hp,Qaq,Qey,Qhf,Qeq,Hs]
   | «at» L =>
    rw [QiC h1 e1];obtain ⟨g1,_,c,t,fz,g3,g4,g5,g6⟩:=h7;refine ⟨g1.trans h3,by simp only [];omega,c,t,fz,g3,g4,fun ho=>g5 (h6 ho).1,fun k s hk=>?_⟩;obtain ⟨v,g7,g8⟩:=g6 _ _ (h4 k s hk);exact ⟨v,by simp only [];rw [Nat.add_assoc];exact g7,QlQ hm hs g8⟩
 .obtain ⟨e,rc,k1,k2,_,_,_,k6⟩:=hr i r h1
  obtain ⟨e',rc',k1',k2',_⟩:=hr j s h3;obtain ⟨e1,L1,q1,q2,rfl⟩:=Qln h5;obtain ⟨_,L2,p1,p2,rfl⟩:=Qln h6;rw [k1] at q1;injection q1 with q1;subst q1
  rw [k1'] at p1;injection p1 with p1;subst p1
  exact hc.apart e.n rc e'.n rc' L1 L2 k2 (k6 h2).1 k2' (fun q=>(k6 h2).2.2.2 j e' k1' (fun e=>h4 e.symm) q.symm) q2 p2
 .obtain ⟨e,rc,k1,k2,_,_,_,k6⟩:=hr i r h1
  obtain ⟨e1,L1,q1,q2,rfl⟩:=Qln h3;rw [k1] at q1;injection q1 with q1;subst q1
  exact (hc.frz L c hf).2.1 e.n rc L1 k2 (k6 h2).1 q2
def QdC (m:List Em) (k n0:Nat) (r:Row):Row:= { r with cells:=r.cells.map (QcQ m k n0) }
def nwN (m:List Em) (k n0:Nat):Nat->List Row->List (Nat × Row)
 | _,[]=> []
 | j,r::l=>(n0+j,QdC m k n0 r)::nwN m k n0 (j+1) l
def upN (m:List Em) (k n0:Nat):List (Nat × Option Row)->List (Nat × Option Row)
 | []=> []
 | p::l=>((Qc7 m k n0 p.1).n,match p.2 with|some r=>some (QdC m k n0 r)|none=>none)::upN m k n0 l
def Res.ef (R:Res) (m:List Em) (k n0:Nat):Ef:=⟨QCG m k n0 R.v,upN m k n0 R.up,nwN m k n0 0 R.nw⟩
theorem Qt2 (m:List Em) (k n0:Nat) (l:List Row) (j n:Nat):QaX (nwN m k n0 j l) n=if n0+j<=n then (l[n-(n0+j)]?).map (QdC m k n0) else none:=by
 induction l generalizing j with
 | nil=>unfold nwN QaX;split<;>simp
 | cons r l ih=>grind [nwN,QaX,Nat.beq,Nat.eq_of_beq_eq_true,Nat.ne_of_beq_eq_false,QdC]
theorem Qt3 (m:List Em) (k n0:Nat) (l:List (Nat × Option Row)) (n:Nat) (x:Option Row) (hinj:∀ p∈l,∀ q∈l,(Qc7 m k n0 p.1).n=(Qc7 m k n0 q.1).n->p.1=q.1)
  (h:QaX (upN m k n0 l) n=some x):∃ p∈l,(Qc7 m k n0 p.1).n=n/\QaX l p.1=some p.2/\x=p.2.map (QdC m k n0):=by
 induction l with
 | nil=>cases h
 | cons p l ih =>
  unfold upN QaX at h;simp only [] at h
  cases hb:Nat.beq n (Qc7 m k n0 p.1).n with
  | true=>grind [Nat.eq_of_beq_eq_true,QaX,Nat.beq_refl,Qc7,upN,QdC]
  | false=>grind [Nat.ne_of_beq_eq_false,QaX,Nat.beq,Qc7,Nat.eq_of_beq_eq_true,upN,QdC]
theorem Qiq (m:List Em) (k n0:Nat) (l:List (Nat × Option Row)) (n:Nat) (h:QaX (upN m k n0 l) n=none) (i:Nat) (hi:(Qc7 m k n0 i).n=n):QaX l i=none:=by
 induction l with
 | nil=>rfl
 | cons p l ih=>grind [upN,QaX,Nat.beq,Nat.eq_of_beq_eq_true,Nat.beq_refl,Qc7]
theorem Qgr {a b:Nat} (h:b<a):Nat.ble a b=false:=by
 cases e:Nat.ble a b with
 | false=>rfl
 | true=>exact absurd (Nat.le_of_ble_eq_true e) (by omega)
section
variable {F:Fr} {ρ ρ1:Nm} {hp:Hp} {w w':World} {m:List Em} {n0:Nat} {H:List Row} {R:Res}
def Qi8 (k n0 q:Nat) (ρ ρ1:Nm):Nm:=⟨fun n=>if n0<=n/\n<n0+q then ρ1 (k+(n-n0)) else ρ n,ρ1.fr⟩
theorem Qgp (k n0 q:Nat) (ρ ρ1:Nm) (n:Nat):Qi8 k n0 q ρ ρ1 n=if n0<=n/\n<n0+q then ρ1 (k+(n-n0)) else ρ n:=rfl
theorem QfY {k q:Nat} (hq:q<=Qaq) (hf:∀ n,n0<=n->n<n0+Qaq->ρ n=none) (jB:∀ L c,ρ.fr L c->ρ1.fr L c):Ext ρ (Qi8 k n0 q ρ ρ1):=⟨fun n p hn=>by
 rw [Qgp,if_neg]
 .exact hn
 .grind,jB⟩
theorem Qye {i:Nat} {p:PL} (hc:Conc F ρ hp w) (hm:m.length=H.length) (hs:∀ i,H.length<=i->ρ (n0+(i-H.length)%Qaq)=none) (hr:Qey m n0 H hp) (hx:Ext (Qeq m ρ) ρ1) (h:ρ1 i=some p) (hi:i<H.length) :
  Qeq m ρ i=some p:=by
 have hcp:=Qjk hc hm hs hr;have:=hcp.rows i H[i] (by simp [Hs,hi]);unfold RowOk at this
 cases e:Qeq m ρ i with
 | none=>grind
 | some q=>rw [<- h];exact (hx i q e).symm
theorem QsA (hc:Conc F ρ hp w) (hm:m.length=H.length) (hf:∀ n,n0<=n->n<n0+Qaq->ρ n=none) (hr:Qey m n0 H hp) (hx:Ext (Qeq m ρ) ρ1) {q:Nat} (hq:q<=Qaq) (hn:∀ n,H.length+q<=n->ρ1 n=none) {s:SV} {v:Value} (h:VS ρ1 s v) :
  VS (Qi8 H.length n0 q ρ ρ1) (QcQ m H.length n0 s) v:=by
 have hs:∀ i,H.length<=i->ρ (n0+(i-H.length)%Qaq)=none:=fun i _=>hf _ (by omega) (by have:=Nat.mod_lt (i-H.length) (show 0<Qaq by unfold Qaq;omega);omega)
 have key:∀ i p,ρ1 i=some p->(∃ L,p= .at L/\∃ L0,Qi8 H.length n0 q ρ ρ1 (Qc7 m H.length n0 i).n=some (.at L0)/\L.b=L0.b/\L.tot=L0.tot/\L.es=L0.es/\L.δ=L0.δ+(Qc7 m H.length n0 i).sh)\/(p= .empty/\Qi8 H.length n0 q ρ ρ1 (Qc7 m H.length n0 i).n=some .empty):=by
  intro i p hi
  by_cases h1:i<H.length
  .have h2:=Qye hc hm hs hr hx hi h1
   obtain ⟨e,he⟩:∃ e,m[i]?=some e:=⟨_,List.getElem?_eq_getElem (by omega)⟩;rw [QcL he];rw [Qfh] at h2;rw [he] at h2;simp only [] at h2
   cases e2:ρ e.n with
   | none=>grind
   | some y =>
    have hb:=(QfY (k:=H.length) (ρ1:=ρ1) hq hf hx.fr).nm e.n y e2;rw [e2] at h2
    cases y with
    | empty=>grind
    | «at» L0=>grind
  .have h2:i<H.length+q:=by
    rcases Nat.lt_or_ge i (H.length+q) with h|h
    .exact h
    .grind
   have e1:Qc7 m H.length n0 i=⟨n0+(i-H.length),0⟩:=by
    unfold Qc7;rw [List.getElem?_eq_none (by omega)];simp only [];rw [Nat.mod_eq_of_lt (by omega)]
   have e2:Qi8 H.length n0 q ρ ρ1 (n0+(i-H.length))=some p:=by grind [Qgp,Qaq,Qey,Qeq,VS,Qi8,QcQ]
   rw [e1]
   cases p with
   | empty=>grind
   | «at» L=>grind
 cases s<;>simp only [QcQ,VS] at h |- <;>try exact h
 case ptr i o=>grind
 case sl i o n=>grind
 case fn f cap=>grind
end
theorem Qsw {ρ ρ':Nm} {f:SV->SV} (h:∀ s v,VS ρ s v->VS ρ' (f s) v) {m:List Em} {k n0:Nat} (hf:f=QcQ m k n0) {x:AV} {v:Value} (hx:VA ρ x v):VA ρ' (QcZ m k n0 x) v:=by
 subst hf
 cases x with
 | s x=>exact h _ _ hx
 | agg l =>
  obtain ⟨cs,rfl,h3⟩:=hx
  exact ⟨cs,rfl,by simpa using h3.1,fun q s e=>by
   rw [List.getElem?_map] at e
   cases e0:l[q]? with
   | none=>grind
   | some s0 =>
    rw [e0] at e;injection e with e;subst e
    obtain ⟨v,h4,h5⟩:=h3.2 q _ e0
    exact ⟨v,h4,h _ _ h5⟩⟩
theorem QzR {ρ ρ':Nm} {m:List Em} {k n0:Nat} (h:∀ s v,VS ρ s v->VS ρ' (QcQ m k n0 s) v) {x:TV} {v:Value} (hx:VT ρ x v):VT ρ' (QCG m k n0 x) v:=by
 cases x with
 | unk=>exact trivial
 | a x=>exact Qsw h rfl hx
 | tup l =>
  obtain ⟨cs,rfl,h3⟩:=hx
  exact ⟨cs,rfl,by simpa using h3.1,fun q s e=>by
   rw [List.getElem?_map] at e
   cases e0:l[q]? with
   | none=>grind
   | some s0 =>
    rw [e0] at e;injection e with e;subst e
    obtain ⟨v,h4,h5⟩:=h3.2 q _ e0
    exact ⟨v,h4,Qsw h rfl h5⟩⟩
theorem QdT {ρ1 ρ':Nm} {w':World} {c n:Nat} {rr:Row} {f:SV->SV} (h:RowOk ρ1 w' c rr) (hn:ρ' n=ρ1 c) (hv:∀ s v,VS ρ1 s v->VS ρ' (f s) v) (r:Row) (vW:r.es=rr.es) (ho:r.own=true->rr.own=true)
  (hcells:∀ (k:Nat) s,r.cells[k]?=some s->∃ s0,rr.cells[k]?=some s0/\s=f s0) (hl:r.cells.length=rr.cells.length):RowOk ρ' w' n r:=by
 unfold RowOk at h |-;rw [hn]
 cases e:ρ1 c with
 | none=>grind
 | some p =>
  rw [e] at h
  cases p with
  | empty=>grind
  | «at» L =>
   obtain ⟨h1,h2,cs,t,fz,h3,h4,h5,h6⟩:=h;refine ⟨by rw [vW];exact h1,by rw [hl];exact h2,cs,t,fz,h3,h4,fun x=>h5 (ho x),fun k s hk=>?_⟩;obtain ⟨s0,g1,rfl⟩:=hcells k s hk;obtain ⟨v,g2,g3⟩:=h6 k s0 g1;exact ⟨v,g2,hv _ _ g3⟩
theorem QgO (l:List SV) (f:SV->SV) (k:Nat) (s:SV) (h:(l.map f)[k]?=some s):∃ s0,l[k]?=some s0/\s=f s0:=by grind
section
variable {F:Fr} {ρ ρ1:Nm} {hp:Hp} {w w':World} {m:List Em} {n0:Nat} {H:List Row} {R:Res}
theorem Qpc (hc:Conc F ρ hp w) (hm:m.length=H.length) (hf:∀ n,n0<=n->n<n0+Qaq->ρ n=none) (hr:Qey m n0 H hp) (hx:Ext (Qeq m ρ) ρ1) (hq:R.nw.length<=Qaq) (hn:∀ n,H.length+R.nw.length<=n->ρ1 n=none)
  (h:Conc ⟨w,Qhf H (Qeq m ρ),ρ.fr⟩ ρ1 (R.app H) w') (vQ:∀ p∈R.up,∃ r,H[p.1]?=some r/\r.own=true) (hnw:∀ r∈R.nw,r.own=true) (hup2:∀ p∈R.up,∀ r,p.2=some r->r.own=true) :
  Conc F (Qi8 H.length n0 R.nw.length ρ ρ1) ((R.ef m H.length n0).app hp) w':=by
 have hs:∀ i,H.length<=i->ρ (n0+(i-H.length)%Qaq)=none:=fun i _=>hf _ (by omega) (by have:=Nat.mod_lt (i-H.length) (show 0<Qaq by unfold Qaq;omega);omega)
 have hv:∀ s v,VS ρ1 s v->VS (Qi8 H.length n0 R.nw.length ρ ρ1) (QcQ m H.length n0 s) v:=fun s v=>QsA hc hm hf hr hx hq hn
 have own:∀ i r,H[i]?=some r->r.own=true->∃ e rc,m[i]?=some e/\e.sh=0/\hp e.n=some rc/\rc.own=true/\rc.es=r.es/\rc.cells.length=r.cells.length /\
   (∀ (k:Nat) s,r.cells[k]?=some s->rc.cells[k]?=some (QcQ m H.length n0 s))/\Qi8 H.length n0 R.nw.length ρ ρ1 e.n=ρ1 i/\ρ e.n=Qeq m ρ i/\∀ (j:Nat) (f:Em),m[j]?=some f->j≠i->f.n≠e.n:=by
  intro i r hi ho;obtain ⟨e,rc,h1,h2,h3,h4,h5,h6⟩:=hr i r hi;obtain ⟨h7,h8,h9,jW⟩:=h6 ho;have gU:i<H.length:=(List.getElem?_eq_some_iff.1 hi).1
  have hpe:Qeq m ρ i=ρ e.n:=by
   rw [Qfh];rw [h1];simp only [h8,Nat.add_zero]
   cases ρ e.n with
   | none=>rfl
   | some p=>cases p<;>rfl
  refine ⟨e,rc,h1,h8,h2,h7,h3,h9,fun k s hk=>by have:=h4 k s hk;rw [h8,Nat.zero_add] at this;exact this,?_,hpe.symm,jW⟩;have qK:=hc.rows _ _ h2;unfold RowOk at qK
  cases e1:ρ e.n with
  | none=>grind
  | some p=>rw [(QfY hq hf hx.fr).nm _ p e1];exact (hx.nm i p (hpe.trans e1)).symm
 have cls:∀ n r,(R.ef m H.length n0).app hp n=some r->(∃ c rr,R.app H c=some rr/\rr.own=true/\r.own=true/\Qi8 H.length n0 R.nw.length ρ ρ1 n=ρ1 c/\RowOk (Qi8 H.length n0 R.nw.length ρ ρ1) w' n r /\
    ((n0<=n/\n<n0+R.nw.length/\c=H.length+(n-n0))\/(c<H.length/\∃ (e:Em) (q:Row),m[c]?=some e/\e.n=n/\H[c]?=some q/\q.own=true))) \/
   (hp n=some r/\Qi8 H.length n0 R.nw.length ρ ρ1 n=ρ n/\∀ (i:Nat) (q:Row) (e:Em),H[i]?=some q->q.own=true->m[i]?=some e->e.n≠n):=by
  intro n r wU;unfold Ef.app at wU;have hl:=Qt2 m H.length n0 R.nw 0 n;rw [Nat.add_zero] at hl
  by_cases h1:n0<=n/\n<n0+R.nw.length
  .
   left;obtain ⟨rr,hrr⟩:∃ rr,R.nw[n-n0]?=some rr:=⟨_,List.getElem?_eq_getElem (by omega)⟩
   have e1:QaX (R.ef m H.length n0).nw n=some (QdC m H.length n0 rr):=by
    show QaX (nwN m H.length n0 0 R.nw) n=_;rw [hl,if_pos h1.1,hrr];rfl
   rw [e1] at wU;injection wU with wU;subst wU
   have e2:R.app H (H.length+(n-n0))=some rr:=by grind [Res.app,Nat.ble_eq_true_of_le,Qaq,Qey,Qeq,Qhf,Qi8]
   have e3:Qi8 H.length n0 R.nw.length ρ ρ1 n=ρ1 (H.length+(n-n0)):=by rw [Qgp];rw [if_pos h1]
   have ho:=hnw rr (List.mem_of_getElem? hrr);exact ⟨_,rr,e2,ho,ho,e3,QdT (h.rows _ _ e2) e3 hv _ rfl (fun x=>x) (fun k s hk=>QgO _ _ k s hk) (by simp [QdC]),.inl ⟨h1.1,h1.2,rfl⟩⟩
  .have e1:QaX (R.ef m H.length n0).nw n=none:=by
    show QaX (nwN m H.length n0 0 R.nw) n=_;rw [hl];split
    .grind
    .rfl
   rw [e1] at wU;simp only [] at wU;have e3:Qi8 H.length n0 R.nw.length ρ ρ1 n=ρ n:=by rw [Qgp];rw [if_neg h1]
   cases e2:QaX (R.ef m H.length n0).up n with
   | some x =>
    rw [e2] at wU;simp only [] at wU;subst wU
    obtain ⟨p,g1,g2,g3,g4⟩:=Qt3 m H.length n0 R.up n _ (fun p qC q FZ e=>by
     obtain ⟨rp,p1,p2⟩:=vQ p qC;obtain ⟨_,q1,q2⟩:=vQ q FZ;obtain ⟨ep,_,p3,_,_,_,_,_,_,_,_,p4⟩:=own _ _ p1 p2;obtain ⟨_,_,q3,_⟩:=own _ _ q1 q2;rw [QcL p3,QcL q3] at e;rcases Nat.decEq p.1 q.1 with fQ|ZO
     .grind
     .grind) e2
    obtain ⟨rp,p1,p2⟩:=vQ p g1;obtain ⟨ep,rc,p3,_,_,_,_,_,_,p5,_,_⟩:=own _ _ p1 p2;rw [QcL p3] at g2;subst g2
    cases e4:p.2 with
    | none=>grind
    | some rr =>
     rw [e4] at g3 g4;injection g4 with g4
     subst g4;have gU:p.1<H.length:=(List.getElem?_eq_some_iff.1 p1).1
     have e5:R.app H p.1=some rr:=by
      unfold Res.app;rw [Qgr gU];simp only [g3]
     have ho:=hup2 p g1 rr e4;exact .inl ⟨p.1,rr,e5,ho,ho,p5,QdT (h.rows _ _ e5) p5 hv _ rfl (fun x=>x) (fun k s hk=>QgO _ _ k s hk) (by simp [QdC]),.inr ⟨gU,ep,rp,p3,rfl,p1,p2⟩⟩
   | none =>
    rw [e2] at wU;simp only [] at wU
    by_cases jS:∃ (i:Nat) (q:Row) (e:Em),H[i]?=some q/\q.own=true/\m[i]?=some e/\e.n=n
    .obtain ⟨i,q,e,k1,k2,k3,rfl⟩:=jS
     obtain ⟨_,rc,p3,_,p4,p6,p7,p8,p9,p5,_,_⟩:=own _ _ k1 k2;rw [k3] at p3;injection p3 with p3;subst p3
     rw [p4] at wU;injection wU with wU;subst wU
     have gU:i<H.length:=(List.getElem?_eq_some_iff.1 k1).1
     have e5:R.app H i=some q:=by
      unfold Res.app;rw [Qgr gU];simp only [Qiq m H.length n0 R.up _ e2 i (by rw [QcL k3])];exact k1
     refine .inl ⟨i,q,e5,k2,p6,p5,QdT (h.rows _ _ e5) p5 hv _ p7 (fun _=>k2) (fun k s hk=>?_) p8,.inr ⟨gU,e,q,k3,rfl,k1,k2⟩⟩;have WI:k<q.cells.length:=by rw [<- p8];exact (List.getElem?_eq_some_iff.1 hk).1
     refine ⟨q.cells[k],List.getElem?_eq_getElem WI,?_⟩;have:=p9 k _ (List.getElem?_eq_getElem WI);rw [hk] at this;injection this
    .grind
 have oth:∀ n r L,hp n=some r->(∀ (i:Nat) (q:Row) (e:Em),H[i]?=some q->q.own=true->m[i]?=some e->e.n≠n)->ρ n=some (.at L)->L.b<w.heap.size/\¬ Qhf H (Qeq m ρ) L.b:=by
  intro n r L h1 h2 h3;refine ⟨(hc.rows n r h1).lt h3,?_⟩;rintro ⟨i,q,Li,g1,g2,g3,g4⟩;obtain ⟨e,rc,p1,_,p2,p3,_,_,_,_,p4,_⟩:=own i q g1 g2;exact hc.apart e.n rc n r Li L p2 p3 h1 (h2 i q e g1 g2 p1) (p4.trans g3) h3 g4
 have cOwn:∀ b,Qhf H (Qeq m ρ) b->F.O b\/F.w0.heap.size<=b:=by
  rintro b ⟨i,q,Li,g1,g2,g3,rfl⟩;obtain ⟨e,rc,p1,_,p2,p3,_,_,_,_,p4,_⟩:=own i q g1 g2;exact hc.mine e.n rc Li p2 p3 (p4.trans g3)
 have cMine:∀ c rr L,R.app H c=some rr->rr.own=true->ρ1 c=some (.at L)->Qhf H (Qeq m ρ) L.b\/w.heap.size<=L.b:=fun c rr L h1 h2 h3=>h.mine c rr L h1 h2 h3
 have blk:∀ b,b<w.heap.size->¬ Qhf H (Qeq m ρ) b->w'.heap[b]?=w.heap[b]?:=fun b h1 h2=>h.block b h1 h2
 have cInj:∀ n1 n2 c,((n0<=n1/\n1<n0+R.nw.length/\c=H.length+(n1-n0))\/(c<H.length/\∃ (e:Em) (q:Row),m[c]?=some e/\e.n=n1/\H[c]?=some q/\q.own=true))->((n0<=n2/\n2<n0+R.nw.length/\c=H.length+(n2-n0))\/(c<H.length/\∃ (e:Em) (q:Row),m[c]?=some e/\e.n=n2/\H[c]?=some q/\q.own=true))->n1=n2:=by grind
 refine ⟨fun n r wU=>?_,fun n r n' r' L L' h1 h2 h3 h4 h5 h6=>?_,fun n r L h1 h2 h3=>?_,h.os.trans hc.os,h.tape.trans hc.tape,h.output.trans hc.output,Nat.le_trans hc.size h.size,fun b hb qH=>?_,fun L c hfz=>?_⟩
 .rcases cls n r wU with ⟨c,rr,_,_,_,_,g,_⟩|⟨g1,g2,g3⟩
  .exact g
  .have g4:=(hc.rows n r g1)
   refine RowOk.ext (QfY hq hf hx.fr) (g4.of_block fun L hL=>?_);obtain ⟨q1,q2⟩:=oth n r L g1 g3 hL;exact blk _ q1 q2
 .rcases cls n r h1 with ⟨c,rr,a1,a2,_,a3,_,a4⟩|⟨a1,a2,a3⟩<;>rcases cls n' r' h3 with ⟨c',rr',b1,b2,_,b3,_,b4⟩|⟨b1,b2,b3⟩
  .refine h.apart c rr c' rr' L L' a1 a2 b1 (fun e=>?_) (a3 ▸ h5) (b3 ▸ h6)
   subst e;exact h4 (cInj n n' c a4 b4)
  .rw [b2] at h6
   obtain ⟨q1,q2⟩:=oth n' r' L' b1 b3 h6;rw [a3] at h5;rcases cMine c rr L a1 a2 h5 with g|g
   .exact fun e=>q2 (e ▸ g)
   .omega
  .rw [a2] at h5
   obtain ⟨q1,q2⟩:=oth n r L a1 a3 h5;rw [b3] at h6;rcases cMine c' rr' L' b1 b2 h6 with g|g
   .exact fun e=>q2 (e ▸ g)
   .omega
  .rw [a2] at h5;rw [b2] at h6
   exact hc.apart n r n' r' L L' a1 h2 b1 h4 h5 h6
 .rcases cls n r h1 with ⟨c,rr,a1,a2,_,a3,_,a4⟩|⟨a1,a2,a3⟩
  .rw [a3] at h3
   rcases cMine c rr L a1 a2 h3 with g|g
   .exact cOwn _ g
   .exact .inr (Nat.le_trans hc.size g)
  .rw [a2] at h3;exact hc.mine n r L a1 h2 h3
 .have h1:b<w.heap.size:=Nat.lt_of_lt_of_le hb hc.size
  rw [blk b h1 (fun g=>by rcases cOwn b g with g|g;exact qH g;omega)];exact hc.block b hb qH
 .obtain ⟨f1,f2,f3⟩:=h.frz L c hfz
  refine ⟨f1,fun n r Ln h1 h2 h3=>?_,?_⟩
  .rcases cls n r h1 with ⟨c',rr,a1,a2,_,a3,_,a4⟩|⟨a1,a2,a3⟩
   .exact f2 c' rr Ln a1 a2 (a3 ▸ h3)
   .rw [a2] at h3
    obtain ⟨q1,q2⟩:=oth n r Ln a1 a3 h3;rcases f3 with g|g|g
    .exact (hc.frz L c g).2.1 n r Ln a1 h2 h3
    .exact fun e=>q2 (e ▸ g)
    .have g:w.heap.size<=L.b:=g
     omega
  .rcases f3 with g|g|g
   .exact (hc.frz L c g).2.2
   .rcases cOwn L.b g with g|g
    .exact .inr (.inl g)
    .exact .inr (.inr g)
   .have g:w.heap.size<=L.b:=g
    exact .inr (.inr (Nat.le_trans hc.size g))
end
def avs (tv:Operand->TV):List Operand->Option (List AV)
 | []=>some []
 | x::l=>match tv x with
  | .a u=>match avs tv l with
   | some r=>some (u::r)
   | none=>none
  | _=>none
theorem QA7 {tv:Operand->TV} {ρ:Nm} {a:Act}:∀ (l:List Operand) (r:List AV),avs tv l=some r->(∀ x∈l,VT ρ (tv x) (a.eval x))->VAs ρ r (l.map a.eval):=by
 intro l
 induction l with
 | nil=>intro r h _;injection h with h;subst h;exact ⟨rfl,fun k s e=>by cases e⟩
 | cons x l ih =>
  intro r h hv;unfold avs at h;have hx:=hv x (by simp)
  cases e1:tv x with
  | unk=>grind
  | tup _=>grind
  | a u =>
   rw [e1] at h hx;simp only [] at h
   cases e2:avs tv l with
   | none=>grind
   | some q =>
    rw [e2] at h;injection h with h;subst h
    obtain ⟨g1,_⟩:=ih q e2 (fun y hy=>hv y (by simp [hy]));refine ⟨by simp [g1],fun k s hs=>?_⟩
    cases k with
    | zero=>simp at hs;subst hs;exact ⟨_,rfl,hx⟩
    | succ k=>grind
def Qop (cap:List (Nat × Nat)):List AV:=cap.map fun p=> .s (.ptr p.1 p.2)
variable {P:Program} {o:Oper} {tv:Operand->TV} {n0:Nat}
theorem QuI (c:Call) (fo:Operand) (f:FuncId) (cap:List (Nat × Nat)) (l args:List AV) (m:List Em) (H:List Row) (Post:Res->Prop) (fp:List (Nat × Row)) (ho:o.op= .call c) (fF:c.callee= .value fo) (GU:tv fo= .a (.s (.fn (.func f) cap)))
  (hl:avs tv c.args.toList=some l) (ha:l++Qop cap=args.map (QcZ m H.length n0)) (hF:Fn P f args H Post) (hm:m.length=H.length) (hr:∀ hp:Hp,(∀ p∈fp,hp p.1=some p.2)->Qey m n0 H hp) (hq:∀ R,Post R->R.nw.length<=Qaq) :
  SemOp P o tv n0 fp (fun e=>∃ R,Post R/\e=R.ef m H.length n0):=by
 intro F ρ hp a w Q K h1 hc hf jB hK;obtain ⟨⟨fn,g1,g2,g3⟩,hF⟩:=hF;have hr':=hr hp hf;have hs:∀ i,H.length<=i->ρ (n0+(i-H.length)%Qaq)=none:=fun i _=>jB _ (by omega) (by have:=Nat.mod_lt (i-H.length) (show 0<Qaq by unfold Qaq;omega);omega)
 have hfv:=QaW h1 (by rw [ho];simp [Op.operands,Call.operands,fF]) GU;obtain ⟨caps,e1,e2,e3⟩:=hfv;have hav:=QA7 (ρ:=ρ) (a:=a) _ _ hl (fun x hx=>h1 x (by rw [ho];simp only [Op.operands,Call.operands,fF,Array.mem_append];exact .inr (by simpa using hx)))
 have FI:VAs ρ (l++Qop cap) ((c.args.map a.eval)++caps).toList:=by
  have hl2:l.length=c.args.size:=by have:=hav.1;simpa using this
  refine ⟨by simp [Qop,hl2,e2],fun k s hk=>?_⟩;rw [Array.toList_append]
  by_cases WI:k<l.length
  .rw [List.getElem?_append_left WI] at hk
   obtain ⟨v,q1,q2⟩:=hav.2 k s hk;exact ⟨v,by rw [List.getElem?_append_left (by simp;omega)];simpa using q1,q2⟩
  .rw [List.getElem?_append_right (by omega)] at hk
   unfold Qop at hk;rw [List.getElem?_map] at hk
   cases e4:cap[k-l.length]? with
   | none=>grind
   | some p =>
    rw [e4] at hk;injection hk with hk;subst hk
    obtain ⟨L,q1,q2⟩:=e3 _ p e4;exact ⟨_,by rw [List.getElem?_append_right (by simp;omega)];simpa [hl2] using q2,⟨L,q1,rfl⟩⟩
 rw [ha] at FI;have hcalls:=hF (Qeq m ρ) w (c.args.map a.eval++caps) (fun n hn=>by rw [Qfh];rw [List.getElem?_eq_none (by omega)]) (Qu4 hm hs FI) (Qjk hc hm hs hr');unfold Oper.wp
 have fC:(execOp a.eval o).run P w= .ok (.enter f (c.args.map a.eval++caps)) w:=by
  unfold execOp;rw [ho];have g2' : ¬ fn.name = "runtime.NumGoroutine" := by simpa using g2
  have g3':¬ fn.body=none:=by intro e;rw [e] at g3;cases g3
  simp [resolve,fF,Deferred.ofValue,e1,invoke,callFunc,program,Sem.run,g1,g2',g3']
 rw [fC,Oper.upon_enter];refine Calls.mono hcalls fun e w' hpost=>?_
 obtain ⟨R,v,ρ1,p1,rfl,p2,p3,p4,p5,p6,p7,p8⟩:=hpost;have FZ:=hq R p1
 exact hK _ (Qi8 H.length n0 R.nw.length ρ ρ1) v w' ⟨R,p1,rfl⟩ (QfY FZ jB p2.fr) (fun n fQ=>by rw [Qgp];rw [if_neg];rintro ⟨q1,q2⟩;exact fQ ⟨q1,by omega⟩)
  (QzR (fun s v=>QsA hc hm jB hr' p2 FZ p3) p4) (Qpc hc hm jB hr' p2 FZ p3 p5 p6 p7 p8)
abbrev KK:=List (Nat × Row)->Ef->Prop
def vv (x:AV):Ef:=⟨.a x,[],[]⟩
def vs1 (x:SV):Ef:=⟨.a (.s x),[],[]⟩
inductive Sd (p K:Prop):Prop
 | mk (h:p) (k:K)
inductive Vl {α:Type} (e:α) (K:α->Prop):Prop
 | mk (z:α) (h:e=z) (k:K z)
inductive Ge {α:Type} (e:Option α) (K:α->Prop):Prop
 | mk (z:α) (h:e=some z) (k:K z)
inductive Sg (cells:List SV) (o n:Nat) (K:List SV->Prop):Prop
 | mk (l:List SV) (h:l.length=n/\∀ (j:Nat) s,l[j]?=some s->cells[o+j]?=some s) (k:K l)
inductive Sk (cells:List SV) (o n:Nat) (K:List SV->Prop):Prop
 | mk (l:List SV) (h:l.length=n/\Qat l=true/\∀ (j:Nat) s,l[j]?=some s->cells[o+j]?=some s) (k:K l)
inductive Br (b:Bool) (A B:Prop):Prop
 | mk (t:b=true->A) (f:b=false->B)
inductive Gd (b want nw:Bool) (A B:Prop):Prop
 | mk (t:b=want->A) (f:b=nw->B)
def fB (b:Bool) (K:Bool->Prop):Prop:=match b with
 | true=>K true
 | false=>K false
theorem Qqc (b:Bool) (K:Bool->Prop):fB b K↔K b:=by cases b<;>exact Iff.rfl
def QC5 (op:BinOp) (k:IntKind) (m:Int) (k':IntKind) (n:Int) (K:SV->Prop):Prop :=
 match op with
 | .shl=>Sd (0<=n) (Vl (k.wrap (m*2^min n.toNat k.bits)) fun z=>K (.int k z))
 | .shr=>Sd (0<=n) (Vl (m / 2^min n.toNat k.bits) fun z=>K (.int k z))
 | .quo=>Sd (k=k') (Sd (n≠0) (Vl (k.wrap (m.tdiv n)) fun z=>K (.int k z)))
 | .rem=>Sd (k=k') (Sd (n≠0) (Vl (m.tmod n) fun z=>K (.int k z)))
 | .add=>Sd (k=k') (Vl (k.wrap (m+n)) fun z=>K (.int k z))
 | .sub=>Sd (k=k') (Vl (k.wrap (m-n)) fun z=>K (.int k z))
 | .mul=>Sd (k=k') (Vl (k.wrap (m*n)) fun z=>K (.int k z))
 | .and=>Sd (k=k') (Vl (bits .and k m n) fun z=>K (.int k z))
 | .or=>Sd (k=k') (Vl (bits .or k m n) fun z=>K (.int k z))
 | .xor=>Sd (k=k') (Vl (bits .xor k m n) fun z=>K (.int k z))
 | .andNot=>Sd (k=k') (Vl (bits .andNot k m n) fun z=>K (.int k z))
 | .eql=>Sd (k=k') (Vl ((m==n)) fun z=>K (.bool z))
 | .neq=>Sd (k=k') (Vl ((m !=n)) fun z=>K (.bool z))
 | .lss=>Sd (k=k') (Vl (decide (m<n)) fun z=>K (.bool z))
 | .leq=>Sd (k=k') (Vl (decide (m<=n)) fun z=>K (.bool z))
 | .gtr=>Sd (k=k') (Vl (decide (m>n)) fun z=>K (.bool z))
 | .geq=>Sd (k=k') (Vl (decide (m>=n)) fun z=>K (.bool z))
def QC8 (op:BinOp) (m n:ByteArray) (K:SV->Prop):Prop :=
 match op with
 | .add=>Sd (m.size+n.size<=9223372036854775807) (Vl (m++n) fun z=>K (.str z))
 | .eql=>Vl ((m.toList==n.toList)) fun z=>K (.bool z)
 | .neq=>Vl ((!(m.toList==n.toList))) fun z=>K (.bool z)
 | _=>False
def QAT (P:Program) (t:TypeId) (l l':List SV) (b:Bool):Prop :=
 ∀ (ρ:Nm) (w:World) (cs cs':Array Value) (x y:Operand),VSs ρ l cs.toList->VSs ρ l' cs'.toList ->
  (eqGuard .eql t x y (.agg cs) (.agg cs')).run P w= .ok () w/\(eqGuard .neq t x y (.agg cs) (.agg cs')).run P w= .ok () w /\
  (binOp .eql t (.agg cs) (.agg cs')).run P w= .ok (.bool b) w/\(binOp .neq t (.agg cs) (.agg cs')).run P w= .ok (.bool !b) w
inductive Eqs (P:Program) (t:TypeId) (l l':List SV) (K:Bool->Prop):Prop
 | mk (b:Bool) (h:QAT P t l l' b) (k:K b)
inductive Ns (det:Bool) (n:Nat) (K:Bool->Prop):Prop
 | any (hd:det=false) (h:∀ b:Bool,(b=true->n=0)->K b)
 | pos (hn:0<n) (k:K false)
def QC4 (P:Program) (T:Tys) (det:Bool) (op:BinOp) (t:TypeId) (x y:TV) (K:SV->Prop):Prop :=
 match x,y with
 | .a (.s (.int k m)),.a (.s (.int k' n))=>QC5 op k m k' n K
 | .a (.s (.str m)),.a (.s (.str n))=>QC8 op m n K
 | .a (.s (.bool m)),.a (.s (.bool n))=>(match T t with
  | some ty=>ty.kind= .bool/\(match op with
   | .eql=>Vl ((m==n)) fun z=>K (.bool z)
   | .neq=>Vl ((!(m==n))) fun z=>K (.bool z)
   | _=>False)
  | none=>False)
 | .a (.agg l),.a (.agg l')=>(match op with
  | .eql=>Eqs P t l l' fun b=>K (.bool b)
  | .neq=>Eqs P t l l' fun b=>K (.bool !b)
  | _=>False)
 | .a (.s (.sl _ _ n)),.a (.s .nilsl)=>(match T t with
  | some y=>(match y.kind with
   | .slice _=>(match op with
    | .eql=>Ns det n fun b=>K (.bool b)
    | .neq=>Ns det n fun b=>Vl (!b) fun b=>K (.bool b)
    | _=>False)
   | _=>False)
  | none=>False)
 | .a (.s .nilsl),.a (.s .nilsl)=>(match T t with
  | some y=>(match y.kind with
   | .slice _=>(match op with
    | .eql=>K (.bool true)
    | .neq=>K (.bool false)
    | _=>False)
   | _=>False)
  | none=>False)
 | _,_=>False
def vUn (op:UnOp) (x:TV) (K:SV->Prop):Prop :=
 match op,x with
 | .not,.a (.s (.bool b))=>Vl ((!b)) fun z=>K (.bool z)
 | .neg,.a (.s (.int k n))=>Vl (k.wrap (0-n)) fun z=>K (.int k z)
 | .xor,.a (.s (.int k n))=>Vl (bits .xor k (if k.signed then -1 else k.max) n) fun z=>K (.int k z)
 | _,_=>False
def QAw (hp:Hp):List (Nat × Row)->Prop
 | []=>True
 | p::l=>hp p.1=some p.2/\QAw hp l
theorem QtR {hp:Hp} {l:List (Nat × Row)} (h:QAw hp l):∀ p∈l,hp p.1=some p.2:=by
 induction l with
 | nil=>grind
 | cons a l ih =>
  intro p hp;rcases List.mem_cons.1 hp with rfl|hp
  .exact h.1
  .exact ih h.2 p hp
def Qdm (mm:List Em) (k n0 i:Nat) (e:Em) (r rc:Row):Prop :=
 rc.es=r.es/\(∀ (q:Nat) s,r.cells[q]?=some s->rc.cells[e.sh+q]?=some (QcQ mm k n0 s))/\e.sh+r.cells.length<=rc.cells.length /\
  (r.own=true->rc.own=true/\e.sh=0/\rc.cells.length=r.cells.length/\∀ (j:Nat) (f:Em),mm[j]?=some f->j≠i->f.n≠e.n)
def QhX (mm:List Em) (k n0:Nat):Nat->List Em->List Row->List (Nat × Row)->Prop
 | _,[],[],[]=>True
 | i,e::m,r::H,p::fp=>p.1=e.n/\Qdm mm k n0 i e r p.2/\QhX mm k n0 (i+1) m H fp
 | _,_,_,_=>False
theorem Qg1 {mm:List Em} {k n0:Nat}:∀ {i:Nat} {m:List Em} {H:List Row} {fp:List (Nat × Row)},QhX mm k n0 i m H fp->m.length=H.length
 | _,[],[],[],_=>rfl
 | _,_::m,_::H,_::fp,h=>by have:=Qg1 h.2.2;simp [this]
 | _,[],_::_,_,h=>h.elim
 | _,[],[],_::_,h=>h.elim
 | _,_::_,[],_,h=>h.elim
 | _,_::_,_::_,[],h=>h.elim
theorem Qg2 {mm:List Em} {k n0:Nat}:∀ {i:Nat} {m:List Em} {H:List Row} {fp:List (Nat × Row)},QhX mm k n0 i m H fp->∀ e∈m,∃ p∈fp,p.1=e.n
 | _,[],_,_,_=>fun e he=>by cases he
 | _,x::m,_::H,p::fp,h=>fun e he=>by
  rcases List.mem_cons.1 he with rfl|he
  .exact ⟨p,by simp,h.1⟩
  .obtain ⟨q,h1,h2⟩:=Qg2 h.2.2 e he
   exact ⟨q,by simp [h1],h2⟩
 | _,_::_,[],_,h=>h.elim
 | _,_::_,_::_,[],h=>h.elim
theorem Qj1 {mm:List Em} {k n0:Nat} {hp:Hp}:∀ {i:Nat} {m:List Em} {H:List Row} {fp:List (Nat × Row)},QhX mm k n0 i m H fp->(∀ p∈fp,hp p.1=some p.2) ->
  ∀ (j:Nat) (r:Row),H[j]?=some r->∃ (e:Em) (rc:Row),m[j]?=some e/\hp e.n=some rc/\Qdm mm k n0 (i+j) e r rc
 | _,[],[],_,_,_=>fun j r h=>by cases h
 | i,e::m,x::H,p::fp,h,hf=>fun j r hj=>by
  cases j with
  | zero=>injection hj with hj;subst hj;exact ⟨e,p.2,rfl,by rw [<- h.1];exact hf p (by simp),h.2.1⟩
  | succ j =>
   obtain ⟨e',rc,h1,h2,h3⟩:=Qj1 h.2.2 (fun q hq=>hf q (by simp [hq])) j r hj;exact ⟨e',rc,h1,h2,by rw [show i+(j+1)=i+1+j by omega];exact h3⟩
 | _,[],_::_,_,h,_=>h.elim
 | _,_::_,[],_,h,_=>h.elim
 | _,_::_,_::_,[],h,_=>h.elim
theorem Quw {m:List Em} {n0:Nat} {H:List Row} {fp:List (Nat × Row)} (h:QhX m H.length n0 0 m H fp) (hp:Hp) (hf:∀ p∈fp,hp p.1=some p.2):Qey m n0 H hp:=fun i r hi=>by
 obtain ⟨e,rc,h1,h2,h3,h4,h5,h6⟩:=Qj1 h hf i r hi;rw [Nat.zero_add] at h6;exact ⟨e,rc,h1,h2,h3,h4,h5,h6⟩
def fS (s:SV) (K:SV->Prop):Prop:=match s with
 | .unk=>K .unk
 | .bool b=>K (.bool b)
 | .int k n=>K (.int k n)
 | .str s=>K (.str s)
 | .nil=>K .nil
 | .ptr i o=>K (.ptr i o)
 | .nilsl=>K .nilsl
 | .sl i o n=>K (.sl i o n)
 | .fn f c=>K (.fn f c)
 | .fz es n c=>K (.fz es n c)
theorem QvO (s:SV) (K:SV->Prop):fS s K↔K s:=by cases s<;>exact Iff.rfl
def fL:List SV->(List SV->Prop)->Prop
 | [],K=>K []
 | s::l,K=>fS s fun s=>fL l fun l=>K (s::l)
theorem Qqd:∀ (l:List SV) (K:List SV->Prop),fL l K↔K l
 | [],K=>Iff.rfl
 | s::l,K=>by unfold fL;rw [QvO];exact Qqd l _
def fT (v:TV) (K:TV->Prop):Prop:=match v with
 | .unk=>K .unk
 | .a x=>(match x with
  | .s s=>fS s fun s=>K (.a (.s s))
  | .agg l=>K (.a (.agg l)))
 | .tup l=>K (.tup l)
theorem QBG (v:TV) (K:TV->Prop):fT v K↔K v:=by
 cases v with
 | unk=>exact Iff.rfl
 | tup l=>exact Iff.rfl
 | a x =>
  cases x with
  | s s=>grind [QvO,fT]
  | agg l=>exact Iff.rfl
def fR (r:Row) (K:Bool->Nat->List SV->Prop):Prop:=match r with
 | ⟨o,e,c⟩=>K o e c
def fA (u:AV) (K:List SV->Prop):Prop:=match u with
 | .s x=>K [x]
 | .agg l=>K l
theorem Qmk (u:AV) (K:List SV->Prop):fA u K↔K u.cells:=by cases u<;>exact Iff.rfl
inductive Cll (P:Program) (det:Bool) (f:FuncId) (l:List AV) (hp:Hp) (n0:Nat) (K:KK):Prop
 | mk (args:List AV) (H:List Row) (m:List Em) (fp:List (Nat × Row)) (Post:Res->Prop) (h1:Fn P f args H Post) (h2:l=args.map (QcZ m H.length n0)) (h3:QAw hp fp) (h4:QhX m H.length n0 0 m H fp)
  (h5:∀ R,Post R->R.nw.length<=Qaq/\∀ p∈R.up,p.1<H.length) (h6:det=true->∃ R,Post=(. =R)) (h7:∀ R,Post R->Vl (R.ef m H.length n0) fun e=>K fp e)
def Qoa (P:Program) (det:Bool) (f:FuncId) (l:List AV) (hp:Hp) (n0:Nat) (K:KK):Prop :=
 Cll P det f l hp n0 K
def QC6 (T:Tys) (t:TypeId) (x:TV) (K:SV->Prop):Prop :=
 match x with
 | .a (.s (.sl _ _ n))=>(match T t with|some y=>(match y.kind with| .slice _=>K (.int .i64 n)|_=>False)|none=>False)
 | .a (.s (.fz _ n _))=>(match T t with|some y=>(match y.kind with| .slice _=>K (.int .i64 n)|_=>False)|none=>False)
 | .a (.s .nilsl)=>(match T t with|some y=>(match y.kind with| .slice _=>K (.int .i64 0)|_=>False)|none=>False)
 | .a (.s (.str s))=>(match T t with|some y=>(match y.kind with| .str=>K (.int .i64 s.size)|_=>False)|none=>False)
 | _=>False
def Qdz (T:Tys) (tx:TypeId) (y:TV):Prop :=
 match y with
 | .a (.s (.str _))=>(match T tx with|some z=>z.kind= .str|none=>False)
 | .a (.s .nilsl)| .a (.s (.sl _ _ _))=>(match T tx with|some z=>(match z.kind with| .slice _=>True|_=>False)|none=>False)
 | _=>False
def QC7 (hp:Hp) (es:Nat) (y:TV) (K:List (Nat × Row)->Nat->List SV->Prop):Prop :=
 match y with
 | .a (.s .nilsl)=>K [] 0 []
 | .a (.s (.sl j k m))=>Ge (hp j) fun r=>Sk r.cells k (m*es) fun l=>K [(j,r)] m l
 | .a (.s (.str s))=>Sd (es=1) (K [] s.size (QcA s))
 | _=>False
def Qhb (T:Tys) (hp:Hp) (n0:Nat) (t tx:TypeId) (x y:TV) (K:KK):Prop :=
 match T t with
 | some yt=>(match yt.kind with
  | .slice e=>(match T e with
   | some ye=>Sd (Qdz T tx y) (QC7 hp ye.size y fun fp m l=>(match x with
    | .a (.s .nilsl)=>Sd (m*ye.bytes<=140737488355328/\m<=9223372036854775807) (K fp ⟨.a (.s (.sl n0 0 m)),[],[(n0,⟨true,ye.size,l⟩)]⟩)
    | .a (.s (.sl i k n))=>Sd (k=0) (Ge (hp i) fun r=>Sd (r.own=true/\r.es=ye.size/\r.cells.length=n*ye.size/\(n+m)*ye.bytes<=140737488355328/\n+m<=9223372036854775807)
      (Vl (n+m) fun n'=>Vl (r.cells++l) fun c=>K ((i,r)::fp) ⟨.a (.s (.sl n0 0 n')),[(i,none)],[(n0,⟨true,ye.size,c⟩)]⟩))
    | _=>False))
   | none=>False)
  | _=>False)
 | none=>False
def Qsu (hp:Hp) (es:Nat) (y:TV) (n:Nat) (K:List (Nat × Row)->Nat->List SV->Prop):Prop :=
 match y with
 | .a (.s .nilsl)=>K [] 0 []
 | .a (.s (.sl j k m))=>Vl (min m n) fun q=>Ge (hp j) fun r=>Sk r.cells k (q*es) fun l=>K [(j,r)] q l
 | .a (.s (.str s))=>Vl (min s.size n) fun q=>Sd (es=1) (K [] q ((QcA s).take q))
 | _=>False
def Qst (T:Tys) (hp:Hp) (t:TypeId) (x y:TV) (K:KK):Prop :=
 match T t with
 | some yt=>(match yt.kind with
  | .slice e=>(match T e with
   | some ye=>(match x with
    | .a (.s (.sl i k n))=>Qsu hp ye.size y n fun fp q l=>Ge (hp i) fun r=>Sd (r.own=true/\k+l.length<=r.cells.length) (Vl (QaC r.cells k l) fun c=>fR r fun o e _=>K ((i,r)::fp) ⟨.a (.s (.int .i64 q)),[(i,some ⟨o,e,c⟩)],[]⟩)
    | _=>False)
   | none=>False)
  | _=>False)
 | none=>False
def Qss (T:Tys) (hp:Hp) (s d:TypeId) (x:TV) (K:KK):Prop :=
 match T s,T d with
 | some ys,some yd=>(match x,yd.kind with
  | .a (.s (.int _ z)),.int k=>Vl (k.wrap z) fun u=>K [] (vs1 (.int k u))
  | .a (.s (.str z)),.str=>K [] (vs1 (.str z))
  | .a (.s .nilsl),.str=>(match ys.kind with
   | .slice e=>(match T e with
    | some ye=>(match ye.kind with
     | .int .u8=>K [] (vs1 (.str ByteArray.empty))
     | _=>False)
    | none=>False)
   | _=>False)
  | .a (.s (.sl i k n)),.str=>(match ys.kind with
   | .slice e=>(match T e with
    | some ye=>(match ye.kind with
     | .int .u8=>Ge (hp i) fun r=>Sg r.cells k n fun l=>Ge (Qd8 l) fun ns=>K [(i,r)] (vs1 (.str (strOfNums ns)))
     | _=>False)
    | none=>False)
   | _=>False)
  | _,_=>False)
 | _,_=>False
def Qkn (T:Tys) (hp:Hp) (t:TypeId) (x:TV) (lo hi:Option Int->Option Int) (K:KK):Prop :=
 match T t with
 | some y=>(match x,y.kind with
  | .a (.s (.str s)),.str=>(match lo (some 0),hi (some s.size) with
   | some l,some h=>Sd (0<=l/\l<=h/\h<=s.size) (Vl (s.extract l.toNat h.toNat) fun z=>K [] (vs1 (.str z)))
   | _,_=>False)
  | .a (.s (.sl i k n)),.slice e=>(match T e,lo (some 0),hi (some n) with
   | some ye,some l,some h=>Ge (hp i) fun r=>Sd (r.es=ye.size/\0<=l/\l<=h/\h<=n) (Vl (k+l.toNat * ye.size) fun o'=>Vl ((h-l).toNat) fun n'=>K [(i,r)] (vs1 (.sl i o' n')))
   | _,_,_=>False)
  | .a (.s .nilsl),.slice e=>(match T e,lo (some 0),hi (some 0) with
   | some _,some l,some h=>Sd (l=0/\h=0) (K [] (vs1 .nilsl))
   | _,_,_=>False)
  | _,_=>False)
 | none=>False
inductive Zs (ye:Ty) (n:Nat) (K:List SV->Prop):Prop
 | mk (cells:List SV) (h:cells.length=n*ye.size/\∀ (k:Nat) s,cells[k]?=some s->ye.zero[k%ye.size]?=some s) (k:K cells)
def vop (P:Program) (T:Tys) (det:Bool) (o:Oper) (tv:Operand->TV) (hp:Hp) (n0:Nat) (K:KK):Prop :=
 match o.op with
 | .move x=>K [] ⟨tv x,[],[]⟩
 | .assign x=>K [] ⟨tv x,[],[]⟩
 | .pick c x y=>(match tv c with
  | .a (.s (.bool b))=>(match b with|true=>K [] ⟨tv x,[],[]⟩|false=>K [] ⟨tv y,[],[]⟩)
  | _=>False)
 | .binOp op t x y _=>QC4 P T det op t (tv x) (tv y) fun s=>K [] (vs1 s)
 | .unOp op _ x=>vUn op (tv x) fun s=>K [] (vs1 s)
 | .alloc t=>(match T t with|some y=>fL y.zero fun z=>K [] ⟨.a (.s (.ptr n0 0)),[],[(n0,⟨true,1,z⟩)]⟩|none=>False)
 | .box _ x=>(match tv x with| .a u=>fA u fun l=>Sd (Qat l=true) (K [] ⟨.a (.s (.ptr n0 0)),[],[(n0,⟨true,1,l⟩)]⟩)|_=>False)
 | .load t x=>(match tv x with
  | .a (.s (.ptr i k))=>(match T t with
   | some y=>(match y.kind.agg with
    | false=>Ge (hp i) fun r=>Ge (r.cells[k]?) fun s=>K [(i,r)] (vs1 s)
    | true=>Ge (hp i) fun r=>Sg r.cells k y.size fun l=>K [(i,r)] (vv (.agg l)))
   | none=>False)
  | _=>False)
 | .store t x z=>(match tv x,tv z with
  | .a (.s (.ptr i k)),.a u=>(match T t with
   | some y=>fA u fun l=>Ge (hp i) fun r=>Sd (l.length=y.size/\Qat l=true/\r.own=true/\k+l.length<=r.cells.length) (Vl (QaC r.cells k l) fun c=>fR r fun o e _=>K [(i,r)] ⟨.unk,[(i,some ⟨o,e,c⟩)],[]⟩)
   | none=>False)
  | _,_=>False)
 | .nilCheck x=>(match tv x with
  | .a (.s (.ptr i k))=>K [] (vs1 (.ptr i k))
  | .a (.s (.fn (.func f) cap))=>K [] (vs1 (.fn (.func f) cap))
  | _=>False)
 | .fieldAddr t x f=>(match tv x,T t with
  | .a (.s (.ptr i k)),some y=>(match y.kind with
   | .struct fs=>(match fs[f]? with
    | some p=>(match T p.2 with
     | some yf=>(match Nat.beq yf.size 0 with|false=>K [] (vs1 (.ptr i (k+p.1)))|true=>False)
     | none=>False)
    | none=>False)
   | _=>False)
  | _,_=>False)
 | .indexAddr t x ix=>(match tv x,tv ix,T t with
  | .a (.s (.sl i k n)),.a (.s (.int _ z)),some y=>(match y.kind with
   | .slice e=>(match T e with
    | some ye=>Sd (0<=z/\z<n) (Vl (k+z.toNat * ye.size) fun o'=>K [] (vs1 (.ptr i o')))
    | none=>False)
   | _=>False)
  | .a (.s (.ptr i k)),.a (.s (.int _ z)),some y=>(match y.kind with
   | .array n e=>(match T e with
    | some ye=>Sd (0<=z/\z<n) (Vl (k+z.toNat * ye.size) fun o'=>K [] (vs1 (.ptr i o')))
    | none=>False)
   | _=>False)
  | _,_,_=>False)
 | .index t x ix=>(match tv x,tv ix,T t with
  | .a (.s (.str s)),.a (.s (.int _ z)),some y=>Sd (y.kind= .str/\0<=z) (Ge (s[z.toNat]?) fun b:UInt8=>K [] (vs1 (.int .u8 b.toNat)))
  | .a (.agg l),.a (.s (.int _ z)),some y=>(match y.kind with
   | .array n e=>(match T e with
    | some ye=>Sd (0<=z/\z<n) (Ge (Qiy ye l (z.toNat * ye.size)) fun u=>K [] (vv u))
    | none=>False)
   | _=>False)
  | _,_,_=>False)
 | .field t x f=>(match tv x,T t with
  | .a (.agg l),some y=>(match y.kind with
   | .struct fs=>(match fs[f]? with
    | some p=>(match T p.2 with
     | some yf=>Ge (Qiy yf l p.1) fun u=>K [] (vv u)
     | none=>False)
    | none=>False)
   | _=>False)
  | _,_=>False)
 | .extract x k=>(match tv x with| .tup l=>(match l[k]? with|some u=>K [] (vv u)|none=>False)|_=>False)
 | .build t parts=>(match T t,Qd4 tv parts.toList with
  | some y,some ps=>(match y.kind with
   | .struct fs=>(match QdA T fs with|some pl=>Ge (Qb0 (fun i=>pl[i]?) y.zero ps) fun l=>K [] (vv (.agg l))|none=>False)
   | .array _ e=>(match T e with|some ye=>Ge (Qb0 (fun i=>some (i*ye.size,ye.size)) y.zero ps) fun l=>K [] (vv (.agg l))|none=>False)
   | _=>False)
  | _,_=>False)
 | .buildSlice t n parts=>(match T t,Qd4 tv parts.toList with
  | some y,some ps=>(match y.kind with
   | .slice e=>(match T e with
    | some ye=>(match Nat.ble (n*ye.size) 16777216 with
     | true=>Ge (Qb0 (fun i=>some (i*ye.size,ye.size)) (List.replicate (n*ye.size) .unk) ps) fun l=>Sd (l.length=n*ye.size) (K [] ⟨.a (.s (.sl n0 0 n)),[],[(n0,⟨true,ye.size,l⟩)]⟩)
     | false=>False)
    | none=>False)
   | _=>False)
  | _,_=>False)
 | .makeSlice t x y=>(match tv x,tv y,T t with
  | .a (.s (.int _ l)),.a (.s (.int _ c)),some yt=>(match yt.kind with
   | .slice e=>(match T e with
    | some ye=>Sd (0<=l/\l<=c/\ye.bytes*c<=140737488355328/\c<=9223372036854775807) (Vl l.toNat fun n=>Zs ye n fun cells=>K [] ⟨.a (.s (.sl n0 0 n)),[],[(n0,⟨true,ye.size,cells⟩)]⟩)
    | none=>False)
   | _=>False)
  | _,_,_=>False)
 | .slice t x lo hi none=>Qkn T hp t (tv x) (fun d=>QkL tv (d.getD 0) lo) (fun d=>QkL tv (d.getD 0) hi) K
 | .convert s d x=>Qss T hp s d (tv x) K
 | .makeFunc f first cs=>(match first.toList with
  | []=>(match Qnd tv cs.toList with|some cap=>K [] (vs1 (.fn f cap))|none=>False)
  | _=>False)
 | .call c=>(match c.callee with
  | .value fo=>(match tv fo,avs tv c.args.toList with
   | .a (.s (.fn (.func f) cap)),some l=>Qoa P det f (l++Qop cap) hp n0 K
   | _,_=>False)
  | .builtin .len=>(match c.args.toList,c.argTypes.toList with| [x],[t]=>QC6 T t (tv x) fun s=>K [] (vs1 s)|_,_=>False)
  | .builtin .append=>(match c.args.toList,c.argTypes.toList with| [x,y],[t,tx]=>Qhb T hp n0 t tx (tv x) (tv y) K|_,_=>False)
  | .builtin .copy=>(match c.args.toList,c.argTypes.toList with| [x,y],[t,_]=>Qst T hp t (tv x) (tv y) K|_,_=>False)
  | .builtin .min=>(match c.args.toList with
   | x::l=>(match tv x with
    | .a (.s (.int k _))=>(match Qjz tv k (x::l) with|some (z::r)=>Vl (Qot z r) fun u=>K [] (vs1 (.int k u))|_=>False)
    | _=>False)
   | _=>False)
  | .builtin .max=>(match c.args.toList with
   | x::l=>(match tv x with
    | .a (.s (.int k _))=>(match Qjz tv k (x::l) with|some (z::r)=>Vl (QAB z r) fun u=>K [] (vs1 (.int k u))|_=>False)
    | _=>False)
   | _=>False)
  | _=>False)
 | _=>False
def Snd (P:Program) (det:Bool) (o:Oper) (tv:Operand->TV) (hp:Hp) (n0:Nat) (K:KK):Prop :=
 ∃ fp E,SemOp P o tv n0 fp E/\(∀ p∈fp,hp p.1=some p.2)/\(∀ e,E e->QAm n0 fp e/\K fp e)/\(det=true->∃ e,E=(. =e))
variable {P:Program} {det:Bool} {o:Oper} {tv:Operand->TV} {hp:Hp} {n0:Nat} {K:KK}
theorem QbU {fp:List (Nat × Row)} {e:Ef} (h:SemOp P o tv n0 fp (. =e)) (hf:∀ p∈fp,hp p.1=some p.2) (hok:QAm n0 fp e) (hk:K fp e):Snd P det o tv hp n0 K :=
 ⟨fp,_,h,hf,fun _ h=>h ▸ ⟨hok,hk⟩,fun _=>⟨e,rfl⟩⟩
theorem Qa1 (v:TV) (fp:List (Nat × Row)):QAm n0 fp ⟨v,[],[]⟩:=⟨fun _ h=>(by cases h),fun _ h=>(by cases h)⟩
theorem Qpw (v:TV) (fp:List (Nat × Row)) (r:Row):QAm n0 fp ⟨v,[],[(n0,r)]⟩:=⟨fun p h=>(by simp at h;subst h;simp [Qaq]),fun _ h=>(by cases h)⟩
theorem Qxk (v:TV) (fp:List (Nat × Row)) (i:Nat) (r:Row) (x:Option Row) (nw:List (Nat × Row)) (hn:∀ p∈nw,n0<=p.1/\p.1<n0+Qaq):QAm n0 ((i,r)::fp) ⟨v,[(i,x)],nw⟩ :=
 ⟨hn,fun p h=>by simp at h;subst h;exact ⟨(i,r),by simp,rfl⟩⟩
theorem nof {hp:Hp}:∀ p∈([]:List (Nat × Row)),hp p.1=some p.2:=fun _ h=>by cases h
theorem Qyk {hp:Hp} {i:Nat} {r:Row} (h:hp i=some r):∀ p∈ [(i,r)],hp p.1=some p.2:=fun p hp=>by simp at hp;subst hp;exact h
theorem QBj {hp:Hp} {i:Nat} {r:Row} {fp:List (Nat × Row)} (h:hp i=some r) (h2:∀ p∈fp,hp p.1=some p.2):∀ p∈(i,r)::fp,hp p.1=some p.2:=fun p hp=>by
 rcases List.mem_cons.1 hp with rfl|hp
 .exact h
 .grind
theorem Qob {op:BinOp} {t t2:TypeId} {x y:Operand} {k k':IntKind} {m n:Int} (ho:o.op= .binOp op t x y t2) (hx:tv x= .a (.s (.int k m))) (hy:tv y= .a (.s (.int k' n))) (h:QC5 op k m k' n fun s=>K [] (vs1 s)):Snd P det o tv hp n0 K:=by
 cases op<;>simp only [QC5] at h
 case quo=>obtain ⟨rfl,h1,_,rfl,h2⟩:=h;exact QbU (Qzi t x y t2 _ m n ho hx hy h1) nof (Qa1 _ _) h2
 case rem=>obtain ⟨rfl,h1,_,rfl,h2⟩:=h;exact QbU (Qzn t x y t2 _ m n ho hx hy h1) nof (Qa1 _ _) h2
 case shl=>obtain ⟨h1,_,rfl,h2⟩:=h;exact QbU (Qzo t x y t2 _ _ m n ho hx hy h1) nof (Qa1 _ _) h2
 case shr=>obtain ⟨h1,_,rfl,h2⟩:=h;exact QbU (Qzp t x y t2 _ _ m n ho hx hy h1) nof (Qa1 _ _) h2
 all_goals (obtain ⟨rfl,_,rfl,h2⟩:=h;exact QbU (QuK _ t x y t2 _ m n _ ho hx hy rfl) nof (Qa1 _ _) h2)
theorem Qod {op:BinOp} {t t2:TypeId} {x y:Operand} {m n:ByteArray} (ho:o.op= .binOp op t x y t2) (hx:tv x= .a (.s (.str m))) (hy:tv y= .a (.s (.str n))) (h:QC8 op m n fun s=>K [] (vs1 s)):Snd P det o tv hp n0 K:=by
 cases op<;>simp only [QC8] at h
 case add=>obtain ⟨h1,_,rfl,h2⟩:=h;exact QbU (QuP t x y t2 m n ho hx hy h1) nof (Qa1 _ _) h2
 all_goals (obtain ⟨_,rfl,h2⟩:=h;exact QbU (QuQ _ t x y t2 m n _ ho hx hy rfl) nof (Qa1 _ _) h2)
theorem Qj8 (op:BinOp) (t:TypeId) (x y:Operand) (t2:TypeId) (l l':List SV) (b c:Bool) (ho:o.op= .binOp op t x y t2) (hx:tv x= .a (.agg l)) (hy:tv y= .a (.agg l')) (he:QAT P t l l' b) (hc:(op= .eql/\c=b)\/(op= .neq/\c= !b)) :
  SemOp P o tv n0 [] (. =⟨.a (.s (.bool c)),[],[]⟩) :=
 SemOp.read fun F ρ hp a w h1 _ _=>by
  obtain ⟨cs,_,h3⟩:=Qmi h1 (by rw [ho];simp [Op.operands]) hx;obtain ⟨cs',_,h5⟩:=Qmi h1 (by rw [ho];simp [Op.operands]) hy;obtain ⟨_,_,_,_⟩:=he ρ w cs cs' x y h3 h5;refine ⟨.bool c,rfl,?_⟩;unfold execOp;rw [ho];rcases hc with ⟨rfl,rfl⟩|⟨rfl,rfl⟩
  .simp_all
  .simp_all
theorem QhO (w:World) (t e:TypeId) (a:Option Addr) (l c:Nat) (h:P.underlying t=some (.slice e)):(binOp .eql t (.slice a l c) (.slice none 0 0)).run P w= .ok (.bool a.isNone) w:=by
 simp only [binOp];simp [run_equal_slice_nil w t e a l c h]
theorem Qkb {T:Tys} (hT:QaU P T) (op:BinOp) (t e:TypeId) (x y:Operand) (t2:TypeId) (yt:Ty) (i k n:Nat) (neg:Bool) (ho:o.op= .binOp op t x y t2) (hx:tv x= .a (.s (.sl i k n))) (hy:tv y= .a (.s .nilsl)) (vE:T t=some yt) (hk:yt.kind= .slice e)
  (uR:(op= .eql/\neg=false)\/(op= .neq/\neg=true)):SemOp P o tv n0 [] (fun f=>∃ b:Bool,(b=true->n=0)/\f=⟨.a (.s (.bool (Bool.xor neg b))),[],[]⟩):=by
 intro F ρ hp a w Q K h1 h2 h3 _ hK;obtain ⟨A,c,e1,_,_⟩:=QaW h1 (by rw [ho];simp [Op.operands]) hx;have e2:a.eval y= .slice none 0 0:=QaW h1 (by rw [ho];simp [Op.operands]) hy;have hu:=(hT t yt vE).sl hk;have hz:A.isNone=true->n=0:=fun hA=>by grind
 have hr:(execOp a.eval o).run P w= .ok (.value (.bool (Bool.xor neg A.isNone))) w:=by
  unfold execOp;rw [ho];rcases uR with ⟨rfl,rfl⟩|⟨rfl,rfl⟩
  .simp only [e1,e2,eqGuard_at_slice,QhO w t e A n c hu,Sem.run_bind,Sem.run_pure,Result.andThen_ok,Bool.false_xor]
  .simp only [e1,e2,eqGuard_at_slice,run_neq_slice_nil w t e A n c hu,Sem.run_bind,Sem.run_pure,Result.andThen_ok,Bool.true_xor]
 unfold Oper.wp;rw [hr,Oper.upon_value];exact hK _ ρ _ w ⟨_,hz,rfl⟩ (Ext.refl _) (fun _ _=>rfl) rfl (by rw [Ef.app_none];exact h2)
theorem QhP {T:Tys} (hT:QaU P T) (op:BinOp) (t e:TypeId) (x y:Operand) (t2:TypeId) (yt:Ty) (neg:Bool) (ho:o.op= .binOp op t x y t2) (hx:tv x= .a (.s .nilsl)) (hy:tv y= .a (.s .nilsl)) (vE:T t=some yt) (hk:yt.kind= .slice e)
  (uR:(op= .eql/\neg=false)\/(op= .neq/\neg=true)):SemOp P o tv n0 [] (. =⟨.a (.s (.bool (!neg))),[],[]⟩) :=
 SemOp.read fun F ρ hp a w h1 _ _=>by
  have e1:a.eval x= .slice none 0 0:=QaW h1 (by rw [ho];simp [Op.operands]) hx;have e2:a.eval y= .slice none 0 0:=QaW h1 (by rw [ho];simp [Op.operands]) hy;have hu:=(hT t yt vE).sl hk;refine ⟨_,rfl,?_⟩;unfold execOp;rw [ho];rcases uR with ⟨rfl,rfl⟩|⟨rfl,rfl⟩
  .simp only [e1,e2,eqGuard_at_slice,QhO w t e none 0 0 hu,Sem.run_bind,Sem.run_pure,Result.andThen_ok]
   rfl
  .simp only [e1,e2,eqGuard_at_slice,run_neq_slice_nil w t e none 0 0 hu,Sem.run_bind,Sem.run_pure,Result.andThen_ok]
   rfl
theorem Qv4 {T:Tys} (hT:QaU P T) {op:BinOp} {t e:TypeId} {x y:Operand} {t2:TypeId} {yt:Ty} {i k n:Nat} {neg:Bool} {J:Bool->Prop} (ho:o.op= .binOp op t x y t2) (hx:tv x= .a (.s (.sl i k n))) (hy:tv y= .a (.s .nilsl)) (vE:T t=some yt) (hk:yt.kind= .slice e)
  (uR:(op= .eql/\neg=false)\/(op= .neq/\neg=true)) (h:Ns det n J) (hJ:∀ b,J b->K [] (vs1 (.bool (Bool.xor neg b)))):Snd P det o tv hp n0 K:=by
 rcases h with ⟨hd,h⟩|⟨hn,h⟩
 .refine ⟨[],_,Qkb hT op t e x y t2 yt i k n neg ho hx hy vE hk uR,nof,?_,fun e=>by rw [hd] at e;cases e⟩
  rintro f ⟨b,hb,rfl⟩;exact ⟨Qa1 _ _,hJ b (h b hb)⟩
 .refine ⟨[],(. =⟨.a (.s (.bool (Bool.xor neg false))),[],[]⟩),?_,nof,?_,fun _=>⟨_,rfl⟩⟩
  .intro F ρ hp a w Q K' h1 h2 h3 h4 hK
   refine Qkb hT op t e x y t2 yt i k n neg ho hx hy vE hk uR F ρ hp a w Q K' h1 h2 h3 h4 fun f ρ' v w' hf=>?_
   obtain ⟨b,hb,rfl⟩:=hf
   cases b with
   | false=>grind
   | true=>grind
  .rintro f rfl;exact ⟨Qa1 _ _,hJ false h⟩
theorem Qn9 {T:Tys} (hT:QaU P T) {op:BinOp} {t t2:TypeId} {x y:Operand} (ho:o.op= .binOp op t x y t2) (h:QC4 P T det op t (tv x) (tv y) fun s=>K [] (vs1 s)):Snd P det o tv hp n0 K:=by
 unfold QC4 at h;split at h
 .rename_i k m k' n hx hy;exact Qob ho hx hy h
 .rename_i m n hx hy;exact Qod ho hx hy h
 .rename_i m n hx hy
  split at h
  .rename_i ty hty
   obtain ⟨hk,h⟩:=h;have hu:=(hT t ty hty).bool hk;split at h
   .obtain ⟨_,rfl,h⟩:=h;exact QbU (QmR .eql t x y t2 m n _ ho hx hy hu rfl) nof (Qa1 _ _) h
   .obtain ⟨_,rfl,h⟩:=h;exact QbU (QmR .neq t x y t2 m n _ ho hx hy hu rfl) nof (Qa1 _ _) h
   .grind
  .grind
 .rename_i l l' hx hy
  split at h
  .obtain ⟨b,h1,h2⟩:=h;exact QbU (Qj8 _ t x y t2 l l' b _ ho hx hy h1 (.inl ⟨rfl,rfl⟩)) nof (Qa1 _ _) h2
  .obtain ⟨b,h1,h2⟩:=h;exact QbU (Qj8 _ t x y t2 l l' b _ ho hx hy h1 (.inr ⟨rfl,rfl⟩)) nof (Qa1 _ _) h2
  .grind
 .rename_i i k n hx hy
  split at h
  .rename_i yt vE
   split at h
   .rename_i e hk
    split at h
    .exact Qv4 (neg:=false) hT ho hx hy vE hk (.inl ⟨rfl,rfl⟩) h fun b hb=>by rw [Bool.false_xor];exact hb
    .exact Qv4 (neg:=true) hT ho hx hy vE hk (.inr ⟨rfl,rfl⟩) h fun b hb=>by obtain ⟨_,rfl,hb⟩:=hb;rw [Bool.true_xor];exact hb
    .grind
   .grind
  .grind
 .rename_i hx hy
  split at h
  .rename_i yt vE
   split at h
   .rename_i e hk
    split at h
    .exact QbU (QhP (neg:=false) hT _ t e x y t2 yt ho hx hy vE hk (.inl ⟨rfl,rfl⟩)) nof (Qa1 _ _) h
    .exact QbU (QhP (neg:=true) hT _ t e x y t2 yt ho hx hy vE hk (.inr ⟨rfl,rfl⟩)) nof (Qa1 _ _) h
    .grind
   .grind
  .grind
 .grind
theorem Qsv {op:UnOp} {t:TypeId} {x:Operand} (ho:o.op= .unOp op t x) (h:vUn op (tv x) fun s=>K [] (vs1 s)):Snd P det o tv hp n0 K:=by
 unfold vUn at h;split at h
 .rename_i b hx;obtain ⟨_,rfl,h⟩:=h;exact QbU (Qzm t x b ho hx) nof (Qa1 _ _) h
 .rename_i k n hx;obtain ⟨_,rfl,h⟩:=h;exact QbU (QrU _ t x k n _ ho hx rfl) nof (Qa1 _ _) h
 .rename_i k n hx;obtain ⟨_,rfl,h⟩:=h;exact QbU (QrU _ t x k n _ ho hx rfl) nof (Qa1 _ _) h
 .grind
theorem Qra (m:List Em) (k n0:Nat) (l:List Row) (j:Nat) (p:Nat × Row) (h:p∈nwN m k n0 j l):n0+j<=p.1/\p.1<n0+j+l.length:=by
 induction l generalizing j with
 | nil=>cases h
 | cons r l ih=>grind [nwN]
theorem Qso (m:List Em) (k n0:Nat) (l:List (Nat × Option Row)) (p:Nat × Option Row) (h:p∈upN m k n0 l):∃ q∈l,p.1=(Qc7 m k n0 q.1).n:=by
 induction l with
 | nil=>cases h
 | cons r l ih=>grind [upN,Qc7]
theorem QlN {c:Call} {fo:Operand} {f:FuncId} {cap:List (Nat × Nat)} {l:List AV} (ho:o.op= .call c) (fF:c.callee= .value fo) (GU:tv fo= .a (.s (.fn (.func f) cap))) (hl:avs tv c.args.toList=some l)
  (h:Qoa P det f (l++Qop cap) hp n0 K):Snd P det o tv hp n0 K:=by
 obtain ⟨args,H,m,fp,Post,h1,h2,h3,h4,h5,h6,h7⟩:=h;refine ⟨fp,_,QuI c fo f cap l args m H Post fp ho fF GU hl h2 h1 (Qg1 h4) (fun hp hf=>Quw h4 hp hf) (fun R hR=>(h5 R hR).1),QtR h3,?_,fun hd=>?_⟩
 .rintro e ⟨R,hR,rfl⟩
  refine ⟨⟨fun p hp=>?_,fun p hp=>?_⟩,by obtain ⟨e,h8,h9⟩:=h7 R hR;rw [h8];exact h9⟩
  .have:=Qra m H.length n0 R.nw 0 p hp
   have:=(h5 R hR).1;omega
  .obtain ⟨q,q1,q2⟩:=Qso m H.length n0 R.up p hp
   have gU:=(h5 R hR).2 q q1;rw [<- Qg1 h4] at gU;have e:=QcL (k:=H.length) (n0:=n0) (List.getElem?_eq_getElem gU);rw [e] at q2;obtain ⟨y,y1,y2⟩:=Qg2 h4 _ (List.getElem_mem gU);exact ⟨y,y1,y2.trans q2.symm⟩
 .obtain ⟨R,hR⟩:=h6 hd
  subst hR;exact ⟨R.ef m H.length n0,by funext e;simp⟩
theorem Qoc {T:Tys} (hT:QaU P T) {c:Call} {t:TypeId} {x:Operand} (ho:o.op= .call c) (fF:c.callee= .builtin .len) (qL:c.args= #[x]) (fM:c.argTypes= #[t]) (h:QC6 T t (tv x) fun s=>K [] (vs1 s)):Snd P det o tv hp n0 K:=by
 unfold QC6 at h;split at h
 .rename_i i k n hx
  split at h
  .rename_i y hy
   split at h
   .rename_i e hk;exact QbU (Qzj hT c t e x y i k n ho fF qL fM hx hy hk) nof (Qa1 _ _) h
   .grind
  .grind
 .rename_i k n fc hx
  split at h
  .rename_i y hy
   split at h
   .rename_i e hk;exact QbU (QrV hT c t e x y k n fc ho fF qL fM hx hy hk) nof (Qa1 _ _) h
   .grind
  .grind
 .rename_i hx
  split at h
  .rename_i y hy
   split at h
   .rename_i e hk;exact QbU (Qn0 hT c t e x y ho fF qL fM hx hy hk) nof (Qa1 _ _) h
   .grind
  .grind
 .rename_i s hx
  split at h
  .rename_i y hy
   split at h
   .rename_i hk;exact QbU (QuL hT c t x y s ho fF qL fM hx hy hk) nof (Qa1 _ _) h
   .grind
  .grind
 .grind
theorem QjB {T:Tys} {tx:TypeId} {y:TV} (h:Qdz T tx y):∃ yx,T tx=some yx/\((yx.kind= .str/\∃ s,y= .a (.s (.str s)))\/((∃ e',yx.kind= .slice e')/\¬ ∃ s,y= .a (.s (.str s)))):=by
 unfold Qdz at h;split at h
 .grind
 .grind
 .grind
 .grind
theorem QzM {es:Nat} {y:Operand} {C:List (Nat × Row)->Nat->List SV->Prop} (h:QC7 hp es (tv y) C):∃ fp m l,QEG tv y es fp m l/\(∀ p∈fp,hp p.1=some p.2)/\C fp m l:=by
 unfold QC7 at h;split at h
 .rename_i hy;exact ⟨[],0,[],.inl ⟨hy,rfl,rfl,rfl⟩,nof,h⟩
 .rename_i j k m hy
  obtain ⟨r,h1,l,⟨h2,h3,h4⟩,h5⟩:=h;exact ⟨_,m,l,.inr (.inl ⟨j,k,r,hy,rfl,h2,h3,h4⟩),Qyk h1,h5⟩
 .rename_i s hy
  obtain ⟨h1,h2⟩:=h;exact ⟨[],s.size,QcA s,.inr (.inr ⟨s,hy,rfl,rfl,rfl,h1⟩),nof,h2⟩
 .grind
theorem QiO {T:Tys} (hT:QaU P T) {c:Call} {t tx:TypeId} {x y:Operand} (ho:o.op= .call c) (fF:c.callee= .builtin .append) (qL:c.args= #[x,y]) (fM:c.argTypes= #[t,tx]) (h:Qhb T hp n0 t tx (tv x) (tv y) K):Snd P det o tv hp n0 K:=by
 unfold Qhb at h;split at h
 .rename_i yt vE
  split at h
  .rename_i e hk
   split at h
   .rename_i ye wP
    obtain ⟨h1,h2⟩:=h;obtain ⟨yx,JC,JA⟩:=QjB h1;obtain ⟨fp,m,l,h3,h4,h5⟩:=QzM h2;split at h5
    .rename_i hx
     obtain ⟨⟨h6,h7⟩,h8⟩:=h5;exact QbU (QiG hT c t tx e x y yt yx ye m fp l ho fF qL fM hx vE hk wP JC JA h3 h6 h7) h4 (Qpw _ _ _) h8
    .rename_i i k n hx
     obtain ⟨rfl,r,h6,⟨h7,h8,h9,jW,yN⟩,_,rfl,_,rfl,vS⟩:=h5;exact QbU (QnV hT c t tx e x y yt yx ye i n m r fp l ho fF qL fM hx vE hk wP JC JA h3 h7 h8 h9 jW yN) (QBj h6 h4) (Qxk _ _ _ _ _ _ (fun p h=>by simp at h;subst h;simp [Qaq])) vS
    .grind
   .grind
  .grind
 .grind
theorem Qu3 {es n:Nat} {y:Operand} {C:List (Nat × Row)->Nat->List SV->Prop} (h:Qsu hp es (tv y) n C):∃ fp m q l,QFt tv y es fp m q l/\q=min m n/\(∀ p∈fp,hp p.1=some p.2)/\C fp q l:=by
 unfold Qsu at h;split at h
 .rename_i hy;exact ⟨[],0,0,[],.inl ⟨hy,rfl,rfl,rfl,rfl⟩,by omega,nof,h⟩
 .rename_i j k m hy
  obtain ⟨q,h0,r,h1,l,⟨h2,h3,h4⟩,h5⟩:=h;exact ⟨_,m,q,l,.inr (.inl ⟨j,k,r,hy,rfl,by omega,h2,h3,h4⟩),h0.symm,Qyk h1,h5⟩
 .rename_i s hy
  obtain ⟨q,h0,h1,h2⟩:=h;exact ⟨[],s.size,q,_,.inr (.inr ⟨s,hy,rfl,rfl,by omega,rfl,h1⟩),h0.symm,nof,h2⟩
 .grind
theorem QlP {T:Tys} (hT:QaU P T) {c:Call} {t tx:TypeId} {x y:Operand} (ho:o.op= .call c) (fF:c.callee= .builtin .copy) (qL:c.args= #[x,y]) (fM:c.argTypes= #[t,tx]) (h:Qst T hp t (tv x) (tv y) K):Snd P det o tv hp n0 K:=by
 unfold Qst at h;split at h
 .rename_i yt vE
  split at h
  .rename_i e hk
   split at h
   .rename_i ye wP
    split at h
    .rename_i i k n hx
     obtain ⟨fp,m,q,l,h3,h4,h5,r,h6,⟨h7,h8⟩,_,rfl,h9⟩:=Qu3 h;exact QbU (QuJ hT c t tx e x y yt ye i k n m q r fp l ho fF qL fM hx vE hk wP h3 h4 h7 h8) (QBj h6 h5) (Qxk _ _ _ _ _ _ (fun p h=>(by cases h))) h9
    .grind
   .grind
  .grind
 .grind
theorem QlO {T:Tys} (hT:QaU P T) {s d:TypeId} {x:Operand} (ho:o.op= .convert s d x) (h:Qss T hp s d (tv x) K):Snd P det o tv hp n0 K:=by
 unfold Qss at h;split at h
 .rename_i ys yd hs hd
  split at h
  .rename_i q z k hx hk;obtain ⟨_,rfl,h⟩:=h;exact QbU (QrS hT s d x ys yd k q z ho hx hs hd hk) nof (Qa1 _ _) h
  .rename_i z hx hk;exact QbU (QlE hT s d x ys yd z ho hx hs hd hk) nof (Qa1 _ _) h
  .rename_i hx hk
   split at h
   .rename_i e he
    split at h
    .rename_i ye wP
     split at h
     .rename_i hu;exact QbU (QnX hT s d e x ys yd ye ho hx hs he wP hu hd hk) nof (Qa1 _ _) h
     .grind
    .grind
   .grind
  .rename_i i k n hx hk
   split at h
   .rename_i e he
    split at h
    .rename_i ye wP
     split at h
     .rename_i hu
      obtain ⟨r,h1,l,⟨h2,h3⟩,xs,h4,h5⟩:=h;exact QbU (QrR hT s d e x ys yd ye i k n r l xs ho hx hs he wP hu hd hk h2 h3 h4) (Qyk h1) (Qa1 _ _) h5
     .grind
    .grind
   .grind
  .grind
 .grind
theorem Qko {T:Tys} (hT:QaU P T) {t:TypeId} {x:Operand} {lo hi:Option Operand} (ho:o.op= .slice t x lo hi none) (h:Qkn T hp t (tv x) (fun d=>QkL tv (d.getD 0) lo) (fun d=>QkL tv (d.getD 0) hi) K):Snd P det o tv hp n0 K:=by
 unfold Qkn at h;split at h
 .rename_i y hy
  split at h
  .rename_i s hx hk
   split at h
   .rename_i l q hl hh
    obtain ⟨⟨h1,h2,h3⟩,_,rfl,h⟩:=h;exact QbU (Qn1 hT t x lo hi y s l q ho hx hy hk hl hh h1 h2 h3) nof (Qa1 _ _) h
   .grind
  .rename_i i k n e hx hk
   split at h
   .rename_i ye l q he hl hh
    obtain ⟨r,h1,⟨h2,h3,h4,h5⟩,_,rfl,_,rfl,h6⟩:=h;exact QbU (QrW hT t e x lo hi y ye i k n r l q ho hx hy hk he h2 hl hh h3 h4 h5) (Qyk h1) (Qa1 _ _) h6
   .grind
  .rename_i e hx hk
   split at h
   .rename_i ye l q he hl hh
    obtain ⟨⟨rfl,rfl⟩,h⟩:=h;exact QbU (Qkc hT t e x lo hi y ye ho hx hy hk he hl hh) nof (Qa1 _ _) h
   .grind
  .grind
 .grind
theorem QHU {α:Type} {a:Array α} {x:α} (h:a.toList= [x]):a= #[x]:=by apply Array.ext';simpa using h
theorem QE7 {α:Type} {a:Array α} {x y:α} (h:a.toList= [x,y]):a= #[x,y]:=by apply Array.ext';simpa using h
theorem QJb {α:Type} {a:Array α} (h:a.toList= []):a= #[]:=by apply Array.ext';simpa using h
theorem Qkq {T:Tys} (hT:QaU P T) (h:vop P T det o tv hp n0 K):Snd P det o tv hp n0 K:=by
 unfold vop at h;split at h
 .rename_i x ho;exact QbU (QuO x ho) nof (Qa1 _ _) h
 .rename_i x ho;exact QbU (QnW x ho) nof (Qa1 _ _) h
 .rename_i c x y ho
  split at h
  .rename_i b hc
   cases b
   .exact QbU (QmS c x y false ho hc) nof (Qa1 _ _) h
   .exact QbU (QmS c x y true ho hc) nof (Qa1 _ _) h
  .grind
 .rename_i op t x y t2 ho;exact Qn9 hT ho h
 .rename_i op t x ho;exact Qsv ho h
 .rename_i t ho
  split at h
  .rename_i y hy;rw [Qqd] at h;exact QbU (QrQ hT t y ho hy) nof (Qpw _ _ _) h
  .grind
 .rename_i t x ho
  split at h
  .rename_i u hx;rw [Qmk] at h;obtain ⟨h1,h⟩:=h;exact QbU (Qzh t x u ho hx h1) nof (Qpw _ _ _) h
  .grind
 .rename_i t x ho
  split at h
  .rename_i i k hx
   split at h
   .rename_i y hy
    split at h
    .rename_i hk
     obtain ⟨r,h1,s,h2,h3⟩:=h;exact QbU (QuM hT t x y i k r s ho hx hy hk h2) (Qyk h1) (Qa1 _ _) h3
    .rename_i hk
     obtain ⟨r,h1,l,⟨h2,h4⟩,h3⟩:=h;exact QbU (QlG hT t x y i k r l ho hx hy hk h2 h4) (Qyk h1) (Qa1 _ _) h3
   .grind
  .grind
 .rename_i t x z ho
  split at h
  .rename_i i k u hx hz
   split at h
   .rename_i y hy
    rw [Qmk] at h;obtain ⟨r,h1,⟨h2,h3,h4,h5⟩,_,rfl,h6⟩:=h;exact QbU (QrX hT t x z y i k r u ho hx hz hy h2 h3 h4 h5) (Qyk h1) (Qxk _ _ _ _ _ _ (fun p h=>(by cases h))) h6
   .grind
  .grind
 .rename_i x ho
  split at h
  .rename_i i k hx;exact QbU (Qka x i k ho hx) nof (Qa1 _ _) h
  .rename_i f cap hx;exact QbU (QiJ x f cap ho hx) nof (Qa1 _ _) h
  .grind
 .rename_i t x f ho
  split at h
  .rename_i i k y hx hy
   split at h
   .rename_i fs hk
    split at h
    .rename_i p hf
     split at h
     .rename_i yf VN
      split at h
      .rename_i hs;exact QbU (QiH hT t x f y yf fs p i k ho hx hy hk hf VN hs) nof (Qa1 _ _) h
      .grind
     .grind
    .grind
   .grind
  .grind
 .rename_i t x ix ho
  split at h
  .rename_i i k n q z y hx yD hy
   split at h
   .rename_i e hk
    split at h
    .rename_i ye he
     obtain ⟨⟨h1,h2⟩,_,rfl,h3⟩:=h;exact QbU (QiI hT t e x ix y ye i k n q z ho hx yD hy hk he h1 h2) nof (Qa1 _ _) h3
    .grind
   .grind
  .rename_i i k q z y hx yD hy
   split at h
   .rename_i n e hk
    split at h
    .rename_i ye he
     obtain ⟨⟨h1,h2⟩,_,rfl,h3⟩:=h;exact QbU (Qho hT t e x ix y ye i k n q z ho hx yD hy hk he h1 h2) nof (Qa1 _ _) h3
    .grind
   .grind
  .grind
 .rename_i t x ix ho
  split at h
  .rename_i s q z y hx yD hy
   obtain ⟨⟨hk,h1⟩,b,h2,h3⟩:=h;exact QbU (QnZ hT t x ix y s q z b ho hx yD hy hk h1 h2) nof (Qa1 _ _) h3
  .rename_i l q z y hx yD hy
   split at h
   .rename_i n e hk
    split at h
    .rename_i ye he
     obtain ⟨⟨h1,h2⟩,u,h3,h4⟩:=h;exact QbU (QnY hT t e x ix y ye l n u q z ho hx yD hy hk he h1 h2 h3) nof (Qa1 _ _) h4
    .grind
   .grind
  .grind
 .rename_i t x f ho
  split at h
  .rename_i l y hx hy
   split at h
   .rename_i fs hk
    split at h
    .rename_i p hf
     split at h
     .rename_i yf VN
      obtain ⟨u,h1,h2⟩:=h;exact QbU (QrT hT t x f y yf fs p l u ho hx hy hk hf VN h1) nof (Qa1 _ _) h2
     .grind
    .grind
   .grind
  .grind
 .rename_i x k ho
  split at h
  .rename_i l hx
   split at h
   .rename_i u hu;exact QbU (QlF x k l u ho hx hu) nof (Qa1 _ _) h
   .grind
  .grind
 .rename_i t parts ho
  split at h
  .rename_i y ps hy vY
   split at h
   .rename_i fs hk
    split at h
    .rename_i pl zC
     obtain ⟨l,hl,h⟩:=h;exact QbU (Qj7 hT t parts y ps l ho hy vY (.inl ⟨fs,pl,hk,zC,hl⟩)) nof (Qa1 _ _) h
    .grind
   .rename_i n e hk
    split at h
    .rename_i ye he
     obtain ⟨l,hl,h⟩:=h;exact QbU (Qj7 hT t parts y ps l ho hy vY (.inr ⟨n,e,ye,hk,he,hl⟩)) nof (Qa1 _ _) h
    .grind
   .grind
  .grind
 .rename_i t n parts ho
  split at h
  .rename_i y ps hy vY
   split at h
   .rename_i e hk
    split at h
    .rename_i ye he
     split at h
     .rename_i hb
      obtain ⟨l,hl,h1,h⟩:=h;exact QbU (Qhn hT t e n parts y ye ps l ho hy hk he vY hb hl h1) nof (Qpw _ _ _) h
     .grind
    .grind
   .grind
  .grind
 .rename_i t x y ho
  split at h
  .rename_i q l q2 c yt hx hy vE
   split at h
   .rename_i e hk
    split at h
    .rename_i ye he
     obtain ⟨⟨h1,h2,h3,h4⟩,n,rfl,cells,⟨h6,h7⟩,h8⟩:=h;exact QbU (QuN hT t e x y yt ye q q2 l c ho hx hy vE hk he h1 h2 h3 h4 cells h6 h7) nof (Qpw _ _ _) h8
    .grind
   .grind
  .grind
 .rename_i t x lo hi ho;exact Qko hT ho h
 .rename_i s d x ho;exact QlO hT ho h
 .rename_i f first cs ho
  split at h
  .rename_i hf
   have hf:=QJb hf;subst hf;split at h
   .rename_i cap hc;exact QbU (Qj9 f cs cap ho hc) nof (Qa1 _ _) h
   .grind
  .grind
 .rename_i c ho
  split at h
  .rename_i fo fF
   split at h
   .rename_i f cap l GU hl;exact QlN ho fF GU hl h
   .grind
  .rename_i fF
   split at h
   .rename_i x t hx ht;exact Qoc hT ho fF (QHU hx) (QHU ht) h
   .grind
  .rename_i fF
   split at h
   .rename_i x y t tx hx ht;exact QiO hT ho fF (QE7 hx) (QE7 ht) h
   .grind
  .rename_i fF
   split at h
   .rename_i x y t tx hx ht;exact QlP hT ho fF (QE7 hx) (QE7 ht) h
   .grind
  .rename_i fF
   split at h
   .rename_i x l hx
    split at h
    .rename_i k z0 VL
     split at h
     .rename_i z r hz
      obtain ⟨u,rfl,h⟩:=h;exact QbU (Qzl c k x l z r ho fF hx hz) nof (Qa1 _ _) h
     .grind
    .grind
   .grind
  .rename_i fF
   split at h
   .rename_i x l hx
    split at h
    .rename_i k z0 VL
     split at h
     .rename_i z r hz
      obtain ⟨u,rfl,h⟩:=h;exact QbU (Qzk c k x l z r ho fF hx hz) nof (Qa1 _ _) h
     .grind
    .grind
   .grind
  .grind
 .grind
def ap {V:Type} (u:Nat->Option V) (f:Nat->V):Nat->V:=fun k=>match u k with
 | some v=>v
 | none=>f k
def Qa3 {V:Type} (us:Nat->Nat->Option V) (l:List Nat) (f:Nat->V):Nat->V:=l.foldl (fun f i=>ap (us i) f) f
theorem QdN {V:Type} (us:Nat->Nat->Option V) (i:Nat) (l:List Nat) (f:Nat->V):Qa3 us (i::l) f=Qa3 us l (ap (us i) f):=rfl
theorem Qdx {V:Type} (us:Nat->Nat->Option V) (l m:List Nat) (f:Nat->V):Qa3 us (l++m) f=Qa3 us m (Qa3 us l f):=by simp [Qa3]
theorem QtP {V:Type} (us:Nat->Nat->Option V) (k:Nat):∀ (l:List Nat) (f g:Nat->V),f k=g k->Qa3 us l f k=Qa3 us l g k:=by
 intro l
 induction l with
 | nil=>intro f g h;exact h
 | cons i l ih =>
  intro f g h;rw [QdN,QdN];refine ih _ _ ?_;unfold ap;split
  .rfl
  .exact h
theorem Qfz {V:Type} (us:Nat->Nat->Option V) (k:Nat):∀ (l:List Nat) (f:Nat->V),Qa3 us l f k=Qa3 us (l.filter fun i=>(us i k).isSome) f k:=by
 intro l
 induction l with
 | nil=>grind
 | cons i l ih =>
  intro f;rw [QdN,ih]
  cases e:us i k with
  | some v=>simp_all [List.filter_cons,QdN,Qa3]
  | none=>grind [QtP,ap,Qa3]
theorem QdO {V:Type} (us:Nat->Nat->Option V) (k n:Nat) (p q:Nat->Bool) (f:Nat->V) (h:∀ i,i<n->(us i k).isSome=true->p i=q i) :
  Qa3 us ((List.range n).filter p) f k=Qa3 us ((List.range n).filter q) f k:=by
 rw [Qfz,Qfz us k ((List.range n).filter q)];rw [List.filter_filter,List.filter_filter];congr 1;apply List.filter_congr;intro i hi;have hi:i<n:=by simpa using hi
 cases e:(us i k).isSome with
 | false=>simp
 | true=>grind
theorem QdB (n j:Nat) (h:j<=n):(List.range n).filter (fun i=>decide (i<j))=List.range j:=by
 induction n with
 | zero=>grind
 | succ n ih =>
  rw [List.range_succ,List.filter_append]
  by_cases hj:j<=n
  .rw [ih hj]
   simp;omega
  .have:j=n+1:=by omega
   subst this;rw [List.filter_eq_self.2 (by intro i hi;simp at hi |-;omega),List.range_succ];simp
theorem QfA {V:Type} (us:Nat->Nat->Option V) (k n j:Nat) (p:Nat->Bool) (f:Nat->V) (hj:j<n) (hp:p j=false) (h:∀ i,i<n->j<i->p i=true->(us j k).isSome=true->(us i k).isSome=false) :
  Qa3 us ((List.range n).filter fun i=>p i||decide (i=j)) f k=ap (us j) (Qa3 us ((List.range n).filter p) f) k:=by
 cases e:us j k with
 | none =>
  have:ap (us j) (Qa3 us ((List.range n).filter p) f) k=Qa3 us ((List.range n).filter p) f k:=by unfold ap;rw [e]
  rw [this];refine QdO us k n _ _ f fun i hi hu=>?_
  have:i≠j:=by rintro rfl;rw [e] at hu;cases hu
  simp [this]
 | some v =>
  have hr:ap (us j) (Qa3 us ((List.range n).filter p) f) k=v:=by unfold ap;rw [e]
  rw [hr];have jN:Qa3 us ((List.range n).filter fun i=>p i||decide (i=j)) f k=Qa3 us ((List.range n).filter fun i=>(p i&&decide (i<j))||decide (i=j)) f k:=by grind [QdO,Qa3,List.range,ap]
  rw [jN]
  have hsplit:(List.range n).filter (fun i=>(p i&&decide (i<j))||decide (i=j))=((List.range j).filter p)++ [j]:=by
   clear hr jN h e
   induction n with
   | zero=>omega
   | succ n ih=>grind [List.range_succ,List.filter,List.range,List.filter_congr,Nat.ne_of_lt,Qa3,ap]
  rw [hsplit,Qdx];show ap (us j) _ k=v;unfold ap;rw [e]
inductive Did where
 | skip
 | did (fp:List (Nat × Row)) (e:Ef)
def Did.v:Did->TV
 | .skip=> .tup []
 | .did _ e=>e.v
def Did.u:Did->Nat->Option (Option Row)
 | .skip,_=>none
 | .did _ e,n=>match QaX e.nw n with
  | some r=>some (some r)
  | none=>QaX e.up n
def evF (tm:Nat->TV):Operand->TV
 | .tmp t=>tm t
 | .const v=>QFu v
 | .func f=> .a (.s (.fn (.func f) []))
 | .global _=> .unk
def Qee (all:List Oper) (j:Nat):Option Nat:=match all[j]? with
 | some o=>o.dst
 | none=>none
theorem QiQ (ρ:Nm):VT ρ (.tup []) undef:=⟨#[],rfl,rfl,fun _ _ h=>by simp at h⟩
theorem Qm3 {all:List Oper} {a:Act} {o:Oper} {g:Nat × Bool} {t:Nat} {ρ:Nm} {l:List AV} (hg:o.guard=some g) (vV:Qee all g.1=some t) (hv:VT ρ (.tup l) (a.tmps.getD t undef)):Region.wanted o (yielded all.toArray a.tmps)=false:=by
 obtain ⟨_,hv,_⟩:=hv
 have hy:yielded all.toArray a.tmps g.1=none:=by
  unfold yielded;have:(all.toArray[g.1]?).bind (·.dst)=some t:=by grind [Qee,VT]
  rw [this]
  cases e:a.tmps[t]? with
  | none=>simp [e]
  | some v=>simp_all
 unfold Region.wanted;rw [hg];simp [hy]
theorem Qxn {ρ:Nm} {tm:Nat->TV} {a:Act} (x:Operand) (h:∀ t,x= .tmp t->VT ρ (tm t) (a.tmps.getD t undef)):VT ρ (evF tm x) (a.eval x):=by
 cases x with
 | tmp t=>exact h t rfl
 | const v=>exact QwC ρ v
 | global g=>exact trivial
 | func f=>exact ⟨#[],rfl,rfl,fun k p e=>by simp at e⟩
def QwA (P:Program) (all:List Oper) (base i:Nat) (o:Oper) (d:Did) (tm:Nat->TV) (hp:Hp):Prop :=
 match d with
 | .did fp e=>(∀ g,o.guard=some g->∃ t,Qee all g.1=some t/\tm t= .a (.s (.bool g.2)))/\SemOp P o (evF tm) (base+Qaq*i) fp (. =e)/\(∀ p∈fp,hp p.1=some p.2)/\QAm (base+Qaq*i) fp e
 | .skip=>∃ g t,o.guard=some g/\Qee all g.1=some t/\((∃ b,tm t= .a (.s (.bool b))/\b≠g.2)\/∃ l,tm t= .tup l)
def uT (all:List Oper) (ds:List Did) (i:Nat):Nat->Option TV:=fun t=>match all[i]?,ds[i]? with
 | some o,some d=>match o.dst with
  | some t'=>if t=t' then some d.v else none
  | none=>none
 | _,_=>none
def uH (ds:List Did) (i:Nat):Nat->Option (Option Row):=fun n=>match ds[i]? with
 | some d=>d.u n
 | none=>none
def Qd9 (P:Program) (all:List Oper) (base:Nat) (ds:List Did) (tm:Nat->TV) (hp:Hp):Prop :=
 all.length=ds.length/\∀ (i:Nat) o d,all[i]?=some o->ds[i]?=some d->QwA P all base i o d (Qa3 (uT all ds) (List.range i) tm) (Qa3 (uH ds) (List.range i) hp)
def QfE (o:Oper) (acc:List Nat):Nat:=o.after.toList.foldl (fun s e=>if Region.binds .any e then s ||| 2^e.on ||| acc.getD e.on 0 else s) 0
def QbN:List Oper->List Nat->List Nat
 | [],acc=>acc
 | o::l,acc=>QbN l (acc++ [QfE o acc])
def Qdl (all:List Oper) (L:Nat->Prop):Prop:=∀ i o,all[i]?=some o->L i->∀ e∈o.after,Region.binds .any e=true->L e.on
theorem Qt5 (acc:List Nat) (i:Nat):∀ (l:List Edge) (s:Nat),(l.foldl (fun s e=>if Region.binds .any e then s ||| 2^e.on ||| acc.getD e.on 0 else s) s).testBit i=true ->
  s.testBit i=true\/∃ e∈l,Region.binds .any e=true/\(i=e.on\/(acc.getD e.on 0).testBit i=true):=by
 intro l
 induction l with
 | nil=>grind
 | cons e l ih=>grind
theorem Qug (all:List Oper) (L:Nat->Prop) (hL:Qdl all L):∀ (l:List Oper) (acc:List Nat),(∃ pre,all=pre++l/\pre.length=acc.length)->(∀ k,L k->∀ i,(acc.getD k 0).testBit i=true->L i) ->
  ∀ k,L k->∀ i,((QbN l acc).getD k 0).testBit i=true->L i:=by
 intro l
 induction l with
 | nil=>intro acc _ h;exact h
 | cons o l ih =>
  rintro acc ⟨pre,rfl,fG⟩ h;refine ih _ ⟨pre++ [o],by simp,by simp [fG]⟩ fun k hk i hi=>?_
  by_cases h1:k<acc.length
  .refine h k hk i ?_
   rw [List.getD_eq_getElem?_getD,List.getElem?_append_left h1,<- List.getD_eq_getElem?_getD] at hi;exact hi
  .by_cases h2:k=acc.length
   .subst h2
    have e1:(acc++ [QfE o acc]).getD acc.length 0=QfE o acc:=by simp [List.getD]
    rw [e1] at hi;rcases Qt5 acc i _ _ hi with h3|⟨e,h3,h4,h5⟩
    .simp at h3
    .grind [Qdl,QbN]
   .grind
def Qor (l m:List Nat):Bool:=l.all fun x=>m.all fun y=> !Nat.beq x y
def Did.rd:Did->List Nat
 | .skip=> []
 | .did fp _=>fp.map (·.1)
def Did.wr:Did->List Nat
 | .skip=> []
 | .did _ e=>e.up.map (·.1)++e.nw.map (·.1)
def Qdp (all:List Oper) (ds:List Did) (i j:Nat):Bool :=
 match all[i]?,all[j]?,ds[i]?,ds[j]? with
 | some x,some y,some d,some e=>x.apart all.toArray y&&Qor d.wr e.rd&&Qor e.wr d.rd
 | _,_,_,_=>true
def QhC:List Oper->Nat->Bool
 | [],_=>true
 | o::l,i=>(o.after.toList.all fun e=> !Region.binds .any e||Nat.blt e.on i)&&QhC l (i+1)
def Qed (all:List Oper) (ds:List Did):Bool :=
 QhC all 0&&(List.range all.length).all fun j=>(List.range j).all fun i=>((QbN all []).getD j 0).testBit i||Qdp all ds i j
theorem Qtn:∀ (l:List Oper) (i:Nat),QhC l i=true->∀ (j:Nat) o,l[j]?=some o->∀ e∈o.after,Region.binds .any e=true->e.on<i+j:=by
 intro l
 induction l with
 | nil=>grind
 | cons x l ih =>
  intro i h j o hj e he hb;unfold QhC at h;rw [Bool.and_eq_true] at h
  cases j with
  | zero =>
   injection hj with hj;subst hj
   have:=List.all_eq_true.1 h.1 e (by simpa using he);rw [hb] at this;simpa using this
  | succ j=>grind
theorem Qk3 {l m:List Nat} (h:Qor l m=true) {x:Nat} (h1:x∈l) (h2:x∈m):False:=by grind [List.all_eq_true,Nat.beq_refl,Qor]
theorem QbH {α:Type} {l:List (Nat × α)} {n:Nat} {x:α} (h:QaX l n=some x):(n,x)∈l:=by
 induction l with
 | nil=>cases h
 | cons p l ih=>grind [QaX,Nat.beq,Nat.eq_of_beq_eq_true]
theorem QJw {d:Did} {n:Nat} (h:(d.u n).isSome=true):n∈d.wr:=by
 cases d with
 | skip=>cases h
 | did fp e =>
  unfold Did.u at h;unfold Did.wr;simp only [] at h
  cases e1:QaX e.nw n with
  | some r=>exact List.mem_append_right _ (List.mem_map.2 ⟨_,QbH e1,rfl⟩)
  | none =>
   rw [e1] at h
   cases e2:QaX e.up n with
   | some r=>exact List.mem_append_left _ (List.mem_map.2 ⟨_,QbH e2,rfl⟩)
   | none=>grind
theorem Qvp (fp:List (Nat × Row)) (e:Ef) (hp:Hp):ap ((Did.did fp e).u) hp=e.app hp:=by
 funext n
 have h1:(Did.did fp e).u n=match QaX e.nw n with|some r=>some (some r)|none=>QaX e.up n:=rfl
 unfold ap Ef.app;rw [h1]
 cases QaX e.nw n with
 | some r=>rfl
 | none=>grind
section
variable {M:Nm->Prop} {P:Program} {F:Fr} {all:List Oper} {ds:List Did} {base N:Nat} {tm0:Nat->TV} {hp0:Hp} {Q:Exit->Act->World->Prop}
def lst (n:Nat) (listed:Array Bool):List Nat:=(List.range n).filter fun i=>listed.getD i false
structure Inv (M:Nm->Prop) (F:Fr) (all:List Oper) (ds:List Did) (base N:Nat) (tm0:Nat->TV) (hp0:Hp) (listed:Array Bool) (ρ:Nm) (a:Act) (w:World):Prop where
 size:listed.size=all.length
 closed:Qdl all fun i=>listed.getD i false=true
 defers:a.defers= []
 tmps:a.tmps.size=N
 vals:∀ t,VT ρ (Qa3 (uT all ds) (lst all.length listed) tm0 t) (a.tmps.getD t undef)
 conc:Conc F ρ (Qa3 (uH ds) (lst all.length listed) hp0) w
 fresh:∀ j,j<all.length->listed.getD j false=false->∀ n,base+Qaq*j<=n->n<base+Qaq*j+Qaq->ρ n=none
 names:M ρ
theorem Qrj (hb:Qed all ds=true) {i j:Nat} (zM:i<j) (hj:j<all.length):((QbN all []).getD j 0).testBit i=true\/Qdp all ds i j=true:=by simp_all [Qed,Bool.and_eq_true,List.all_eq_true,QbN,Qdp]
theorem Qi9 {L:Nat->Prop} (hL:Qdl all L) {i j:Nat} (h:((QbN all []).getD j 0).testBit i=true) (hj:L j):L i :=
 Qug all L hL all [] ⟨[],by simp,rfl⟩ (fun k _ i hi=>by simp at hi) j hj i h
theorem Qs0 {listed:Array Bool} (hb:Qed all ds=true) (hc:Qdl all fun i=>listed.getD i false=true) {i j:Nat} (hi:i<all.length) (hj:j<all.length) (fQ:i≠j) (yM:listed.getD i false=(decide (j<i))) (uO:listed.getD j false=false)
  (GE:∀ o,all[j]?=some o->∀ e∈o.after,Region.binds .any e=true->listed.getD e.on false=true) :
  Qdp all ds i j=true\/Qdp all ds j i=true:=by
 rcases Nat.lt_or_ge i j with h|h
 .
  rcases Qrj hb h hj with h1|h1
  .exfalso
   have hL:Qdl all fun k=>listed.getD k false=true\/k=j:=fun k o hk uE e he YK=>by grind [Qed,Qdl,Qdp]
   rcases Qi9 hL h1 (.inr rfl) with h2|h2
   .grind
   .omega
  .grind
 .
  have gU:j<i:=by omega
  rcases Qrj hb gU hi with h1|h1
  .grind [Qi9,Qed,Qdl,Qdp]
  .grind
theorem Qwm {i:Nat} {t:Nat} (h:(uT all ds i t).isSome=true):∃ o,all[i]?=some o/\o.dst=some t:=by grind [uT]
theorem Qsi {i:Nat} {n:Nat} (h:(uH ds i n).isSome=true):∃ d,ds[i]?=some d/\n∈d.wr:=by grind [uH,QJw]
theorem QDl (vO:Qd9 P all base ds tm0 hp0) {i:Nat} {d:Did} (hd:ds[i]?=some d) {n:Nat} (hn:n∈d.wr):n∈d.rd\/(base+Qaq*i<=n/\n<base+Qaq*i+Qaq):=by
 obtain ⟨o,ho⟩:∃ o,all[i]?=some o:=⟨_,List.getElem?_eq_getElem (by rw [vO.1];exact (List.getElem?_eq_some_iff.1 hd).1)⟩;have h:=vO.2 i o d ho hd
 cases d with
 | skip=>cases hn
 | did fp e =>
  obtain ⟨_,_,_,_,h2⟩:=h;unfold Did.wr at hn;rcases List.mem_append.1 hn with hn|hn
  .obtain ⟨p,hp,rfl⟩:=List.mem_map.1 hn
   obtain ⟨q,hq,e⟩:=h2 p hp;exact .inl (List.mem_map.2 ⟨q,hq,e⟩)
  .grind
theorem QnK {listed:Array Bool} (vO:Qd9 P all base ds tm0 hp0) (hb:Qed all ds=true) (hc:Qdl all fun i=>listed.getD i false=true) {j:Nat} {o:Oper} {d:Did} (ho:all[j]?=some o) (hd:ds[j]?=some d) (uO:listed.getD j false=false)
  (GE:∀ e∈o.after,Region.binds .any e=true->listed.getD e.on false=true) :
  (∀ t,t∈o.looksAt all.toArray->Qa3 (uT all ds) (lst all.length listed) tm0 t=Qa3 (uT all ds) (List.range j) tm0 t) /\
  (∀ n,n∈d.rd->Qa3 (uH ds) (lst all.length listed) hp0 n=Qa3 (uH ds) (List.range j) hp0 n) /\
  (∀ i,i<all.length->j<i->listed.getD i false=true->(∀ t,(uT all ds j t).isSome=true->(uT all ds i t).isSome=false)/\(∀ n,(uH ds j n).isSome=true->(uH ds i n).isSome=false)):=by
 have gF:=vO.1;have hj:j<all.length:=(List.getElem?_eq_some_iff.1 ho).1;have hr:∀ o',all[j]?=some o'->∀ e∈o'.after,Region.binds .any e=true->listed.getD e.on false=true:=fun o' jR=>by rw [ho] at jR;injection jR with jR;subst jR;exact GE
 have ap:∀ i o' d',i<all.length->i≠j->listed.getD i false=decide (j<i)->all[i]?=some o'->ds[i]?=some d' ->
   (∀ x,o'.dst=some x->x ∉ o.looksAt all.toArray)/\(∀ x,o'.dst=some x->o.dst≠some x)/\Qor d'.wr d.rd=true/\Qor d.wr d'.rd=true:=by
  intro i o' d' hi fQ yM jR HD;rcases Qs0 hb hc hi hj fQ yM uO hr with h|h
  .unfold Qdp at h
   rw [jR,ho,HD,hd] at h;simp only [Bool.and_eq_true] at h;obtain ⟨h1,h2,_⟩:=Oper.apart_spec h.1.1;exact ⟨h1,h2,h.1.2,h.2⟩
  .unfold Qdp at h
   rw [ho,jR,hd,HD] at h;simp only [Bool.and_eq_true] at h;obtain ⟨_,h2,h3⟩:=Oper.apart_spec h.1.1;exact ⟨h3,fun x hx hx'=>h2 x hx' hx,h.2,h.1.2⟩
 refine ⟨fun t ht=>?_,fun n hn=>?_,fun i hi YP yM=>⟨fun t ht=>?_,fun n hn=>?_⟩⟩
 .rw [<- QdB all.length j (by omega)]
  refine QdO _ t all.length _ _ tm0 fun i hi hu=>?_
  obtain ⟨o',jR,_⟩:=Qwm hu
  by_cases zM:i=j
  .grind
  .grind
 .rw [<- QdB all.length j (by omega)]
  refine QdO _ n all.length _ _ hp0 fun i hi hu=>?_
  obtain ⟨d',HD,_⟩:=Qsi hu
  by_cases zM:i=j
  .grind
  .grind [List.getElem?_eq_getElem,Nat.lt_or_ge,Qk3,ap,Qd9,Qed,Qdl,Qa3,uT,lst,List.range,uH]
 .grind [List.getElem?_eq_getElem,ap,uT,Qwm,Qd9,Qed,Qdl,Qa3,lst,List.range,uH]
 .obtain ⟨o',jR⟩:∃ o',all[i]?=some o':=⟨_,List.getElem?_eq_getElem hi⟩
  obtain ⟨d',HD⟩:∃ d',ds[i]?=some d':=⟨_,List.getElem?_eq_getElem (by omega)⟩;obtain ⟨_,_,h3,h4⟩:=ap i o' d' hi (by omega) (by rw [yM];simp;omega) jR HD
  cases e:(uH ds i n).isSome with
  | false=>rfl
  | true =>
   obtain ⟨_,WD,wN⟩:=Qsi e;obtain ⟨_,JT,qZ⟩:=Qsi hn;rw [HD] at WD;injection WD with WD;subst WD
   rw [hd] at JT;injection JT with JT;subst JT
   exfalso;rcases QDl vO hd qZ with h5|h5
   .exact Qk3 h3 wN h5
   .rcases QDl vO HD wN with h6|h6
    .exact Qk3 h4 qZ h6
    .have:Qaq*j+Qaq<=Qaq*i:=by rw [<- Nat.mul_succ];exact Nat.mul_le_mul_left _ YP
     omega
theorem QqP {listed:Array Bool} {n j:Nat} (hs:listed.size=n) (hj:j<n):lst n (listed.setIfInBounds j true)=(List.range n).filter fun i=>listed.getD i false||decide (i=j):=by
 unfold lst;apply List.filter_congr;intro i hi;have hi:i<n:=by simpa using hi
 by_cases h:i=j
 .subst h;simp [hs,hi]
 .have:(listed.setIfInBounds j true).getD i false=listed.getD i false:=getD_set_ne false (fun e=>h e.symm)
  rw [this];simp [h]
theorem QsZ (hM:∀ j,j<all.length->∀ ρ ρ',M ρ->Ext ρ ρ'->(∀ n,¬ (base+Qaq*j<=n/\n<base+Qaq*j+Qaq)->ρ' n=ρ n)->M ρ') (vO:Qd9 P all base ds tm0 hp0) (hb:Qed all ds=true) (HT:∀ (i:Nat) o d,all[i]?=some o->o.dst=some d->d<N) {listed:Array Bool} {ρ:Nm} {a:Act} {w:World} (h:Inv M F all ds base N tm0 hp0 listed ρ a w) {j:Nat}
  (hj:j∈Region.ready .any all.toArray listed) (K:Act->World->Prop) (hK:∀ ρ' a' w',Inv M F all ds base N tm0 hp0 (listed.setIfInBounds j true) ρ' a' w'->K a' w'):wpOp P all.toArray Q j K a w:=by
 obtain ⟨hl,o,ho,GE⟩:=mem_ready.1 hj;have jR:all[j]?=some o:=by simpa using ho
 have yL:j<all.length:=(List.getElem?_eq_some_iff.1 jR).1
 have uO:listed.getD j false=false:=by
  have hs:j<listed.size:=by rw [h.size];exact yL
  simp [hs] at hl |-;exact hl
 obtain ⟨d,hd⟩:∃ d,ds[j]?=some d:=⟨_,List.getElem?_eq_getElem (by rw [<- vO.1];exact yL)⟩;obtain ⟨s1,s2,s3⟩:=QnK (tm0:=tm0) (hp0:=hp0) vO hb h.closed jR hd uO GE;have hok:=vO.2 j o d jR hd
 have next:∀ (ρ':Nm) (v:Value) (w':World),Ext ρ ρ'->(∀ n,¬ (base+Qaq*j<=n/\n<base+Qaq*j+Qaq)->ρ' n=ρ n)->VT ρ' d.v v->Conc F ρ' (ap d.u (Qa3 (uH ds) (lst all.length listed) hp0)) w'->K (a.put o.dst v) w':=by
  intro ρ' v w' hx jB hv zJ;refine hK ρ' _ w' ⟨by simp [h.size],fun i o' hi yM e he YK=>?_,?_,?_,fun t=>?_,?_,fun i hi yM n h1 h2=>?_,hM j yL ρ ρ' h.names hx jB⟩
  .by_cases zM:i=j
   .subst zM
    rw [jR] at hi;injection hi with hi;subst hi
    exact getD_set_true (GE e he YK)
   .have hli':(listed.setIfInBounds j true).getD i false=true:=yM
    rw [getD_set_ne false (fun e=>zM e.symm)] at hli';exact getD_set_true (h.closed i o' hi hli' e he YK)
  .cases o.dst<;>exact h.defers
  .cases WE:o.dst<;>simp [Act.put,h.tmps]
  .rw [QqP h.size yL,QfA _ t all.length j _ tm0 yL uO (fun i hi YP yM hu=>(s3 i hi YP yM).1 t hu)]
   have hu:uT all ds j t=if o.dst=some t then some d.v else none:=by
    unfold uT;rw [jR,hd];simp only []
    cases WE:o.dst with
    | none=>simp
    | some t'=>simp only [Option.some.injEq];by_cases e:t=t'<;>simp [e];intro e';exact absurd e'.symm e
   unfold ap;rw [hu]
   by_cases vV:o.dst=some t
   .rw [if_pos vV]
    have gU:t<a.tmps.size:=by rw [h.tmps];exact HT j o t jR vV
    simp only [Act.put,vV];have:(a.tmps.setIfInBounds t v).getD t undef=v:=by simp [gU]
    rw [this];exact hv
   .rw [if_neg vV]
    have:(a.put o.dst v).tmps.getD t undef=a.tmps.getD t undef:=by
     cases WE:o.dst with
     | none=>rfl
     | some t' =>
      have fQ:t'≠t:=by rintro rfl;exact vV WE
      simp [Act.put,Array.getElem?_setIfInBounds_ne fQ]
    rw [this];exact (h.vals t).ext hx
  .have:Qa3 (uH ds) (lst all.length (listed.setIfInBounds j true)) hp0=ap d.u (Qa3 (uH ds) (lst all.length listed) hp0):=by
    funext n
    rw [QqP h.size yL,QfA _ n all.length j _ hp0 yL uO (fun i hi YP yM hu=>(s3 i hi YP yM).2 n hu)];have:uH ds j=d.u:=by funext n;unfold uH;rw [hd]
    unfold lst;rw [this]
   rw [this];exact zJ
  .have zM:i≠j:=by
    rintro rfl;have hs:i<listed.size:=by rw [h.size];exact yL
    simp [hs] at yM
   rw [getD_set_ne false (fun e=>zM e.symm)] at yM
   have wU:¬ (base+Qaq*j<=n/\n<base+Qaq*j+Qaq):=by
    rintro ⟨h3,h4⟩;rcases Nat.lt_or_ge i j with gU|HG
    .have:Qaq*i+Qaq<=Qaq*j:=by rw [<- Nat.mul_succ];exact Nat.mul_le_mul_left _ gU
     omega
    .have:Qaq*j+Qaq<=Qaq*i:=by rw [<- Nat.mul_succ];exact Nat.mul_le_mul_left _ (by omega)
     omega
   rw [jB n wU];exact h.fresh i hi yM n h1 h2
 have grd:∀ g t b,o.guard=some g->Qee all g.1=some t->Qa3 (uT all ds) (List.range j) tm0 t= .a (.s (.bool b))->Region.wanted o (yielded all.toArray a.tmps)=decide (b=g.2):=by
  intro g t b hg vV hv
  have yS:t∈o.looksAt all.toArray:=by
   unfold Oper.looksAt;refine List.mem_append_right _ ?_;rw [hg];unfold Qee at vV
   cases e:all[g.1]? with
   | none=>rw [e] at vV;cases vV
   | some og=>rw [e] at vV;simp [e,vV]
  have hval:=h.vals t;rw [s1 t yS,hv] at hval;have hval:a.tmps.getD t undef= .bool b:=hval
  have JW:a.tmps[t]?=some (.bool b):=by
   cases e:a.tmps[t]? with
   | none=>simp [e,undef] at hval
   | some v=>simp [e] at hval;rw [hval]
  have hy:yielded all.toArray a.tmps g.1=some b:=by
   unfold yielded
   have:(all.toArray[g.1]?).bind (·.dst)=some t:=by
    unfold Qee at vV
    cases e:all[g.1]? with
    | none=>rw [e] at vV;cases vV
    | some og=>rw [e] at vV;simp [e,vV]
   rw [this];simp [JW]
  unfold Region.wanted;rw [hg];simp only [hy];cases b<;>cases g.2<;>rfl
 unfold wpOp;simp only [ho]
 cases d with
 | skip =>
  have hnw:Region.wanted o (yielded all.toArray a.tmps)=false:=by
   obtain ⟨g,t,hg,vV,⟨b,hv,fQ⟩|⟨_,hv⟩⟩:=hok
   .rw [grd g t b hg vV hv,decide_eq_false fQ]
   .have yS:t∈o.looksAt all.toArray:=by
     unfold Oper.looksAt;refine List.mem_append_right _ ?_;rw [hg];have HU:=vV;unfold Qee at HU
     cases e:all[g.1]? with
     | none=>rw [e] at HU;cases HU
     | some og=>rw [e] at HU;simp [e,HU]
    have hval:=h.vals t;rw [s1 t yS,hv] at hval;exact Qm3 hg vV hval
  rw [hnw];simp only [Bool.false_eq_true,if_false];refine next ρ undef w (Ext.refl _) (fun _ _=>rfl) (QiQ ρ) ?_
  have:ap Did.skip.u (Qa3 (uH ds) (lst all.length listed) hp0)=Qa3 (uH ds) (lst all.length listed) hp0:=by funext n;rfl
  rw [this];exact h.conc
 | did fp e =>
  obtain ⟨hg,hsem,hfp,_⟩:=hok
  have hw:Region.wanted o (yielded all.toArray a.tmps)=true:=by
   cases e1:o.guard with
   | none=>unfold Region.wanted;rw [e1]
   | some g =>
    obtain ⟨t,vV,hv⟩:=hg g e1;rw [grd g t g.2 e1 vV hv];simp
  rw [hw];simp only [if_true];left;refine hsem F ρ (Qa3 (uH ds) (lst all.length listed) hp0) a w Q K (fun x hx=>Qxn x fun t ht=>?_) h.conc (fun p hp=>?_) (fun n h1 h2=>h.fresh j yL uO n h1 h2) (fun e' ρ' v w' he hx jB hv zJ=>?_)
  .have yS:t∈o.looksAt all.toArray:=by
    unfold Oper.looksAt;refine List.mem_append_left _ (List.mem_filterMap.2 ⟨.tmp t,by subst ht;simpa using hx,rfl⟩)
   rw [<- s1 t yS];exact h.vals t
  .rw [s2 p.1 (List.mem_map.2 ⟨p,hp,rfl⟩)];exact hfp p hp
  .subst he
   exact next ρ' v w' hx jB hv (by rw [Qvp];exact zJ)
theorem QA3 (hM:∀ j,j<all.length->∀ ρ ρ',M ρ->Ext ρ ρ'->(∀ n,¬ (base+Qaq*j<=n/\n<base+Qaq*j+Qaq)->ρ' n=ρ n)->M ρ') (vO:Qd9 P all base ds tm0 hp0) (hb:Qed all ds=true) (HT:∀ (i:Nat) o d,all[i]?=some o->o.dst=some d->d<N)
  (hQ:∀ ρ a w,a.defers= []->a.tmps.size=N->(∀ t,VT ρ (Qa3 (uT all ds) (List.range all.length) tm0 t) (a.tmps.getD t undef))->Conc F ρ (Qa3 (uH ds) (List.range all.length) hp0) w->M ρ->Q .normal a w) :
  ∀ (fuel:Nat) (listed:Array Bool) (ρ:Nm) (a:Act) (w:World),Inv M F all ds base N tm0 hp0 listed ρ a w->((List.range all.length).filter fun i=> !listed.getD i false).length<=fuel->wpAny P .any all.toArray Q fuel listed a w:=by
 have full:∀ (listed:Array Bool) (ρ:Nm) (a:Act) (w:World),Inv M F all ds base N tm0 hp0 listed ρ a w->Region.ready .any all.toArray listed= []->Q .normal a w:=by
  intro listed ρ a w h hr
  have FI:∀ n,∀ i,i<n->i<all.length->listed.getD i false=true:=by
   intro n
   induction n with
   | zero=>intro i hi;omega
   | succ n ih =>
    intro i hi KY
    cases hl:listed.getD i false with
    | true=>rfl
    | false =>
     exfalso;obtain ⟨o,ho⟩:∃ o,all[i]?=some o:=⟨_,List.getElem?_eq_getElem KY⟩;have hE:=(Bool.and_eq_true _ _ ▸ hb:QhC all 0=true/\_).1
     have:i∈Region.ready .any all.toArray listed:=by
      refine mem_ready.2 ⟨?_,o,by simpa using ho,fun e he YK=>?_⟩
      .have hs:i<listed.size:=by rw [h.size];exact KY
       simp [hs] at hl |-;exact hl
      .have:=Qtn all 0 hE i o ho e he YK
       exact ih e.on (by omega) (by omega)
     rw [hr] at this;cases this
  have hlst:lst all.length listed=List.range all.length:=by
   unfold lst;exact List.filter_eq_self.2 fun i hi=>FI (i+1) i (by omega) (by simpa using hi)
  refine hQ ρ a w h.defers h.tmps (fun t=>?_) ?_ h.names
  .rw [<- hlst];exact h.vals t
  .rw [<- hlst];exact h.conc
 intro fuel
 induction fuel with
 | zero =>
  intro listed ρ a w h hf
  have wJ:Region.ready .any all.toArray listed= []:=by
   apply List.eq_nil_iff_forall_not_mem.2;intro j hj;obtain ⟨hl,o,ho,_⟩:=mem_ready.1 hj;have jR:all[j]?=some o:=by simpa using ho
   have yL:j<all.length:=(List.getElem?_eq_some_iff.1 jR).1;have hs:j<listed.size:=by rw [h.size];exact yL
   have:j∈(List.range all.length).filter fun i=> !listed.getD i false:=by
    refine List.mem_filter.2 ⟨by simpa using yL,?_⟩;simp [hs] at hl |-;exact hl
   rw [List.eq_nil_of_length_eq_zero (Nat.le_zero.1 hf)] at this;cases this
  exact ⟨wJ,full listed ρ a w h wJ⟩
 | succ fuel ih =>
  intro listed ρ a w h hf;refine ⟨fun hr=>full listed ρ a w h hr,fun j hj=>?_⟩;refine QsZ hM vO hb HT h hj _ fun ρ' a' w' h'=>ih _ ρ' a' w' h' ?_
  obtain ⟨hl,o,ho,_⟩:=mem_ready.1 hj;have jR:all[j]?=some o:=by simpa using ho
  have yL:j<all.length:=(List.getElem?_eq_some_iff.1 jR).1;have hs:j<listed.size:=by rw [h.size];exact yL
  have uO:listed.getD j false=false:=by simp [hs] at hl |-;exact hl
  have gU:((List.range all.length).filter fun i=> !(listed.setIfInBounds j true).getD i false).length<((List.range all.length).filter fun i=> !listed.getD i false).length:=by
   have e:(List.range all.length).filter (fun i=> !(listed.setIfInBounds j true).getD i false)=((List.range all.length).filter fun i=> !listed.getD i false).filter fun i=>decide (i≠j):=by
    rw [List.filter_filter];apply List.filter_congr;intro i hi
    by_cases zM:i=j
    .subst zM;simp [hs]
    .rw [getD_set_ne false (fun e=>zM e.symm)];simp [zM]
   rw [e];exact List.length_filter_lt_length_iff_exists.2 ⟨j,List.mem_filter.2 ⟨by simpa using yL,by rw [uO];rfl⟩,by simp⟩
  omega
end
abbrev Tm:=List (Nat × TV)
def tmG (tm:Tm):Nat->TV:=fun t=>match QaX tm t with
 | some v=>v
 | none=> .unk
abbrev Hl:=List (Nat × Option Row)
def hpG (h:Hl):Hp:=fun n=>match QaX h n with
 | some r=>r
 | none=>none
def QCz (tm:Tm) (d:Option Nat) (v:TV):Tm:=match d with
 | some d=>(d,v)::tm
 | none=>tm
def nwL:List (Nat × Row)->Hl->Hl
 | [],h=>h
 | p::l,h=>(p.1,some p.2)::nwL l h
def upL:List (Nat × Option Row)->Hl->Hl
 | [],h=>h
 | p::l,h=>p::upL l h
def QEJ (e:Ef) (h:Hl):Hl:=nwL e.nw (upL e.up h)
theorem Qa0 {α:Type} (m:Nat) (x:α) (l:List (Nat × α)) (n:Nat):QaX ((m,x)::l) n=if n=m then some x else QaX l n:=by
 show (match Nat.beq n m with|true=>some x|false=>QaX l n)=_
 cases hb:Nat.beq n m with
 | true=>rw [if_pos (Nat.eq_of_beq_eq_true hb)]
 | false=>rw [if_neg (Nat.ne_of_beq_eq_false hb)]
theorem Qbv (n:Nat) (r:Option Row) (h:Hl):hpG ((n,r)::h)=Hp.set (hpG h) n r:=by
 funext m
 unfold hpG Hp.set;rw [Qa0]
 by_cases hb:m=n<;>simp [hb]
theorem QqA (u:List (Nat × Option Row)) (h:Hl) (n:Nat):hpG (upL u h) n=match QaX u n with|some r=>r|none=>hpG h n:=by
 induction u with
 | nil=>rfl
 | cons p u ih =>
  obtain ⟨m,r⟩:=p;show hpG ((m,r)::upL u h) n=_;rw [Qbv,Qa0];unfold Hp.set
  by_cases hb:n=m
  .rw [if_pos hb,if_pos hb]
  .rw [if_neg hb,if_neg hb,ih]
theorem Qqz (e:Ef) (h:Hl):hpG (QEJ e h)=e.app (hpG h):=by
 funext n
 unfold QEJ Ef.app;generalize e.nw=nw
 induction nw with
 | nil=>exact QqA _ _ _
 | cons p nw ih =>
  obtain ⟨m,r⟩:=p;show hpG ((m,some r)::nwL nw (upL e.up h)) n=_;rw [Qbv,Qa0];unfold Hp.set
  by_cases hb:n=m
  .rw [if_pos hb,if_pos hb]
  .rw [if_neg hb,if_neg hb,ih]
theorem Qcf (t:Nat) (v:TV) (tm:Tm) (k:Nat):tmG ((t,v)::tm) k=if k=t then v else tmG tm k:=by
 unfold tmG;rw [Qa0]
 by_cases hb:k=t<;>simp [hb]
theorem QdY (t:Nat) (v:TV) (tm:Tm) (h:tmG tm t=v):tmG ((t,v)::tm)=tmG tm:=by
 funext k
 rw [Qcf];split
 .rename_i e;subst e;exact h.symm
 .rfl
def upK:List (Nat × Option Row)->Hl->(Hl->Prop)->Prop
 | [],h,K=>K h
 | p::l,h,K=>upK l h fun h=>K (p::h)
def nwK:List (Nat × Row)->Hl->(Hl->Prop)->Prop
 | [],h,K=>K h
 | p::l,h,K=>nwK l h fun h=>K ((p.1,some p.2)::h)
theorem Qsn:∀ (l:List (Nat × Option Row)) (h:Hl) (K:Hl->Prop),upK l h K↔K (upL l h)
 | [],_,_=>Iff.rfl
 | _::l,h,_=>Qsn l h _
theorem Qq9:∀ (l:List (Nat × Row)) (h:Hl) (K:Hl->Prop),nwK l h K↔K (nwL l h)
 | [],_,_=>Iff.rfl
 | _::l,h,_=>Qq9 l h _
def Quj (tm:Tm) (d:Option Nat) (v:TV) (K:Tm->Prop):Prop:=fT v fun v=>match d with
 | some d=>K ((d,v)::tm)
 | none=>K tm
theorem Qcd (tm:Tm) (d:Option Nat) (v:TV) (K:Tm->Prop):Quj tm d v K↔K (QCz tm d v):=by
 unfold Quj;rw [QBG];cases d<;>exact Iff.rfl
def QwH (e:Ef) (h:Hl) (K:Hl->Prop):Prop:=upK e.up h fun h=>nwK e.nw h K
theorem Qh3 (e:Ef) (h:Hl) (K:Hl->Prop):QwH e h K↔K (QEJ e h):=by unfold QwH;rw [Qsn,Qq9];exact Iff.rfl
def fN (n:Nat) (K:Nat->Prop):Prop:=match n with
 | 0=>K 0
 | m+1=>K (m+1)
theorem Qcq (n:Nat) (K:Nat->Prop):fN n K↔K n:=by cases n<;>exact Iff.rfl
def QkA (det:Bool) (d:Did) (l:List Did) (K:List Did->Prop):Prop:=match det with
 | true=>K (d::l)
 | false=>K l
def Qsz (P:Program) (T:Tys) (det:Bool) (all:List Oper) (base:Nat) (o:Oper) (ih:Nat->Tm->Hl->List Did->(Tm->Hl->List Did->Prop)->Prop) (i:Nat) (tm:Tm) (h:Hl) (rec:List Did) (K:Tm->Hl->List Did->Prop):Prop :=
 match o.guard with
  | none=>vop P T det o (evF (tmG tm)) (hpG h) (base+Qaq*i) fun fp e=>Quj tm o.dst e.v fun tm=>QwH e h fun h=>QkA det (.did fp e) rec fun rec=>fN (i+1) fun i=>ih i tm h rec K
  | some (j,want)=>match Qee all j with
   | some t=>(match tmG tm t with
    | .a (.s (.bool b)) =>
     fB (!want) fun nw=>Gd b want nw (vop P T det o (evF (tmG ((t,.a (.s (.bool want)))::tm))) (hpG h) (base+Qaq*i) fun fp e=>Quj ((t,.a (.s (.bool want)))::tm) o.dst e.v fun tm=>QwH e h fun h=>QkA det (.did fp e) rec fun rec=>fN (i+1) fun i =>
      ih i tm h rec K)
     (Quj ((t,.a (.s (.bool nw)))::tm) o.dst (.tup []) fun tm=>QkA det .skip rec fun rec=>fN (i+1) fun i=>ih i tm h rec K)
    | .tup _=>Quj tm o.dst (.tup []) fun tm=>QkA det .skip rec fun rec=>fN (i+1) fun i=>ih i tm h rec K
    | _=>False)
   | none=>False
noncomputable def Qsy (P:Program) (T:Tys) (det:Bool) (all:List Oper) (base:Nat) (i:Nat) (l:List Oper):Tm->Hl->List Did->(Tm->Hl->List Did->Prop)->Prop :=
 List.rec (motive:=fun _=>Nat->Tm->Hl->List Did->(Tm->Hl->List Did->Prop)->Prop) (fun _ tm h rec K=>K tm h rec) (fun o _ ih=>Qsz P T det all base o ih) l i
theorem Qhc {P:Program} {T:Tys} {det:Bool} {all:List Oper} {base i:Nat} {o:Oper} {rest:List Oper} {tm:Tm} {h:Hl} {rec:List Did} {K:Tm->Hl->List Did->Prop} :
  Qsy P T det all base i (o::rest) tm h rec K=Qsz P T det all base o (fun i=>Qsy P T det all base i rest) i tm h rec K:=rfl
def u1 (o:Oper) (d:Did):Nat->Option TV:=fun t=>match o.dst with
 | some t'=>if t=t' then some d.v else none
 | none=>none
theorem Qlo (tm:Tm) (o:Oper) (d:Did):tmG (QCz tm o.dst d.v)=ap (u1 o d) (tmG tm):=by
 funext t
 unfold QCz ap u1
 cases o.dst with
 | none=>rfl
 | some t' =>
  simp only [];rw [Qcf]
  by_cases h:t=t'<;>simp [h]
def QiY (P:Program) (all:List Oper) (base:Nat):Nat->List Oper->List Did->(Nat->TV)->Hp->(Nat->TV)->Hp->Prop
 | _,[],[],tm,hp,tm',qC=>tm'=tm/\qC=hp
 | i,o::rest,d::ds,tm,hp,tm',qC=>QwA P all base i o d tm hp/\QiY P all base (i+1) rest ds (ap (u1 o d) tm) (ap d.u hp) tm' qC
 | _,_,_,_,_,_,_=>False
theorem Qof {P:Program} {T:Tys} (hT:QaU P T) {all:List Oper} {base:Nat} {K:Tm->Hl->List Did->Prop}:∀ (rest:List Oper) (i:Nat) (tm:Tm) (h:Hl) (rec:List Did),Qsy P T true all base i rest tm h rec K ->
  ∃ ds tm' h',QiY P all base i rest ds (tmG tm) (hpG h) (tmG tm') (hpG h')/\K tm' h' (ds.reverse++rec):=by
 intro rest
 induction rest with
 | nil=>intro i tm h rec hv;exact ⟨[],tm,h,⟨rfl,rfl⟩,hv⟩
 | cons o rest ih =>
  intro i tm h rec hv
  have step:∀ tm1:Tm,tmG tm1=tmG tm->(∀ g,o.guard=some g->∃ t,Qee all g.1=some t/\tmG tm t= .a (.s (.bool g.2))) ->
    vop P T true o (evF (tmG tm1)) (hpG h) (base+Qaq*i) (fun fp e=>Quj tm1 o.dst e.v fun tm=>QwH e h fun h=>QkA true (.did fp e) rec fun rec=>fN (i+1) fun i=>Qsy P T true all base i rest tm h rec K) ->
    ∃ ds tm' h',QiY P all base i (o::rest) ds (tmG tm) (hpG h) (tmG tm') (hpG h')/\K tm' h' (ds.reverse++rec):=by
   intro tm1 GJ hg uR;obtain ⟨fp,_,h1,h2,h3,h4⟩:=Qkq hT uR;obtain ⟨e,rfl⟩:=h4 rfl;obtain ⟨h5,h6⟩:=h3 e rfl;simp only [Qcd,Qh3,QkA,Qcq] at h6;obtain ⟨ds,tm',h',h7,h8⟩:=ih _ _ _ _ h6;refine ⟨.did fp e::ds,tm',h',⟨⟨hg,by rw [<- GJ];exact h1,h2,h5⟩,?_⟩,by simpa using h8⟩;rw [<- GJ,Qvp,<- Qqz];have:=Qlo tm1 o (.did fp e);rw [<- this];exact h7
  rw [Qhc] at hv;unfold Qsz at hv
  cases hg:o.guard with
  | none=>rw [hg] at hv;exact step tm rfl (fun g e=>by rw [hg] at e;cases e) hv
  | some g =>
   rw [hg] at hv;obtain ⟨g1,g2⟩:=g;simp only [] at hv
   cases hd:Qee all g1 with
   | none=>rw [hd] at hv;exact hv.elim
   | some t =>
    rw [hd] at hv;simp only [] at hv;split at hv
    .rename_i b hb
     rw [Qqc] at hv;obtain ⟨YW,HJ⟩:=hv
     by_cases e:b=g2
     .subst e
      exact step _ (QdY _ _ _ hb) (fun g' e=>by rw [hg] at e;injection e with e;subst e;exact ⟨t,hd,hb⟩) (YW rfl)
     .have e2:b= !g2:=by cases b<;>cases g2<;>simp_all
      replace HJ:=HJ e2;simp only [Qcd,QkA,Qcq] at HJ;obtain ⟨ds,tm',h',h7,h8⟩:=ih _ _ _ _ HJ;refine ⟨.skip::ds,tm',h',⟨⟨(g1,g2),t,hg,hd,.inl ⟨b,hb,e⟩⟩,?_⟩,by simpa using h8⟩;have h9:=Qlo ((t,.a (.s (.bool !g2)))::tm) o .skip;rw [QdY _ _ _ (by rw [hb,e2])] at h9;have jW:ap Did.skip.u (hpG h)=hpG h:=by funext n;rfl
      rw [<- h9,jW];exact h7
    .rename_i l hb
     simp only [Qcd,QkA,Qcq] at hv;obtain ⟨ds,tm',h',h7,h8⟩:=ih _ _ _ _ hv;refine ⟨.skip::ds,tm',h',⟨⟨(g1,g2),t,hg,hd,.inr ⟨l,hb⟩⟩,?_⟩,by simpa using h8⟩;have h9:=Qlo tm o .skip;have jW:ap Did.skip.u (hpG h)=hpG h:=by funext n;rfl
     rw [<- h9,jW];exact h7
    .exact hv.elim
theorem Qjb {P:Program} {all:List Oper} {base:Nat}:∀ (rest:List Oper) (i:Nat) (ds:List Did) (tm:Nat->TV) (hp:Hp) (tm':Nat->TV) (qC:Hp),QiY P all base i rest ds tm hp tm' qC->rest.length=ds.length
 | [],_,[],_,_,_,_,_=>rfl
 | o::rest,i,d::ds,tm,hp,tm',qC,h=>by have:=Qjb rest _ ds _ _ _ _ h.2;simp [this]
 | [],_,_::_,_,_,_,_,h=>h.elim
 | _::_,_,[],_,_,_,_,h=>h.elim
theorem Ql8 {P:Program} {all:List Oper} {base:Nat} {tm0:Nat->TV} {hp0:Hp} {dsA:List Did}:∀ (rest:List Oper) (i:Nat) (ds:List Did) (tm:Nat->TV) (hp:Hp) (tm':Nat->TV) (qC:Hp),QiY P all base i rest ds tm hp tm' qC ->
  (∀ k,rest[k]?=all[i+k]?)->(∀ k,ds[k]?=dsA[i+k]?)->tm=Qa3 (uT all dsA) (List.range i) tm0->hp=Qa3 (uH dsA) (List.range i) hp0 ->
  (∀ (k:Nat) o d,rest[k]?=some o->ds[k]?=some d->QwA P all base (i+k) o d (Qa3 (uT all dsA) (List.range (i+k)) tm0) (Qa3 (uH dsA) (List.range (i+k)) hp0)) /\
  tm'=Qa3 (uT all dsA) (List.range (i+rest.length)) tm0/\qC=Qa3 (uH dsA) (List.range (i+rest.length)) hp0
 | [],i,[],tm,hp,tm',qC,h,_,_,h1,h2=>⟨fun k o d e=>by simp at e,by rw [h.1,h1];simp,by rw [h.2,h2];simp⟩
 | o::rest,i,d::ds,tm,hp,tm',qC,h,e1,e2,h1,h2=>by
  have ho:all[i]?=some o:=by have:=e1 0;simpa using this.symm
  have hd:dsA[i]?=some d:=by have:=e2 0;simpa using this.symm
  have uT1:uT all dsA i=u1 o d:=by
   funext t
   unfold uT;rw [ho,hd];rfl
  have uH1:uH dsA i=d.u:=by funext n;unfold uH;rw [hd]
  obtain ⟨g1,g2,g3⟩:=Ql8 (tm0:=tm0) (hp0:=hp0) rest (i+1) ds _ _ tm' qC h.2 (fun k=>by have:=e1 (k+1);rw [List.getElem?_cons_succ] at this;rw [this];congr 1;omega) (fun k=>by have:=e2 (k+1);rw [List.getElem?_cons_succ] at this;rw [this];congr 1;omega)
   (by rw [List.range_succ,Qdx,<- h1];show _=ap (uT all dsA i) tm;rw [uT1]) (by rw [List.range_succ,Qdx,<- h2];show _=ap (uH dsA i) hp;rw [uH1])
  refine ⟨fun k o' d' jR HD=>?_,by rw [g2];congr 2;simp;omega,by rw [g3];congr 2;simp;omega⟩
  cases k with
  | zero =>
   injection jR with jR;injection HD with HD;subst jR HD
   rw [Nat.add_zero,<- h1,<- h2];exact h.1
  | succ k =>
   have:=g1 k o' d' jR HD;rw [show i+(k+1)=i+1+k by omega];exact this
 | [],_,_::_,_,_,_,_,h,_,_,_,_=>h.elim
 | _::_,_,[],_,_,_,_,h,_,_,_,_=>h.elim
structure St where
 (tm:Tm) (h:Hl) (ids:List Nat)
def Qev:Nat:=65536
structure Gm where
 (ρ0:Nm) (k:Nat)
structure Rel (G:Gm) (F:Fr) (N:Nat) (σ:St) (ρ:Nm) (a:Act) (w:World):Prop where
 defers:a.defers= []
 tmps:a.tmps.size=N
 vals:∀ t,VT ρ (tmG σ.tm t) (a.tmps.getD t undef)
 conc:Conc F ρ (hpG σ.h) w
 ids:∀ n,ρ n≠none->n / Qev∈σ.ids
 ext:Ext G.ρ0 ρ
 dom:∀ n,G.k<=n->G.ρ0 n=none
def QvE (N:Nat):List Oper->Bool
 | []=>true
 | o::l=>(match o.dst with|some d=>Nat.blt d N|none=>true)&&QvE N l
theorem Qpu {N:Nat}:∀ {l:List Oper},QvE N l=true->∀ (i:Nat) o d,l[i]?=some o->o.dst=some d->d<N:=by
 intro l
 induction l with
 | nil=>intro _ i o d h;cases h
 | cons x l ih =>
  intro h i o d hi hd;unfold QvE at h;rw [Bool.and_eq_true] at h
  cases i with
  | zero =>
   injection hi with hi;subst hi
   rw [hd] at h;simpa using h.1
  | succ i=>exact ih h.2 i o d hi hd
def Qc4 (n:Nat):List Nat->Bool
 | []=>false
 | m::l=>match Nat.beq n m with
  | true=>true
  | false=>Qc4 n l
theorem QgR {n:Nat}:∀ {l:List Nat},Qc4 n l=false->n ∉ l:=by
 intro l
 induction l with
 | nil=>intro _ h;cases h
 | cons m l ih =>
  intro h hm;unfold Qc4 at h
  cases e:Nat.beq n m with
  | true=>rw [e] at h;cases h
  | false =>
   rw [e] at h;rcases List.mem_cons.1 hm with rfl|hm
   .rw [Nat.beq_refl] at e;cases e
   .exact ih h hm
def hdN:List Nat->Nat
 | []=>0
 | n::_=>n
noncomputable def QdH (P:Program) (T:Tys) (N:Nat) (id:Nat) (ops:List Oper) (draw:Bool) (σ:St) (Q:St->Prop):Prop :=
 match σ with
 | ⟨tm,h,ids⟩=>match Qc4 (id+1) ids with
  | true=>False
  | false=>match QvE N ops&&Nat.ble ops.length 1024 with
   | false=>False
   | true=>match draw with
    | false=>Qsy P T false ops (Qev*(id+1)) 0 ops tm h [] fun tm h _=>Q ⟨tm,h,(id+1)::ids⟩
    | true=>Qsy P T true ops (Qev*(id+1)) 0 ops tm h [] fun tm h rec=>Sd (Qed ops rec.reverse=true) (Q ⟨tm,h,(id+1)::ids⟩)
theorem Qlk {id n i L:Nat} (hL:L<=1024) (hi:i<L) (h1:Qev*(id+1)+Qaq*i<=n) (h2:n<Qev*(id+1)+Qaq*i+Qaq):n / Qev=id+1:=by
 have:Qaq*i+Qaq<=Qev:=by
  have:Qaq*i+Qaq=Qaq*(i+1):=by rw [Nat.mul_succ]
  rw [this];have:Qaq*(i+1)<=Qaq*1024:=Nat.mul_le_mul_left _ (by omega);unfold Qaq Qev at *;omega
 refine Nat.div_eq_of_lt_le ?_ ?_
 .rw [Nat.mul_comm];omega
 .have:(id+1+1)*Qev=Qev*(id+1)+Qev:=by rw [Nat.add_mul,Nat.one_mul,Nat.mul_comm]
  rw [this];omega
theorem QhI {id j L:Nat} {ids:List Nat} {ρ ρ':Nm} (hL:L<=1024) (hj:j<L) (h:∀ n,ρ n≠none->n / Qev∈(id+1)::ids) (hf:∀ n,¬ (Qev*(id+1)+Qaq*j<=n/\n<Qev*(id+1)+Qaq*j+Qaq)->ρ' n=ρ n) (n:Nat) (hn:ρ' n≠none):n / Qev∈(id+1)::ids:=by
 by_cases hr:Qev*(id+1)+Qaq*j<=n/\n<Qev*(id+1)+Qaq*j+Qaq
 .rw [Qlk hL hj hr.1 hr.2];simp
 .rw [hf n hr] at hn;exact h n hn
theorem Qlu {id':Nat} {P:Program} (hm:P.follows .mixedOrders=true) {T:Tys} (hT:QaU P T) {G:Gm} {F:Fr} {N id:Nat} {ops:Array Oper} {σ:St} {ρ:Nm} {a:Act} {w:World} {Q:Exit->Act->World->Prop} {K:St->Prop} (hr:Rel G F N σ ρ a w)
  (hv:QdH P T N id ops.toList true σ K) (hQ:∀ σ' ρ' a' w',K σ'->Rel G F N σ' ρ' a' w'->Q .normal a' w'):(Code.region id' ops true).wp P Q a w:=by
 obtain ⟨tm,h,ids⟩:=σ;unfold QdH at hv;simp only [] at hv
 cases e1:Qc4 (id+1) ids with
 | true=>rw [e1] at hv;exact hv.elim
 | false =>
  rw [e1] at hv;simp only [] at hv
  cases e2:(QvE N ops.toList&&Nat.ble ops.toList.length 1024) with
  | false=>rw [e2] at hv;exact hv.elim
  | true =>
   rw [e2] at hv;simp only [] at hv;rw [Bool.and_eq_true] at e2;have hL:=Nat.le_of_ble_eq_true e2.2
   have yB:∀ n,n / Qev=id+1->ρ n=none:=fun n hn=>by
    cases e:ρ n with
    | none=>rfl
    | some p=>exact absurd (hn ▸ hr.ids n (by rw [e];simp)) (QgR e1)
   obtain ⟨ds,tm',h',h1,h2⟩:=Qof hT _ _ _ _ _ hv;have gF:=Qjb _ _ _ _ _ _ _ h1;obtain ⟨g1,g2,g3⟩:=Ql8 (tm0:=tmG tm) (hp0:=hpG h) (dsA:=ds) _ _ _ _ _ _ _ h1 (fun k=>by simp) (fun k=>by simp) rfl rfl;simp only [Nat.zero_add] at g1 g2 g3;have vO:Qd9 P ops.toList (Qev*(id+1)) ds (tmG tm) (hpG h):=⟨gF,fun i o d ho hd=>g1 i o d ho hd⟩;simp only [List.append_nil,List.reverse_reverse] at h2;obtain ⟨h2,h2'⟩:=h2;refine wp_region_any hm ?_;have jG:ops.toList.toArray=ops:=by simp
   have wJ:lst ops.toList.length (Array.replicate ops.size false)= []:=by
    unfold lst;apply List.filter_eq_nil_iff.2;intro i hi;have:i<ops.size:=by simpa using hi
    simp [this]
   have key:=QA3 (M:=fun ρ=>(∀ n,ρ n≠none->n / Qev∈(id+1)::ids)/\Ext G.ρ0 ρ) (P:=P) (F:=F) (Q:=Q) (N:=N) (fun j hj ρ ρ' h hx hf=>⟨fun n hn=>QhI hL hj h.1 hf n hn,h.2.trans hx⟩) vO h2 (Qpu e2.1)
    (fun ρ' a' w' k1 k2 k3 k4 k5=>hQ ⟨tm',h',(id+1)::ids⟩ ρ' a' w' h2' ⟨k1,k2,fun t=>by rw [g2];exact k3 t,by rw [g3];exact k4,k5.1,k5.2,hr.dom⟩)
    ops.size (Array.replicate ops.size false) ρ a { w with drawn:=w.drawn+1 } ⟨by simp,fun i o _ hl=>?_,hr.defers,hr.tmps,fun t=>?_,?_,fun j hj _ n h3 h4=>yB n (Qlk hL hj h3 h4),⟨fun n hn=>List.mem_cons_of_mem _ (hr.ids n hn),hr.ext⟩⟩ (Nat.le_trans (List.length_filter_le _ _) (by simp))
   .rw [jG] at key;exact key
   .exfalso
    have hl':(Array.replicate ops.size false).getD i false=true:=hl
    by_cases hi:i<ops.size<;>simp [hi] at hl'
   .rw [wJ];exact hr.vals t
   .rw [wJ];exact hr.conc.same rfl rfl rfl rfl
structure RelM (M:Nm->Prop) (F:Fr) (N:Nat) (tm:Tm) (h:Hl) (ρ:Nm) (a:Act) (w:World):Prop where
 defers:a.defers= []
 tmps:a.tmps.size=N
 vals:∀ t,VT ρ (tmG tm t) (a.tmps.getD t undef)
 conc:Conc F ρ (hpG h) w
 names:M ρ
theorem Qu6 {M:Nm->Prop} {P:Program} {T:Tys} (hT:QaU P T) {F:Fr} {N base:Nat} {all:List Oper} {K:Tm->Hl->List Did->Prop} {Q:Exit->Act->World->Prop} (HT:QvE N all=true) (hM:∀ j,j<all.length->∀ ρ ρ',M ρ->Ext ρ ρ'->(∀ n,¬ (base+Qaq*j<=n/\n<base+Qaq*j+Qaq)->ρ' n=ρ n)->M ρ')
  (hK:∀ tm' h' rec' ρ' a' w',K tm' h' rec'->RelM M F N tm' h' ρ' a' w'->Q .normal a' w') :
  ∀ (rest:List Oper) (i:Nat) (tm:Tm) (h:Hl) (rec:List Did) (ρ:Nm) (a:Act) (w:World),Qsy P T false all base i rest tm h rec K->(∀ k,rest[k]?=all[i+k]?)->RelM M F N tm h ρ a w ->
   (∀ j,i<=j->j<all.length->∀ n,base+Qaq*j<=n->n<base+Qaq*j+Qaq->ρ n=none)->wpOps P all.toArray Q (List.range' i rest.length) a w:=by
 intro rest
 induction rest with
 | nil=>intro i tm h rec ρ a w hv _ hr _;exact hK _ _ _ _ _ _ hv hr
 | cons o rest ih =>
  intro i tm h rec ρ a w hv jE hr jB;have ho:all[i]?=some o:=by have:=jE 0;simpa using this.symm
  have KY:i<all.length:=(List.getElem?_eq_some_iff.1 ho).1;have hrest':∀ k,rest[k]?=all[i+1+k]?:=fun k=>by have:=jE (k+1);rw [List.getElem?_cons_succ] at this;rw [this];congr 1;omega
  show wpOps P all.toArray Q (i::List.range' (i+1) rest.length) a w;rw [wpOps_cons];unfold wpOp;have jR:all.toArray[i]?=some o:=by simpa using ho
  simp only [jR]
  have next:∀ (tm1:Tm) (x:TV) (h1:Hl) (rec1:List Did) (ρ':Nm) (v:Value) (w':World),tmG tm1=tmG tm->Qsy P T false all base (i+1) rest (QCz tm1 o.dst x) h1 rec1 K->Ext ρ ρ'->(∀ n,¬ (base+Qaq*i<=n/\n<base+Qaq*i+Qaq)->ρ' n=ρ n) ->
    VT ρ' x v->Conc F ρ' (hpG h1) w'->wpOps P all.toArray Q (List.range' (i+1) rest.length) (a.put o.dst v) w':=by
   intro tm1 x h1 rec1 ρ' v w' GJ hv' hx hf hxv hc;refine ih (i+1) _ _ _ ρ' _ w' hv' hrest' ⟨?_,?_,fun t=>?_,hc,hM i KY ρ ρ' hr.names hx hf⟩ (fun j hj yL n k1 k2=>?_)
   .cases o.dst<;>exact hr.defers
   .cases WE:o.dst<;>simp [Act.put,hr.tmps]
   .cases WE:o.dst with
    | none=>show VT ρ' (tmG tm1 t) _;rw [GJ];exact (hr.vals t).ext hx
    | some t' =>
     show VT ρ' (tmG ((t',x)::tm1) t) _;rw [Qcf]
     by_cases ht:t=t'
     .subst ht
      rw [if_pos rfl];have gU:t<a.tmps.size:=by rw [hr.tmps];exact Qpu HT i o t ho WE
      have:(a.put (some t) v).tmps.getD t undef=v:=by simp [Act.put,gU]
      rw [this];exact hxv
     .rw [if_neg ht,GJ]
      have:(a.put (some t') v).tmps.getD t undef=a.tmps.getD t undef:=by simp [Act.put,Array.getElem?_setIfInBounds_ne (fun e=>ht e.symm)]
      rw [this];exact (hr.vals t).ext hx
   .have:Qaq*i+Qaq<=Qaq*j:=by rw [<- Nat.mul_succ];exact Nat.mul_le_mul_left _ hj
    rw [hf n (by omega)];exact jB j (by omega) yL n k1 k2
  have run:∀ tm1:Tm,tmG tm1=tmG tm->vop P T false o (evF (tmG tm1)) (hpG h) (base+Qaq*i) (fun fp e=>Quj tm1 o.dst e.v fun tm=>QwH e h fun h=>QkA false (.did fp e) rec fun rec=>fN (i+1) fun i=>Qsy P T false all base i rest tm h rec K) ->
    o.wp P a w (wpOps P all.toArray Q (List.range' (i+1) rest.length)) Q:=by
   intro tm1 GJ uR;obtain ⟨fp,_,h1,h2,h3,_⟩:=Qkq hT uR;refine h1 F ρ (hpG h) a w Q _ (fun x _=>Qxn x fun t _=>by rw [GJ];exact hr.vals t) hr.conc h2 (fun n k1 k2=>jB i (Nat.le_refl _) KY n k1 k2) (fun e ρ' v w' he hx hf hxv hc=>?_);have h9:=(h3 e he).2;simp only [Qcd,Qh3,QkA,Qcq] at h9;exact next tm1 e.v _ _ ρ' v w' GJ h9 hx hf hxv (by rw [Qqz];exact hc)
  rw [Qhc] at hv;unfold Qsz at hv
  cases hg:o.guard with
  | none =>
   rw [hg] at hv;have hw:Region.wanted o (yielded all.toArray a.tmps)=true:=by unfold Region.wanted;rw [hg]
   rw [hw];simp only [if_true];exact .inl (run tm rfl hv)
  | some g =>
   rw [hg] at hv;obtain ⟨g1,g2⟩:=g;simp only [] at hv
   cases hd:Qee all g1 with
   | none=>rw [hd] at hv;exact hv.elim
   | some t =>
    rw [hd] at hv;simp only [] at hv;split at hv
    .rename_i b hb
     rw [Qqc] at hv;obtain ⟨YW,HJ⟩:=hv;have hval:=hr.vals t;rw [hb] at hval;have hval:a.tmps.getD t undef= .bool b:=hval
     have JW:a.tmps[t]?=some (.bool b):=by
      cases e:a.tmps[t]? with
      | none=>simp [e,undef] at hval
      | some v=>simp [e] at hval;rw [hval]
     have hy:yielded all.toArray a.tmps g1=some b:=by
      unfold yielded
      have:(all.toArray[g1]?).bind (·.dst)=some t:=by
       unfold Qee at hd
       cases e:all[g1]? with
       | none=>rw [e] at hd;cases hd
       | some og=>rw [e] at hd;simp [e,hd]
      rw [this];simp [JW]
     have hw:Region.wanted o (yielded all.toArray a.tmps)=decide (b=g2):=by
      unfold Region.wanted;rw [hg];simp only [hy];cases b<;>cases g2<;>rfl
     rw [hw]
     by_cases e:b=g2
     .subst e
      simp only [decide_true,if_true];exact .inl (run _ (QdY _ _ _ hb) (YW rfl))
     .have e2:b= !g2:=by cases b<;>cases g2<;>simp_all
      replace HJ:=HJ e2;simp only [Qcd,QkA,Qcq] at HJ;rw [decide_eq_false e];simp only [Bool.false_eq_true,if_false];exact next _ _ _ _ ρ undef w (QdY _ _ _ (by rw [hb,e2])) HJ (Ext.refl _) (fun _ _=>rfl) (QiQ ρ) hr.conc
    .rename_i l hb
     simp only [Qcd,QkA,Qcq] at hv;have hval:=hr.vals t;rw [hb] at hval;rw [Qm3 hg hd hval];simp only [Bool.false_eq_true,if_false];exact next _ _ _ _ ρ undef w rfl hv (Ext.refl _) (fun _ _=>rfl) (QiQ ρ) hr.conc
    .exact hv.elim
theorem QjW {id':Nat} {P:Program} (hm:P.follows .mixedOrders=true) {T:Tys} (hT:QaU P T) {G:Gm} {F:Fr} {N id:Nat} {ops:Array Oper} {draw:Bool} {σ:St} {ρ:Nm} {a:Act} {w:World} {Q:Exit->Act->World->Prop} {K:St->Prop} (hr:Rel G F N σ ρ a w)
  (hv:QdH P T N id ops.toList draw σ K) (hQ:∀ σ' ρ' a' w',K σ'->Rel G F N σ' ρ' a' w'->Q .normal a' w'):(Code.region id' ops draw).wp P Q a w:=by
 cases draw with
 | true=>exact Qlu hm hT hr hv hQ
 | false =>
  obtain ⟨tm,h,ids⟩:=σ;unfold QdH at hv;simp only [] at hv
  cases e1:Qc4 (id+1) ids with
  | true=>rw [e1] at hv;exact hv.elim
  | false =>
   rw [e1] at hv;simp only [] at hv
   cases e2:(QvE N ops.toList&&Nat.ble ops.toList.length 1024) with
   | false=>rw [e2] at hv;exact hv.elim
   | true =>
    rw [e2] at hv;simp only [] at hv;rw [Bool.and_eq_true] at e2;have hL:=Nat.le_of_ble_eq_true e2.2
    have yB:∀ n,n / Qev=id+1->ρ n=none:=fun n hn=>by
     cases e:ρ n with
     | none=>rfl
     | some p=>exact absurd (hn ▸ hr.ids n (by rw [e];simp)) (QgR e1)
    have jG:ops.toList.toArray=ops:=by simp
    have key:=Qu6 (M:=fun ρ=>(∀ n,ρ n≠none->n / Qev∈(id+1)::ids)/\Ext G.ρ0 ρ) (P:=P) hT (F:=F) (Q:=Q) e2.1 (fun j hj ρ ρ' h hx hf=>⟨fun n hn=>QhI hL hj h.1 hf n hn,h.2.trans hx⟩)
     (fun tm' h' rec' ρ' a' w' hk hr'=>hQ ⟨tm',h',(id+1)::ids⟩ ρ' a' w' hk ⟨hr'.defers,hr'.tmps,hr'.vals,hr'.conc,hr'.names.1,hr'.names.2,hr.dom⟩)
     ops.toList 0 tm h [] ρ a w hv (fun k=>by simp) ⟨hr.defers,hr.tmps,hr.vals,hr.conc,fun n hn=>List.mem_cons_of_mem _ (hr.ids n hn),hr.ext⟩ (fun j _ hj n h3 h4=>yB n (Qlk hL hj h3 h4))
    refine wp_region ?_;rw [jG] at key;have:List.range ops.size=List.range' 0 ops.toList.length:=by rw [List.range_eq_range'];simp
    rw [this];exact key
def Wk (N k:Nat) (σ σ':St):Prop:=∀ G F ρ a w,Gm.k G=k->Rel G F N σ ρ a w->∃ ρ',Rel G F N σ' ρ' a w
theorem Wk.refl (N k:Nat) (σ:St):Wk N k σ σ:=fun _ _ ρ _ _ _ h=>⟨ρ,h⟩
abbrev VC:=St->(Exit->St->Prop)->Prop
def QG4 (x y:VC):VC:=fun σ Q=>x σ fun e σ=>match e with
  | .normal=>y σ Q
  | e=>Q e σ
def Qkp (c:Operand) (x y:VC):VC:=fun σ Q=>match evF (tmG σ.tm) c with
  | .a (.s (.bool b))=>Br b (x σ Q) (y σ Q)
  | _=>False
def QzN (id:Nat) (x:VC):VC:=fun σ Q=>x σ fun e σ=>match e with
  | .exit id'=>match Nat.beq id' id with
   | true=>Q .normal σ
   | false=>Q (.exit id') σ
  | e=>Q e σ
def QzO (x:VC):VC:=fun σ Q=>x σ fun e σ=>match e with
  | .goto _=>False
  | e=>Q e σ
noncomputable def lpU (x:VC) (Q:Exit->St->Prop) (n:Nat):St->Prop :=
 Nat.rec (motive:=fun _=>St->Prop) (fun _=>False) (fun _ ih σ=>x σ fun e σ=>match e with
  | .normal=>ih σ
  | e=>Q e σ) n
inductive Lp (N k:Nat) (x:VC) (σ:St) (Q:Exit->St->Prop):Prop
 | inv (I:Nat->St->Prop) (h0:∃ n σ',Wk N k σ σ'/\I n σ') (hs:∀ n σ',I n σ'->x σ' fun e σ=>match e with
   | .normal=>∃ m σ'',m<n/\Wk N k σ σ''/\I m σ''
   | e=>Q e σ)
 | unroll (n:Nat) (h:lpU x Q n σ)
 | inw (I:Nat->St->Prop) (h0:∃ n σ',Wk N k σ σ'/\I n σ') (hs:∀ n σ',I n σ'->x σ' fun e σ=>match e with
   | .normal=>∃ m σ'',m<n/\Wk N k σ σ''/\I m σ''
   | e=>∃ σ'',Wk N k σ σ''/\Q e σ'')
def QDb (N k:Nat) (x:VC):VC:=Lp N k x
noncomputable def vc (P:Program) (T:Tys) (N k:Nat) (c:Code):VC :=
 Code.rec (motive:=fun _=>VC)
  (fun σ Q=>Q .normal σ)
  (fun _ ops draw σ Q=>fN (hdN σ.ids) fun id=>QdH P T N id ops.toList draw σ fun σ=>Q .normal σ)
  (fun _ _ x y=>QG4 x y)
  (fun c _ _ x y=>Qkp c x y)
  (fun id _ x=>QzN id x)
  (fun _ x=>QDb N k x)
  (fun _ _ _ _ _ _ _ _=>False)
  (fun id σ Q=>Q (.exit id) σ)
  (fun _ x=>QzO x)
  (fun _ σ Q=>Q .normal σ)
  (fun _ _ _=>False)
  (fun σ Q=>Q .ret σ)
  (fun _ _ _=>False)
  c
def QF6 (G:Gm) (F:Fr) (N:Nat) (Q:Exit->St->Prop):Exit->Act->World->Prop:=fun e a w=>∃ σ ρ,Rel G F N σ ρ a w/\Q e σ
theorem Qu5 {P:Program} (hm:P.follows .mixedOrders=true) {T:Tys} (hT:QaU P T) {G:Gm} {F:Fr} {N k:Nat} (YA:G.k=k):∀ (c:Code) (σ:St) (Q:Exit->St->Prop) (ρ:Nm) (a:Act) (w:World),vc P T N k c σ Q->Rel G F N σ ρ a w->c.wp P (QF6 G F N Q) a w:=by
 intro c
 induction c with
 | skip=>intro σ Q ρ a w h hr;exact wp_skip ⟨σ,ρ,hr,h⟩
 | region id ops draw=>intro σ Q ρ a w h hr;exact QjW hm hT hr ((Qcq (hdN σ.ids) fun id=>QdH P T N id ops.toList draw σ fun σ=>Q .normal σ).1 h) fun σ' ρ' a' w' hk hr'=>⟨σ',ρ',hr',hk⟩
 | seq x y ihx ihy =>
  intro σ Q ρ a w h hr;refine wp_seq (wp_mono (ihx σ _ ρ a w h hr) fun e a' w' hq=>?_);obtain ⟨σ',ρ',hr',hq⟩:=hq
  cases e with
  | normal=>exact ihy σ' Q ρ' a' w' hq hr'
  | exit i=>exact ⟨σ',ρ',hr',hq⟩
  | goto i=>exact ⟨σ',ρ',hr',hq⟩
  | ret=>exact ⟨σ',ρ',hr',hq⟩
  | panic c=>exact ⟨σ',ρ',hr',hq⟩
  | outgrown=>exact ⟨σ',ρ',hr',hq⟩
 | cond c x y ihx ihy =>
  intro σ Q ρ a w h hr;change Qkp c _ _ σ Q at h;unfold Qkp at h;split at h
  .rename_i b hb
   have hv:=Qxn (a:=a) (tm:=tmG σ.tm) c (fun t _=>hr.vals t);rw [hb] at hv;have hv:a.eval c= .bool b:=hv;obtain ⟨h1,h2⟩:=h;exact wp_cond_split hv (fun e=>ihx σ Q ρ a w (h1 e) hr) (fun e=>ihy σ Q ρ a w (h2 e) hr)
  .exact h.elim
 | block id x ih =>
  intro σ Q ρ a w h hr;refine wp_block (wp_mono (ih σ _ ρ a w h hr) fun e a' w' hq=>?_);obtain ⟨σ',ρ',hr',hq⟩:=hq
  cases e with
  | exit i =>
   simp only [] at hq;show if i=id then QF6 G F N Q .normal a' w' else QF6 G F N Q (.exit i) a' w'
   cases hb:Nat.beq i id with
   | true=>rw [hb] at hq;rw [if_pos (Nat.eq_of_beq_eq_true hb)];exact ⟨σ',ρ',hr',hq⟩
   | false=>rw [hb] at hq;rw [if_neg (Nat.ne_of_beq_eq_false hb)];exact ⟨σ',ρ',hr',hq⟩
  | normal=>exact ⟨σ',ρ',hr',hq⟩
  | goto i=>exact ⟨σ',ρ',hr',hq⟩
  | ret=>exact ⟨σ',ρ',hr',hq⟩
  | panic c=>exact ⟨σ',ρ',hr',hq⟩
  | outgrown=>exact ⟨σ',ρ',hr',hq⟩
 | loop x ih =>
  intro σ Q ρ a w h hr;rcases h with ⟨I,⟨n0,σ0,hw0,GN⟩,gW⟩|⟨n,h⟩|⟨I,⟨n0,σ0,hw0,GN⟩,gW⟩
  .obtain ⟨ρ0,hr0⟩:=hw0 G F ρ a w YA hr
   refine wp_loop_ghost (fun n a w=>∃ σ ρ,Rel G F N σ ρ a w/\I n σ) n0 ⟨σ0,ρ0,hr0,GN⟩ fun n a w hI=>?_
   obtain ⟨σ1,ρ1,yV,hI1⟩:=hI;refine wp_mono (ih σ1 _ ρ1 a w (gW n σ1 hI1) yV) fun e a' w' hq=>?_
   obtain ⟨σ',ρ',hr',hq⟩:=hq
   cases e with
   | normal =>
    obtain ⟨m,σ'',gU,FB,UP⟩:=hq;obtain ⟨ρ'',GD⟩:=FB G F ρ' a' w' YA hr';exact ⟨m,gU,σ'',ρ'',GD,UP⟩
   | exit i=>exact ⟨σ',ρ',hr',hq⟩
   | goto i=>exact ⟨σ',ρ',hr',hq⟩
   | ret=>exact ⟨σ',ρ',hr',hq⟩
   | panic c=>exact ⟨σ',ρ',hr',hq⟩
   | outgrown=>exact ⟨σ',ρ',hr',hq⟩
  .refine wp_loop_ghost (fun n a w=>∃ σ ρ,Rel G F N σ ρ a w/\lpU (vc P T N k x) Q n σ) n ⟨σ,ρ,hr,h⟩ fun n a w hI=>?_
   obtain ⟨σ1,ρ1,yV,hI1⟩:=hI
   cases n with
   | zero=>exact hI1.elim
   | succ n =>
    refine wp_mono (ih σ1 _ ρ1 a w hI1 yV) fun e a' w' hq=>?_
    obtain ⟨σ',ρ',hr',hq⟩:=hq
    cases e with
    | normal=>exact ⟨n,Nat.lt_succ_self n,σ',ρ',hr',hq⟩
    | exit i=>exact ⟨σ',ρ',hr',hq⟩
    | goto i=>exact ⟨σ',ρ',hr',hq⟩
    | ret=>exact ⟨σ',ρ',hr',hq⟩
    | panic c=>exact ⟨σ',ρ',hr',hq⟩
    | outgrown=>exact ⟨σ',ρ',hr',hq⟩
  .obtain ⟨ρ0,hr0⟩:=hw0 G F ρ a w YA hr
   refine wp_loop_ghost (fun n a w=>∃ σ ρ,Rel G F N σ ρ a w/\I n σ) n0 ⟨σ0,ρ0,hr0,GN⟩ fun n a w hI=>?_
   obtain ⟨σ1,ρ1,yV,hI1⟩:=hI;refine wp_mono (ih σ1 _ ρ1 a w (gW n σ1 hI1) yV) fun e a' w' hq=>?_
   obtain ⟨σ',ρ',hr',hq⟩:=hq
   have ex:∀ {e:Exit},(∃ σ'',Wk N k σ' σ''/\Q e σ'')->∃ σ ρ,Rel G F N σ ρ a' w'/\Q e σ:=fun ⟨σ'',FB,hq⟩=>by
    obtain ⟨ρ'',GD⟩:=FB G F ρ' a' w' YA hr';exact ⟨σ'',ρ'',GD,hq⟩
   cases e with
   | normal =>
    obtain ⟨m,σ'',gU,FB,UP⟩:=hq;obtain ⟨ρ'',GD⟩:=FB G F ρ' a' w' YA hr';exact ⟨m,gU,σ'',ρ'',GD,UP⟩
   | exit i=>exact ex hq
   | goto i=>exact ex hq
   | ret=>exact ex hq
   | panic c=>exact ex hq
   | outgrown=>exact ex hq
 | exit id=>intro σ Q ρ a w h hr;exact wp_exit ⟨σ,ρ,hr,h⟩
 | ret=>intro σ Q ρ a w h hr;exact wp_ret ⟨σ,ρ,hr,h⟩
 | scope x ih =>
  intro σ Q ρ a w h hr;refine wp_scope_straight (wp_mono (ih σ _ ρ a w h hr) fun e a' w' hq=>?_);obtain ⟨σ',ρ',hr',hq⟩:=hq
  cases e with
  | goto i=>exact hq.elim
  | exit i=>exact ⟨σ',ρ',hr',hq⟩
  | normal=>exact ⟨σ',ρ',hr',hq⟩
  | ret=>exact ⟨σ',ρ',hr',hq⟩
  | panic c=>exact ⟨σ',ρ',hr',hq⟩
  | outgrown=>exact ⟨σ',ρ',hr',hq⟩
 | label l=>intro σ Q ρ a w h hr;exact wp_label ⟨σ,ρ,hr,h⟩
 | goto l=>intro σ Q ρ a w h hr;exact h.elim
 | rangeFunc f p x y _ _=>intro σ Q ρ a w h hr;exact h.elim
 | refuse s=>intro σ Q ρ a w h hr;exact h.elim
abbrev Rn:=List (Nat × Option Nat)
def QgN (m:Rn) (ρ:Nm):Nm:=⟨fun n=>match QaX m n with
 | some (some c)=>ρ c
 | some none=>some .empty
 | none=>none,ρ.fr⟩
theorem Qa8 (m:Rn) (ρ:Nm) (n:Nat):QgN m ρ n=match QaX m n with
 | some (some c)=>ρ c
 | some none=>some .empty
 | none=>none:=rfl
def SVm (m:Rn) (cur:SV):SV->Prop
 | .unk=>True
 | .ptr n o=>∃ c,QaX m n=some (some c)/\cur= .ptr c o
 | .sl n o k=>(∃ c,QaX m n=some (some c)/\cur= .sl c o k)\/(QaX m n=some none/\k=0/\cur= .nilsl)
 | .fn f cap=>∃ cap0,cur= .fn f cap0/\cap0.length=cap.length/\∀ (j:Nat) (p:Nat × Nat),cap[j]?=some p->∃ c,QaX m p.1=some (some c)/\cap0[j]?=some (c,p.2)
 | .fz es n cells=>cur= .fz es n cells\/(n=0/\cells= []/\cur= .nilsl)
 | s=>cur=s
theorem Qsc {m:Rn} {ρ:Nm} {s s':SV} {v:Value} (h:VS ρ s v) (hm:SVm m s s'):VS (QgN m ρ) s' v:=by
 cases s'<;>simp only [SVm] at hm
 case unk=>exact trivial
 case ptr n o =>
  obtain ⟨c,h1,rfl⟩:=hm;obtain ⟨L,h2,h3⟩:=h;exact ⟨L,by rw [Qa8];rw [h1];exact h2,h3⟩
 case sl n o k =>
  rcases hm with ⟨c,h1,rfl⟩|⟨h1,rfl,rfl⟩
  .obtain ⟨A,cc,h2,h3,h4⟩:=h
   have e:QgN m ρ n=ρ c:=by rw [Qa8];rw [h1]
   exact ⟨A,cc,h2,h3,by rw [e];exact h4⟩
  .have h:v= .slice none 0 0:=h
   exact ⟨none,0,h,Nat.le_refl _,.inr ⟨by rw [Qa8];rw [h1],rfl⟩⟩
 case fn f cap =>
  obtain ⟨_,rfl,h1,h2⟩:=hm;obtain ⟨vs,h3,h4,h5⟩:=h;refine ⟨vs,h3,h4.trans h1,fun j p hp=>?_⟩;obtain ⟨c,h6,h7⟩:=h2 j p hp;obtain ⟨L,h8,h9⟩:=h5 j _ h7;exact ⟨L,by rw [Qa8];rw [h6];exact h8,h9⟩
 case fz es n cells =>
  rcases hm with rfl|⟨rfl,rfl,rfl⟩
  .exact h
  .have h:v= .slice none 0 0:=h
   exact ⟨none,0,h,Nat.le_refl _,.inr ⟨rfl,rfl⟩⟩
 all_goals (subst hm;exact h)
def SVsM (m:Rn) (l l':List SV):Prop:=l.length=l'.length/\∀ (k:Nat) s',l'[k]?=some s'->∃ s,l[k]?=some s/\SVm m s s'
theorem SVsM.nil {m:Rn}:SVsM m [] []:=⟨rfl,fun k s h=>by cases h⟩
theorem SVsM.cons {m:Rn} {s s':SV} {l l':List SV} (h:SVm m s s') (hl:SVsM m l l'):SVsM m (s::l) (s'::l') :=
 ⟨by simp [hl.1],fun k x hx=>by
  cases k with
  | zero=>injection hx with hx;subst hx;exact ⟨s,rfl,h⟩
  | succ k=>exact hl.2 k x hx⟩
theorem SVsM.append {m:Rn} {a a' b b':List SV} (h:SVsM m a a') (hl:SVsM m b b'):SVsM m (a++b) (a'++b') :=
 ⟨by simp [hl.1,h.1],fun k x hx=>by
  by_cases hk:k<a'.length
  .rw [List.getElem?_append_left hk] at hx
   rw [List.getElem?_append_left (by rw [h.1];exact hk)];exact h.2 k x hx
  .rw [List.getElem?_append_right (by omega)] at hx
   rw [List.getElem?_append_right (by rw [h.1];omega),h.1];exact hl.2 _ x hx⟩
def SV.scal:SV->Bool
 | .ptr _ _| .sl _ _ _| .fn _ _=>false
 | _=>true
def Qao:List SV->Bool
 | []=>true
 | s::l=>match s.scal with
  | true=>Qao l
  | false=>false
theorem Qgj {m:Rn} {s:SV} (h:s.scal=true):SVm m s s:=by
 cases s<;>simp [SVm,SV.scal] at h |-
theorem Qc0 {l:List SV} (h:Qao l=true):∀ s∈l,s.scal=true:=by
 induction l with
 | nil=>intro s hs;cases hs
 | cons a l ih =>
  unfold Qao at h
  cases e:a.scal with
  | false=>rw [e] at h;cases h
  | true =>
   rw [e] at h;intro s hs;rcases List.mem_cons.1 hs with rfl|hs
   .exact e
   .exact ih h s hs
theorem SVsM.scal {m:Rn} {l:List SV} (h:Qao l=true):SVsM m l l:=⟨rfl,fun _ s hs=>⟨s,hs,Qgj (Qc0 h s (List.mem_of_getElem? hs))⟩⟩
theorem QDc {m:Rn} {ρ:Nm} {l l':List SV} {vs:List Value} (h:VSs ρ l vs) (hm:SVsM m l l'):VSs (QgN m ρ) l' vs :=
 ⟨hm.1.symm.trans h.1,fun k s' hs=>by
  obtain ⟨s,h1,h2⟩:=hm.2 k s' hs;obtain ⟨v,h3,h4⟩:=h.2 k s h1
  exact ⟨v,h3,Qsc h4 h2⟩⟩
def AVm (m:Rn):AV->AV->Prop
 | .s x,.s y=>SVm m x y
 | .agg l,.agg l'=>SVsM m l l'
 | _,_=>False
theorem Qvq {m:Rn} {ρ:Nm} {x y:AV} {v:Value} (h:VA ρ x v) (hm:AVm m x y):VA (QgN m ρ) y v:=by
 cases x<;>cases y
 .exact Qsc h hm
 .exact hm.elim
 .exact hm.elim
 .obtain ⟨cs,rfl,h1⟩:=h;exact ⟨cs,rfl,QDc h1 hm⟩
def QsV (m:Rn):List AV->List AV->Prop
 | [],[]=>True
 | x::l,y::l'=>AVm m x y/\QsV m l l'
 | _,_=>False
theorem QoL {m:Rn} {ρ:Nm}:∀ {l l':List AV} {vs:List Value},VAs ρ l vs->QsV m l l'->VAs (QgN m ρ) l' vs
 | [],[],vs,h,_=>⟨h.1,fun _ s e=>by cases e⟩
 | x::l,y::l',vs,h,hm=>by
  cases vs with
  | nil=>have:=h.1;simp at this
  | cons v vs =>
   obtain ⟨_,h1,h2⟩:=h.2 0 x rfl;injection h1 with h1;subst h1
   have:=QoL (l:=l) (l':=l') (vs:=vs) ⟨by have:=h.1;simpa using this,fun k s e=>h.2 (k+1) s e⟩ hm.2;refine ⟨by simp [this.1],fun k s e=>?_⟩
   cases k with
   | zero=>injection e with e;subst e;exact ⟨v,rfl,Qvq h2 hm.1⟩
   | succ k=>exact this.2 k s e
 | [],_::_,_,_,h=>h.elim
 | _::_,[],_,_,h=>h.elim
def TVm (m:Rn) (x:TV):TV->Prop
 | .unk=>True
 | .a y=>∃ z,x= .a z/\AVm m z y
 | .tup l'=>∃ l,x= .tup l/\QsV m l l'
theorem Qg9 {m:Rn} {ρ:Nm} {x y:TV} {v:Value} (h:VT ρ x v) (hm:TVm m x y):VT (QgN m ρ) y v:=by
 cases y with
 | unk=>exact trivial
 | a y=>obtain ⟨_,rfl,h1⟩:=hm;exact Qvq h h1
 | tup l' =>
  obtain ⟨_,rfl,h1⟩:=hm;obtain ⟨vs,rfl,h2⟩:=h;exact ⟨vs,rfl,QoL h2 h1⟩
def QAz (m:Rn) (n c:Nat):Bool:=m.all fun p=>Nat.beq p.1 n||(match p.2 with|some x=> !Nat.beq x c|none=>true)
def RowMt (m:Rn) (hp:Hp) (n:Nat) (r':Row):Prop :=
 (∃ c r,QaX m n=some (some c)/\hp c=some r/\r.es=r'.es/\(r'.own=true->r.own=true/\QAz m n c=true)/\SVsM m r.cells r'.cells)\/(QaX m n=some none/\r'.cells= [])
def QEV (m:Rn) (qC:Hp) (n c:Nat):Bool:=m.all fun p=>Nat.beq p.1 n||(match qC p.1 with|some _=>false|none=>true)||(match p.2 with|some x=> !Nat.beq x c|none=>true)
theorem QxY {m:Rn} {qC:Hp} {n c:Nat} (h:QEV m qC n c=true) {n' c':Nat} {s:Row} (hl2:qC n'=some s) (hl:QaX m n'=some (some c')) (fQ:n'≠n):c'≠c:=by
 have:=List.all_eq_true.1 h _ (QbH hl);simp only [Bool.or_eq_true,hl2] at this;rcases this with (h1|h1)|h1
 .exact absurd (Nat.eq_of_beq_eq_true h1) fQ
 .cases h1
 .rintro rfl;rw [Nat.beq_refl] at h1;cases h1
theorem QxX {m:Rn} {qC:Hp} {n c:Nat} (h:QAz m n c=true):QEV m qC n c=true:=List.all_eq_true.2 fun p hp=>by
 have:=List.all_eq_true.1 h p hp;simp only [Bool.or_eq_true] at this |-;rcases this with h1|h1
 .exact .inl (.inl h1)
 .exact .inr h1
def Qvn (m:Rn) (hp qC:Hp) (n:Nat) (r':Row):Prop :=
 (∃ c r,QaX m n=some (some c)/\hp c=some r/\r.es=r'.es/\(r'.own=true->r.own=true/\QEV m qC n c=true)/\SVsM m r.cells r'.cells)\/(QaX m n=some none/\r'.cells= [])
theorem RowMt.v {m:Rn} {hp qC:Hp} {n:Nat} {r':Row} (h:RowMt m hp n r'):Qvn m hp qC n r':=by
 rcases h with ⟨c,r,h1,h2,h3,h4,h5⟩|h
 .exact .inl ⟨c,r,h1,h2,h3,fun e=>⟨(h4 e).1,QxX (h4 e).2⟩,h5⟩
 .exact .inr h
theorem QeH {F:Fr} {m:Rn} {ρ:Nm} {hp qC:Hp} {w:World} (hc:Conc F ρ hp w) (h:∀ n r',qC n=some r'->Qvn m hp qC n r'):Conc F (QgN m ρ) qC w:=by
 refine ⟨fun n r' hn=>?_,fun n r' k s' Ln Lk h1 h2 h3 h4 h5 h6=>?_,fun n r' L h1 h2 h3=>?_,hc.os,hc.tape,hc.output,hc.size,hc.block,fun L c hf=>?_⟩
 .rcases h n r' hn with ⟨c,r,h1,h2,h3,h4,h5⟩|⟨h1,h2⟩
  .have:=hc.rows c r h2
   unfold RowOk at this |-;have e:QgN m ρ n=ρ c:=by rw [Qa8];rw [h1]
   rw [e]
   cases e2:ρ c with
   | none=>rw [e2] at this;exact this.elim
   | some p =>
    rw [e2] at this
    cases p with
    | empty =>
     have this:r.cells= []:=this;have:=h5.1;rw [‹r.cells= []›] at this;exact List.eq_nil_of_length_eq_zero this.symm
    | «at» L =>
     obtain ⟨g1,g2,cs,t,fz,g3,g4,g5,g6⟩:=this;refine ⟨g1.trans h3,by rw [<- h5.1];exact g2,cs,t,fz,g3,g4,fun ho=>g5 (h4 ho).1,fun k s' hs=>?_⟩;obtain ⟨s,q1,q2⟩:=h5.2 k s' hs;obtain ⟨v,q3,q4⟩:=g6 k s q1;exact ⟨v,q3,Qsc q4 q2⟩
  .unfold RowOk
   have e:QgN m ρ n=some .empty:=by rw [Qa8];rw [h1]
   rw [e];exact h2
 .rcases h n r' h1 with ⟨c,r,a1,a2,a3,a4,a5⟩|⟨a1,_⟩
  .have e:QgN m ρ n=ρ c:=by rw [Qa8];rw [a1]
   rw [e] at h5;rcases h k s' h3 with ⟨c',r2,b1,b2,_⟩|⟨b1,_⟩
   .have e2:QgN m ρ k=ρ c':=by rw [Qa8];rw [b1]
    rw [e2] at h6;exact hc.apart c r c' r2 Ln Lk a2 (a4 h2).1 b2 (fun e=>QxY (a4 h2).2 h3 b1 (fun e=>h4 e.symm) e.symm) h5 h6
   .rw [Qa8] at h6;rw [b1] at h6;cases h6
  .rw [Qa8] at h5;rw [a1] at h5;cases h5
 .rcases h n r' h1 with ⟨c,r,a1,a2,a3,a4,a5⟩|⟨a1,_⟩
  .have e:QgN m ρ n=ρ c:=by rw [Qa8];rw [a1]
   rw [e] at h3;exact hc.mine c r L a2 (a4 h2).1 h3
  .rw [Qa8] at h3;rw [a1] at h3;cases h3
 .obtain ⟨f1,f2,f3⟩:=hc.frz L c hf
  refine ⟨f1,fun n r' Ln h1 h2 h3=>?_,f3⟩;rcases h n r' h1 with ⟨c',r,a1,a2,a3,a4,a5⟩|⟨a1,_⟩
  .have e:QgN m ρ n=ρ c':=by rw [Qa8];rw [a1]
   rw [e] at h3;exact f2 c' r Ln a2 (a4 h2).1 h3
  .rw [Qa8] at h3;rw [a1] at h3;cases h3
theorem Qf1 {F:Fr} {m:Rn} {ρ:Nm} {hp qC:Hp} {w:World} (hc:Conc F ρ hp w) (h:∀ n r',qC n=some r'->RowMt m hp n r'):Conc F (QgN m ρ) qC w:=QeH hc fun n r' hn=>(h n r' hn).v
def HlS (m:Rn) (hp:Hp):List Nat->Hl->Prop
 | _,[]=>True
 | s,p::l=>(match Qc4 p.1 s with|true=>True|false=>match p.2 with|some r=>RowMt m hp p.1 r|none=>True)/\HlS m hp (p.1::s) l
def HlL (m:Rn) (hp:Hp) (l:Hl):Prop:=HlS m hp [] l
theorem QvY {m:Rn} {hp:Hp}:∀ {l:Hl} {s:List Nat},HlS m hp s l->∀ n r',Qc4 n s=false->hpG l n=some r'->RowMt m hp n r'
 | [],_,_,n,r',_,h=>by cases h
 | p::l,s,hl,n,r',hs,h=>by
  obtain ⟨k,_⟩:=p;rw [Qbv] at h;unfold Hp.set at h;split at h
  .rename_i e;subst e;subst h
   have:=hl.1;simp only [hs] at this;exact this
  .rename_i e
   refine QvY hl.2 n r' ?_ h;unfold Qc4
   cases hb:Nat.beq n k with
   | true=>exact absurd (Nat.eq_of_beq_eq_true hb) e
   | false=>exact hs
theorem Qmr {m:Rn} {hp:Hp} {l:Hl} (h:HlL m hp l) (n:Nat) (r':Row) (hn:hpG l n=some r'):RowMt m hp n r':=QvY h n r' rfl hn
def QcE (m:Rn) (hp qC:Hp):List Nat->Hl->Prop
 | _,[]=>True
 | s,p::l=>(match Qc4 p.1 s with|true=>True|false=>match p.2 with|some r=>Qvn m hp qC p.1 r|none=>True)/\QcE m hp qC (p.1::s) l
def HlV (m:Rn) (hp:Hp) (l:Hl):Prop:=QcE m hp (hpG l) [] l
theorem Qqw {m:Rn} {hp qC:Hp}:∀ {l:Hl} {s:List Nat},QcE m hp qC s l->∀ n r',Qc4 n s=false->hpG l n=some r'->Qvn m hp qC n r'
 | [],_,_,n,r',_,h=>by cases h
 | p::l,s,hl,n,r',hs,h=>by
  obtain ⟨k,_⟩:=p;rw [Qbv] at h;unfold Hp.set at h;split at h
  .rename_i e;subst e;subst h
   have:=hl.1;simp only [hs] at this;exact this
  .rename_i e
   refine Qqw hl.2 n r' ?_ h;unfold Qc4
   cases hb:Nat.beq n k with
   | true=>exact absurd (Nat.eq_of_beq_eq_true hb) e
   | false=>exact hs
theorem Qqv {m:Rn} {hp:Hp} {l:Hl} (h:HlV m hp l) (n:Nat) (r':Row) (hn:hpG l n=some r'):Qvn m hp (hpG l) n r':=Qqw h n r' rfl hn
def TmL (m:Rn) (tm:Nat->TV):Tm->Prop
 | []=>True
 | p::l=>TVm m (tm p.1) p.2/\TmL m tm l
theorem Qsh {m:Rn} {tm:Nat->TV}:∀ {l:Tm},TmL m tm l->∀ t,TVm m (tm t) (tmG l t)
 | [],_,t=>trivial
 | p::l,hl,t=>by
  obtain ⟨_,_⟩:=p;rw [Qcf];split
  .rename_i e;subst e;exact hl.1
  .exact Qsh hl.2 t
def QAy (m:Rn) (ids:List Nat):Bool:=m.all fun p=>Qc4 (p.1 / Qev) ids
theorem Qgc {n:Nat}:∀ {l:List Nat},Qc4 n l=true->n∈l
 | [],h=>by cases h
 | m::l,h=>by
  unfold Qc4 at h
  cases e:Nat.beq n m with
  | true=>rw [Nat.eq_of_beq_eq_true e];simp
  | false=>rw [e] at h;exact List.mem_cons_of_mem _ (Qgc h)
def idn (m:Rn):Nat->Bool
 | 0=>true
 | k+1=>(match QaX m k with|some (some c)=>Nat.beq c k|_=>false)&&idn m k
theorem QfB {m:Rn}:∀ {k:Nat},idn m k=true->∀ n,n<k->QaX m n=some (some n)
 | 0,_,n,h=>by omega
 | k+1,h,n,hn=>by
  unfold idn at h;rw [Bool.and_eq_true] at h
  by_cases e:n=k
  .subst e
   have h1:=h.1;split at h1
   .rename_i c hc;rw [hc,Nat.eq_of_beq_eq_true h1]
   .cases h1
  .exact QfB h.2 n (by omega)
theorem Qen {m:Rn} {k:Nat} (h:idn m k=true) {G:Gm} (hk:G.k=k) {ρ:Nm} (hd:∀ n,G.k<=n->G.ρ0 n=none) (hx:Ext G.ρ0 ρ):Ext G.ρ0 (QgN m ρ):=⟨fun n p hn=>by
 have:n<k:=by
  rcases Nat.lt_or_ge n k with h|h
  .exact h
  .rw [hd n (by omega)] at hn;cases hn
 rw [Qa8];rw [QfB h n this]
 exact hx n p hn,hx.fr⟩
theorem Qcg (m:Rn) {N k:Nat} {σ σ':St} (h1:TmL m (tmG σ.tm) σ'.tm) (h2:HlL m (hpG σ.h) σ'.h) (h3:(QAy m σ'.ids&&idn m k)=true):Wk N k σ σ':=fun G F ρ a w hk hr =>
 ⟨QgN m ρ,hr.defers,hr.tmps,fun t=>Qg9 (hr.vals t) (Qsh h1 t),Qf1 hr.conc (Qmr h2),fun n hn=>by
  have:(QaX m n).isSome=true:=by
   rw [Qa8] at hn
   cases e:QaX m n with
   | none=>rw [e] at hn;exact absurd rfl hn
   | some x=>rfl
  obtain ⟨x,hx⟩:=Option.isSome_iff_exists.1 this
  exact Qgc (List.all_eq_true.1 (Bool.and_eq_true _ _ ▸ h3:QAy m σ'.ids=true/\_).1 _ (QbH hx)),Qen ((Bool.and_eq_true _ _ ▸ h3:_/\idn m k=true).2) hk hr.dom hr.ext,hr.dom⟩
theorem QG6 (m:Rn) {N k:Nat} {σ σ':St} (h1:TmL m (tmG σ.tm) σ'.tm) (h2:HlV m (hpG σ.h) σ'.h) (h3:(QAy m σ'.ids&&idn m k)=true):Wk N k σ σ':=fun G F ρ a w hk hr =>
 ⟨QgN m ρ,hr.defers,hr.tmps,fun t=>Qg9 (hr.vals t) (Qsh h1 t),QeH hr.conc (Qqv h2),fun n hn=>by
  have:(QaX m n).isSome=true:=by
   rw [Qa8] at hn
   cases e:QaX m n with
   | none=>rw [e] at hn;exact absurd rfl hn
   | some x=>rfl
  obtain ⟨x,hx⟩:=Option.isSome_iff_exists.1 this
  exact Qgc (List.all_eq_true.1 (Bool.and_eq_true _ _ ▸ h3:QAy m σ'.ids=true/\_).1 _ (QbH hx)),Qen ((Bool.and_eq_true _ _ ▸ h3:_/\idn m k=true).2) hk hr.dom hr.ext,hr.dom⟩
def Qov (T:Tys) (σ:St):List ResultVar->(List AV->Prop)->Prop
 | [],K=>K []
 | .tmp t::l,K=>(match tmG σ.tm t with
  | .a x=>Qov T σ l fun r=>K (x::r)
  | _=>False)
 | .cell p ty::l,K=>(match tmG σ.tm p with
  | .a (.s (.ptr i k))=>(match T ty with
   | some y=>(match y.kind.agg with
    | false=>Ge (hpG σ.h i) fun r=>Ge (r.cells[k]?) fun s=>Qov T σ l fun q=>K (.s s::q)
    | true=>Ge (hpG σ.h i) fun r=>Sg r.cells k y.size fun c=>Qov T σ l fun q=>K (.agg c::q))
   | none=>False)
  | _=>False)
def Qbc:List AV->TV
 | [x]=> .a x
 | l=> .tup l
def QjX (tmps:Array Value):ResultVar->Sem Value
 | .tmp t=>pure (tmps.getD t undef)
 | .cell p t=>do loadVar t (<- asAddr (tmps.getD p undef))
theorem QnM (fn:Func) (tmps:Array Value):results fn tmps=(do let vs <- fn.results.mapM (QjX tmps);pure (if h:vs.size=1 then vs[0] else .tuple vs)):=by
 unfold results;rfl
theorem QmK {P:Program} {T:Tys} (hT:QaU P T) {G:Gm} {F:Fr} {N:Nat} {σ:St} {ρ:Nm} {a:Act} {w:World} (hr:Rel G F N σ ρ a w):∀ (l:List ResultVar) (K:List AV->Prop),Qov T σ l K ->
  ∃ r vs,K r/\VAs ρ r vs/\r.length=l.length/\(l.mapM (QjX a.tmps)).run P w= .ok vs w
 | [],K,h=>⟨[],[],h,⟨rfl,fun _ s e=>by cases e⟩,rfl,by simp⟩
 | .tmp t::l,K,h=>by
  unfold Qov at h;split at h
  .rename_i x hx
   obtain ⟨r,vs,h1,h2,h3,h4⟩:=QmK hT hr l _ h;have hv:=hr.vals t;rw [hx] at hv;refine ⟨x::r,a.tmps.getD t undef::vs,h1,⟨by simp [h2.1],fun k s e=>?_⟩,by simp [h3],by rw [List.mapM_cons];simp only [QjX,Sem.run_bind,Sem.run_pure,Result.andThen_ok,h4]⟩
   cases k with
   | zero=>injection e with e;subst e;exact ⟨_,rfl,hv⟩
   | succ k=>exact h2.2 k s e
  .exact h.elim
 | .cell p ty::l,K,h=>by
  unfold Qov at h;split at h
  .rename_i i k hx
   have hv:=hr.vals p;rw [hx] at hv;obtain ⟨_,hL,hp⟩:=hv;have qK:∀ r,hpG σ.h i=some r->_:=fun r hr'=>QhK hr.conc hr' hL
   split at h
   .rename_i y hy
    split at h
    .rename_i hk
     obtain ⟨r,h1,s,h2,h3⟩:=h;obtain ⟨q,vs,g1,g2,g3,g4⟩:=QmK hT hr l _ h3;obtain ⟨v,h5,h6⟩:=Qgf hr.conc h1 hL h2;refine ⟨.s s::q,v::vs,g1,⟨by simp [g2.1],fun k s e=>?_⟩,by simp [g3],?_⟩
     .cases k with
      | zero=>injection e with e;subst e;exact ⟨_,rfl,h6⟩
      | succ k=>exact g2.2 k s e
     .rw [List.mapM_cons]
      have hl:(do loadVar ty (<- asAddr (a.tmps.getD p undef)):Sem Value).run P w= .ok v w:=by
       rw [hp];simp [asAddr,loadVar,(hT ty y hy).agg w,hk,load,Sem.run,h5,pure]
      simp only [Sem.run_bind] at hl;simp only [QjX,Sem.run_bind,Sem.run_pure];rw [hl];simp only [Result.andThen_ok,g4]
    .rename_i hk
     obtain ⟨r,h1,c,⟨h2,h2'⟩,h3⟩:=h;obtain ⟨q,vs,g1,g2,g3,g4⟩:=QmK hT hr l _ h3;obtain ⟨us,h5,h6⟩:=Qg0 (P:=P) hr.conc h1 hL k c h2';rw [h2] at h6;refine ⟨.agg c::q,.agg us.toArray::vs,g1,⟨by simp [g2.1],fun k s e=>?_⟩,by simp [g3],?_⟩
     .cases k with
      | zero=>injection e with e;subst e;exact ⟨_,rfl,⟨_,rfl,h5⟩⟩
      | succ k=>exact g2.2 k s e
     .rw [List.mapM_cons]
      have hl:(do loadVar ty (<- asAddr (a.tmps.getD p undef)):Sem Value).run P w= .ok (.agg us.toArray) w:=by
       rw [hp];simp [asAddr,loadVar,(hT ty y hy).agg w,hk,(hT ty y hy).sizeOf w,h6]
      simp only [Sem.run_bind] at hl;simp only [QjX,Sem.run_bind,Sem.run_pure];rw [hl];simp only [Result.andThen_ok,g4]
   .exact h.elim
  .exact h.elim
def QkI:Nat->List AV->Tm
 | _,[]=> []
 | i,x::l=>(i,.a x)::QkI (i+1) l
def Qdb:Nat->List Row->Hl
 | _,[]=> []
 | i,x::l=>(i,some x)::Qdb (i+1) l
theorem Qi6:∀ (l:List AV) (i t:Nat),tmG (QkI i l) t=match (if i<=t then l[t-i]? else none) with|some x=> .a x|none=> .unk
 | [],i,t=>by
  show TV.unk=_;split
  .rename_i h;split at h<;>simp at h
  .rfl
 | x::l,i,t=>by
  show tmG ((i,.a x)::QkI (i+1) l) t=_;rw [Qcf,Qi6 l (i+1) t]
  by_cases h1:t=i
  .subst h1;simp
  .rw [if_neg h1]
   by_cases h2:i<=t
   .rw [if_pos (by omega),if_pos h2,show t-i=(t-(i+1))+1 by omega];rfl
   .rw [if_neg (by omega),if_neg h2]
theorem Qdq:∀ (l:List Row) (i n:Nat),hpG (Qdb i l) n=if i<=n then l[n-i]? else none
 | [],i,n=>by show none=_;split<;>simp
 | x::l,i,n=>by
  show hpG ((i,some x)::Qdb (i+1) l) n=_;rw [Qbv];unfold Hp.set;rw [Qdq l (i+1) n]
  by_cases h1:n=i
  .subst h1;simp
  .rw [if_neg h1]
   by_cases h2:i<=n
   .rw [if_pos (by omega),if_pos h2,show n-i=(n-(i+1))+1 by omega];rfl
   .rw [if_neg (by omega),if_neg h2]
def QxG (R:Res) (H:List Row):Hl:=Qdb H.length R.nw++(upL R.up (Qdb 0 H))
theorem Qle {α:Type} (l m:List (Nat × α)) (n:Nat):QaX (l++m) n=match QaX l n with|some x=>some x|none=>QaX m n:=by
 induction l with
 | nil=>rfl
 | cons p l ih =>
  obtain ⟨k,x⟩:=p;show QaX ((k,x)::(l++m)) n=_;rw [Qa0,Qa0]
  by_cases h:n=k
  .rw [if_pos h,if_pos h]
  .rw [if_neg h,if_neg h,ih]
theorem Qmy:∀ (l:List Row) (i n:Nat),QaX (Qdb i l) n=if i<=n then (l[n-i]?).map some else none
 | [],i,n=>by show none=_;split<;>simp
 | x::l,i,n=>by
  show QaX ((i,some x)::Qdb (i+1) l) n=_;rw [Qa0,Qmy l (i+1) n]
  by_cases h1:n=i
  .subst h1;simp
  .rw [if_neg h1]
   by_cases h2:i<=n
   .rw [if_pos (by omega),if_pos h2,show n-i=(n-(i+1))+1 by omega];rfl
   .rw [if_neg (by omega),if_neg h2]
theorem Qeh (R:Res) (H:List Row) (vQ:∀ p∈R.up,p.1<H.length):hpG (QxG R H)=R.app H:=by
 funext n
 have e:hpG (QxG R H) n=match QaX (Qdb H.length R.nw) n with|some r=>r|none=>hpG (upL R.up (Qdb 0 H)) n:=by
  unfold QxG;show (match QaX (Qdb H.length R.nw++upL R.up (Qdb 0 H)) n with|some r=>r|none=>none)=_;rw [Qle];cases QaX (Qdb H.length R.nw) n<;>rfl
 rw [e,Qmy];unfold Res.app
 by_cases h:H.length<=n
 .rw [if_pos h,Nat.ble_eq_true_of_le h]
  simp only []
  cases e2:R.nw[n-H.length]? with
  | some r=>rfl
  | none =>
   show hpG (upL R.up (Qdb 0 H)) n=none;rw [QqA,Qdq]
   cases e3:QaX R.up n with
   | some x=>exact absurd (vQ _ (QbH e3)) (by simp;omega)
   | none=>first|(simp;done)|(simp;omega)
 .rw [if_neg h,Qgr (by omega)]
  show hpG (upL R.up (Qdb 0 H)) n=_;rw [QqA,Qdq];rw [if_pos (Nat.zero_le _),Nat.sub_zero]
  all_goals (cases QaX R.up n<;>rfl)
def QzI (H:List Row):List (Nat × Option Row)->Bool
 | []=>true
 | p::l=>(match H[p.1]? with|some r=>r.own|none=>false)&&(match p.2 with|some r=>r.own|none=>true)&&QzI H l
def Qyj:List Row->Bool
 | []=>true
 | r::l=>r.own&&Qyj l
def ltB (m:Rn) (k:Nat):Bool:=m.all fun p=>Nat.blt p.1 k
def Qc3:List SV->Bool
 | []=>true
 | s::l=>match s.flat with
  | true=>Qc3 l
  | false=>false
theorem Qqj:∀ {l:List SV} {k:Nat} {s:SV},Qc3 l=true->l[k]?=some s->s.flat=true
 | a::l,0,s,h,e=>by
  injection e with e;subst e
  unfold Qc3 at h;split at h
  .assumption
  .cases h
 | a::l,k+1,s,h,e=>by
  unfold Qc3 at h;split at h
  .exact Qqj (l:=l) (k:=k) h (by simpa using e)
  .cases h
def frS (c es:Nat) (cells:List SV) (s:SV):SV:=match s with
 | .sl i o n=>(match Nat.beq i c with
  | true=>(match Nat.beq o 0 with
   | true=> .fz es n cells
   | false=> .sl i o n)
  | false=> .sl i o n)
 | s=>s
def frA (c es:Nat) (cells:List SV) (x:AV):AV:=match x with
 | .s x=> .s (frS c es cells x)
 | .agg l=> .agg (l.map (frS c es cells))
def frT (c es:Nat) (cells:List SV) (x:TV):TV:=match x with
 | .unk=> .unk
 | .a x=> .a (frA c es cells x)
 | .tup l=> .tup (l.map (frA c es cells))
def QB0 (c es:Nat) (cells:List SV):Tm->Tm
 | []=> []
 | p::l=>(p.1,frT c es cells p.2)::QB0 c es cells l
def frR (c es:Nat) (cells:List SV) (r:Option Row):Option Row:=match r with
 | some r=>some ⟨r.own,r.es,r.cells.map (frS c es cells)⟩
 | none=>none
def QAx (c es:Nat) (cells:List SV):Hl->Hl
 | []=> []
 | p::l=>(p.1,frR c es cells p.2)::QAx c es cells l
def QHI (c es:Nat) (cells:List SV) (σ:St):St:=⟨QB0 c es cells σ.tm,(c,none)::QAx c es cells σ.h,σ.ids⟩
def frN (ρ:Nm) (c:Nat) (cells:List SV):Nm:=⟨ρ.nm,fun L k=>ρ.fr L k\/(ρ c=some (.at L)/\k=cells)⟩
theorem Qk8 (ρ:Nm) (c:Nat) (cells:List SV):Ext ρ (frN ρ c cells):=⟨fun _ _ h=>h,fun _ _ h=> .inl h⟩
theorem QzP {ρ:Nm} {c es:Nat} {cells:List SV} (vW:∀ L,ρ c=some (.at L)->L.es=es) (h0:ρ c=some .empty->cells= []) {s:SV} {v:Value} (h:VS ρ s v):VS (frN ρ c cells) (frS c es cells s) v:=by
 have hx:=h.ext (Qk8 ρ c cells);unfold frS;split
 .rename_i i o n
  split
  .rename_i e1
   split
   .rename_i e2
    obtain rfl:=Nat.eq_of_beq_eq_true e1;obtain rfl:=Nat.eq_of_beq_eq_true e2;obtain ⟨A,cc,g1,g2,g3⟩:=h;refine ⟨A,cc,g1,g2,?_⟩;rcases g3 with ⟨L,g4,g5⟩|⟨g4,g5⟩
    .refine .inl ⟨L,.inr ⟨g4,rfl⟩,vW L g4,?_⟩
     rcases g5 with ⟨rfl,g6⟩|g5
     .exact .inl ⟨rfl,by simpa using g6⟩
     .exact .inr g5
    .exact .inr ⟨h0 g4,g5⟩
   .exact hx
  .exact hx
 .exact hx
theorem QC9 {ρ:Nm} {c es:Nat} {cells:List SV} (vW:∀ L,ρ c=some (.at L)->L.es=es) (h0:ρ c=some .empty->cells= []) {x:AV} {v:Value} (h:VA ρ x v):VA (frN ρ c cells) (frA c es cells x) v:=by
 cases x with
 | s x=>exact QzP vW h0 h
 | agg l =>
  obtain ⟨cs,rfl,h3⟩:=h
  exact ⟨cs,rfl,by simpa using h3.1,fun q s e=>by
   rw [List.getElem?_map] at e
   cases e0:l[q]? with
   | none=>rw [e0] at e;cases e
   | some s0 =>
    rw [e0] at e;injection e with e;subst e
    obtain ⟨v,h4,h5⟩:=h3.2 q _ e0
    exact ⟨v,h4,QzP vW h0 h5⟩⟩
theorem QzQ {ρ:Nm} {c es:Nat} {cells:List SV} (vW:∀ L,ρ c=some (.at L)->L.es=es) (h0:ρ c=some .empty->cells= []) {x:TV} {v:Value} (h:VT ρ x v):VT (frN ρ c cells) (frT c es cells x) v:=by
 cases x with
 | unk=>exact trivial
 | a x=>exact QC9 vW h0 h
 | tup l =>
  obtain ⟨cs,rfl,h3⟩:=h
  exact ⟨cs,rfl,by simpa using h3.1,fun q s e=>by
   rw [List.getElem?_map] at e
   cases e0:l[q]? with
   | none=>rw [e0] at e;cases e
   | some s0 =>
    rw [e0] at e;injection e with e;subst e
    obtain ⟨v,h4,h5⟩:=h3.2 q _ e0
    exact ⟨v,h4,QC9 vW h0 h5⟩⟩
theorem QjF (c es:Nat) (cells:List SV) (t:Nat):∀ l:Tm,tmG (QB0 c es cells l) t=frT c es cells (tmG l t)
 | []=>rfl
 | p::l=>by
  obtain ⟨k,x⟩:=p;show tmG ((k,frT c es cells x)::QB0 c es cells l) t=_;rw [Qcf,Qcf];split
  .rfl
  .exact QjF c es cells t l
theorem Qms (c es:Nat) (cells:List SV) (n:Nat):∀ l:Hl,hpG (QAx c es cells l) n=frR c es cells (hpG l n)
 | []=>rfl
 | p::l=>by
  obtain ⟨k,x⟩:=p;show hpG ((k,frR c es cells x)::QAx c es cells l) n=_;rw [Qbv,Qbv];unfold Hp.set;split
  .rfl
  .exact Qms c es cells n l
theorem QkW {F:Fr} {ρ:Nm} {h:Hl} {w:World} (hc:Conc F ρ (hpG h) w) {c es:Nat} {cells:List SV} (hn:hpG h c=some ⟨true,es,cells⟩) (hf:Qc3 cells=true) :
  (∀ L,ρ c=some (.at L)->L.es=es)/\(ρ c=some .empty->cells= [])/\Conc F (frN ρ c cells) (hpG ((c,none)::QAx c es cells h)) w:=by
 have qK:=hc.rows c _ hn;have vW:∀ L,ρ c=some (.at L)->L.es=es:=fun L hL=>by unfold RowOk at qK;rw [hL] at qK;exact qK.1
 have h0:ρ c=some .empty->cells= []:=fun hL=>by unfold RowOk at qK;rw [hL] at qK;exact qK
 have key:∀ n r,hpG ((c,none)::QAx c es cells h) n=some r->n≠c/\∃ r0,hpG h n=some r0/\r=⟨r0.own,r0.es,r0.cells.map (frS c es cells)⟩:=fun n r hr=>by
  rw [Qbv] at hr;unfold Hp.set at hr;split at hr
  .cases hr
  .rename_i fQ
   rw [Qms] at hr
   cases e:hpG h n with
   | none=>rw [e] at hr;cases hr
   | some r0=>rw [e] at hr;injection hr with hr;exact ⟨fQ,r0,rfl,hr.symm⟩
 refine ⟨vW,h0,fun n r hr=>?_,fun n r m s Ln Lm h1 h2 h3 h4 h5 h6=>?_,fun n r L h1 h2 h3=>?_,hc.os,hc.tape,hc.output,hc.size,hc.block,fun L k hk=>?_⟩
 .obtain ⟨_,r0,g1,rfl⟩:=key n r hr
  exact QdT (ρ':=frN ρ c cells) (f:=frS c es cells) (hc.rows n r0 g1) rfl (fun s v=>QzP vW h0) ⟨r0.own,r0.es,r0.cells.map (frS c es cells)⟩ rfl (fun x=>x) (fun k s hk=>QgO _ _ k s hk) (by simp)
 .obtain ⟨_,r0,g1,rfl⟩:=key n r h1
  obtain ⟨_,s0,g2,rfl⟩:=key m s h3;exact hc.apart n r0 m s0 Ln Lm g1 h2 g2 h4 h5 h6
 .obtain ⟨_,r0,g1,rfl⟩:=key n r h1
  exact hc.mine n r0 L g1 h2 h3
 .rcases hk with hk|⟨hk,rfl⟩
  .obtain ⟨f1,f2,f3⟩:=hc.frz L k hk
   refine ⟨f1,fun n r Ln h1 h2 h3=>?_,f3⟩;obtain ⟨_,r0,g1,rfl⟩:=key n r h1;exact f2 n r0 Ln g1 h2 h3
  .refine ⟨?_,fun n r Ln h1 h2 h3=>?_,.inr (hc.mine c _ L hn rfl hk)⟩
   .unfold RowOk at qK
    rw [hk] at qK;obtain ⟨g1,g2,cs,t,fz,g3,g4,_,g6⟩:=qK;refine ⟨g2,cs,t,fz,g3,g4,fun j s hs=>?_⟩;obtain ⟨v,q1,q2⟩:=g6 j s hs;exact ⟨v,q1,q2.vf (Qqj hf hs)⟩
   .obtain ⟨fQ,r0,g1,rfl⟩:=key n r h1
    exact hc.apart n r0 c _ Ln L g1 h2 hn fQ h3 hk
theorem QCF {G:Gm} {F:Fr} {N:Nat} {σ:St} {ρ:Nm} {a:Act} {w:World} (hr:Rel G F N σ ρ a w) {c es:Nat} {cells:List SV} (hn:hpG σ.h c=some ⟨true,es,cells⟩) (hf:Qc3 cells=true):Rel G F N (QHI c es cells σ) (frN ρ c cells) a w:=by
 obtain ⟨vW,h0,hc⟩:=QkW hr.conc hn hf;exact ⟨hr.defers,hr.tmps,fun t=>by show VT _ (tmG (QB0 c es cells σ.tm) t) _;rw [QjF];exact QzQ vW h0 (hr.vals t),hc,hr.ids,hr.ext.trans (Qk8 ρ c cells),hr.dom⟩
inductive Fin (H:List Row) (Post:Res->Prop):St->TV->Prop
 | mk {σ:St} {v:TV} (R:Res) (m:Rn) (h1:Post R) (h2:TVm m v R.v) (h3:HlL m (hpG σ.h) (QxG R H)) (h4:(QzI H R.up&&Qyj R.nw&&idn m H.length&&ltB m (H.length+R.nw.length))=true):Fin H Post σ v
 | mv {σ:St} {v:TV} (R:Res) (m:Rn) (h1:Post R) (h2:TVm m v R.v) (h3:HlV m (hpG σ.h) (QxG R H)) (h4:(QzI H R.up&&Qyj R.nw&&idn m H.length&&ltB m (H.length+R.nw.length))=true):Fin H Post σ v
 | fr {σ:St} {v:TV} {c es:Nat} {cells:List SV} (hn:hpG σ.h c=some ⟨true,es,cells⟩) (hf:Qc3 cells=true) (h:Fin H Post (QHI c es cells σ) (frT c es cells v)):Fin H Post σ v
def QHG (T:Tys) (H:List Row) (Post:Res->Prop) (res:List ResultVar):Exit->St->Prop
 | .normal,σ=>Qov T σ res fun l=>Fin H Post σ (Qbc l)
 | .ret,σ=>Qov T σ res fun l=>Fin H Post σ (Qbc l)
 | _,_=>False
theorem Qfr {H:List Row}:∀ {l:List (Nat × Option Row)},QzI H l=true->∀ p∈l,(∃ r,H[p.1]?=some r/\r.own=true)/\∀ r,p.2=some r->r.own=true
 | [],_,p,hp=>by cases hp
 | q::l,h,p,hp=>by
  unfold QzI at h;rw [Bool.and_eq_true,Bool.and_eq_true] at h;rcases List.mem_cons.1 hp with rfl|hp
  .refine ⟨?_,fun r hr=>?_⟩
   .have:=h.1.1
    split at this
    .rename_i r hr;exact ⟨r,hr,this⟩
    .cases this
   .have:=h.1.2;rw [hr] at this;exact this
  .exact Qfr h.2 p hp
theorem Qff:∀ {l:List Row},Qyj l=true->∀ r∈l,r.own=true
 | [],_,r,hr=>by cases hr
 | q::l,h,r,hr=>by
  unfold Qyj at h;rw [Bool.and_eq_true] at h;rcases List.mem_cons.1 hr with rfl|hr
  .exact h.1
  .exact Qff h.2 r hr
theorem QxH {H:List Row} {Post:Res->Prop} {σ:St} {x:TV} (h:Fin H Post σ x):∀ {G:Gm} {F:Fr} {N:Nat} {ρ1:Nm} {a:Act} {w:World} {v:Value},G.k=H.length->Rel G F N σ ρ1 a w->VT ρ1 x v ->
  ∃ (R:Res) (ρ':Nm),Post R/\Ext G.ρ0 ρ'/\(∀ n,H.length+R.nw.length<=n->ρ' n=none)/\VT ρ' R.v v/\Conc F ρ' (R.app H) w /\
   (∀ p∈R.up,∃ r,H[p.1]?=some r/\r.own=true)/\(∀ r∈R.nw,r.own=true)/\(∀ p∈R.up,∀ r,p.2=some r->r.own=true):=by
 induction h with
 | mk R m g1 g2 g3 g4 =>
  intro G F N ρ1 a w v hk hr hv;rw [Bool.and_eq_true,Bool.and_eq_true,Bool.and_eq_true] at g4;obtain ⟨⟨⟨g5,g6⟩,g7⟩,g8⟩:=g4;have vQ:=Qfr g5;refine ⟨R,QgN m ρ1,g1,Qen g7 hk hr.dom hr.ext,fun n hn=>?_,Qg9 hv g2,?_,fun p hp=>(vQ p hp).1,Qff g6,fun p hp=>(vQ p hp).2⟩
  .rw [Qa8]
   cases e:QaX m n with
   | none=>rfl
   | some x =>
    have:=List.all_eq_true.1 g8 _ (QbH e);simp at this;omega
  .rw [<- Qeh R H (fun p hp=>by obtain ⟨r,hr,_⟩:=(vQ p hp).1;exact (List.getElem?_eq_some_iff.1 hr).1)]
   exact Qf1 hr.conc (Qmr g3)
 | mv R m g1 g2 g3 g4 =>
  intro G F N ρ1 a w v hk hr hv;rw [Bool.and_eq_true,Bool.and_eq_true,Bool.and_eq_true] at g4;obtain ⟨⟨⟨g5,g6⟩,g7⟩,g8⟩:=g4;have vQ:=Qfr g5;refine ⟨R,QgN m ρ1,g1,Qen g7 hk hr.dom hr.ext,fun n hn=>?_,Qg9 hv g2,?_,fun p hp=>(vQ p hp).1,Qff g6,fun p hp=>(vQ p hp).2⟩
  .rw [Qa8]
   cases e:QaX m n with
   | none=>rfl
   | some x =>
    have:=List.all_eq_true.1 g8 _ (QbH e);simp at this;omega
  .rw [<- Qeh R H (fun p hp=>by obtain ⟨r,hr,_⟩:=(vQ p hp).1;exact (List.getElem?_eq_some_iff.1 hr).1)]
   exact QeH hr.conc (Qqv g3)
 | fr hn hf h ih =>
  intro G F N ρ1 a w v hk hr hv;obtain ⟨vW,h0,_⟩:=QkW hr.conc hn hf;exact ih hk (QCF hr hn hf) (QzQ vW h0 hv)
theorem Qmn {P : Program} (hm : P.follows .mixedOrders = true) {T : Tys} (hT : QaU P T) {f : FuncId} {fn : Func} {c : Code} {args : List AV} {H : List Row} {Post : Res -> Prop} (N : Nat) (res : List ResultVar) (hf : P.funcs[f]? = some fn) (hn : (fn.name == "runtime.NumGoroutine") = false)
  (hb:fn.body=some c) (hN:fn.ntmps=N) (hres:fn.results.toList=res) (gF:(Nat.ble args.length N&&Nat.ble H.length 1000)=true) (h:vc P T N H.length c ⟨QkI 0 args,Qdb 0 H,[0]⟩ (QHG T H Post res)):Fn P f args H Post:=by
 rw [Bool.and_eq_true] at gF;have GV:=Nat.le_of_ble_eq_true gF.1;have hl2:=Nat.le_of_ble_eq_true gF.2;refine ⟨⟨fn,hf,hn,by rw [hb];rfl⟩,fun ρ w vs hdom hargs hc=>?_⟩;have hvl:vs.size=args.length:=by have:=hargs.1;simpa using this.symm
 refine calls_of_wp hf hb (wp_mono (Qu5 hm hT (G:=⟨ρ,H.length⟩) (F:=⟨w,Qhf H ρ,ρ.fr⟩) (N:=N) rfl c _ _ ρ _ w h ⟨rfl,by simp [hN];omega,fun t=>?_,?_,fun n hn=>?_,Ext.refl _,hdom⟩) fun e a' w' hq=>?_)
 .rw [Qi6]
  by_cases ht:t<args.length
  .rw [if_pos (Nat.zero_le _),Nat.sub_zero]
   obtain ⟨v,h1,h2⟩:=hargs.2 t _ (List.getElem?_eq_getElem ht);rw [List.getElem?_eq_getElem ht];have VP:vs[t]?=some v:=by simpa using h1
   have:(vs++Array.replicate (fn.ntmps-vs.size) undef).getD t undef=v:=by
    rw [Array.getD_eq_getD_getElem?,Array.getElem?_append_left (by omega),VP];rfl
   rw [this];exact h2
  .rw [if_pos (Nat.zero_le _),Nat.sub_zero,List.getElem?_eq_none (by omega)];exact trivial
 .have:hpG (Qdb 0 H)=Hs H:=by funext n;rw [Qdq];simp [Hs]
  rw [this];exact hc
 .have:n<H.length:=by
   rcases Nat.lt_or_ge n H.length with h|h
   .exact h
   .exact absurd (hdom n h) hn
  have:n / Qev=0:=Nat.div_eq_of_lt (by unfold Qev;omega);rw [this];simp
 .obtain ⟨σ,ρ1,hr,hq⟩:=hq
  have done:Qov T σ res (fun l=>Fin H Post σ (Qbc l))->bodyPost P fn (fun e w'=>∃ R v ρ',Post R/\e= .returned v/\Ext ρ ρ'/\(∀ n,H.length+R.nw.length<=n->ρ' n=none)/\VT ρ' R.v v/\Conc ⟨w,Qhf H ρ,ρ.fr⟩ ρ' (R.app H) w' /\
    (∀ p∈R.up,∃ r,H[p.1]?=some r/\r.own=true)/\(∀ r∈R.nw,r.own=true)/\(∀ p∈R.up,∀ r,p.2=some r->r.own=true)) .ret a' w':=by
   intro hq;obtain ⟨l,vs',h1,h2,_,h4⟩:=QmK hT hr res _ hq
   have fC:(results fn a'.tmps).run P w'= .ok (if h:vs'.toArray.size=1 then vs'.toArray[0] else .tuple vs'.toArray) w':=by
    rw [<- hres] at h4;rw [QnM,Array.mapM_eq_mapM_toList];simp only [Sem.run_bind,Sem.run_map,h4,Result.andThen_ok,Sem.run_pure]
   have hvt:VT ρ1 (Qbc l) (if h:vs'.toArray.size=1 then vs'.toArray[0] else .tuple vs'.toArray):=by
    rcases l with _|⟨x,_|⟨y,l⟩⟩
    .have:vs'= []:=by have:=h2.1;simpa using this.symm
     subst this;exact ⟨#[],rfl,h2⟩
    .obtain ⟨v,q1,q2⟩:=h2.2 0 x rfl
     have hl:vs'.length=1:=h2.1.symm;obtain ⟨_,rfl⟩:=List.length_eq_one_iff.1 hl;injection q1 with q1;subst q1
     exact q2
    .have hl:vs'.length=l.length+2:=h2.1.symm
     rw [dif_neg (by simp;omega)];exact ⟨vs'.toArray,rfl,h2⟩
   obtain ⟨R,ρ',g1,g2,g3,g4,g5,g6,g7,g8⟩:=QxH h1 (G:=⟨ρ,H.length⟩) rfl hr hvt;exact ⟨hr.defers,_,fC,R,_,ρ',g1,rfl,g2,g3,g4,g5,g6,g7,g8⟩
  cases e with
  | normal=>exact done hq
  | ret=>exact done hq
  | exit i=>exact hq.elim
  | goto i=>exact hq.elim
  | panic c=>exact hq.elim
  | outgrown=>exact hq.elim
end Go.Proofs.YtpgkkfajljekpabGreat
