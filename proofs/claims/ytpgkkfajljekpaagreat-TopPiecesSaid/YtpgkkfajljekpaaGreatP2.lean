import Derived.Test.YtpgkkfajljekpaaGreatP1
import Derived.Laws.Cover3
import Derived.Deep.LoopGhost
set_option linter.unusedSimpArgs false
set_option linter.unusedVariables false
set_option maxHeartbeats 0
set_option maxRecDepth 100000
namespace Go.Proofs.YtpgkkfajljekpaaGreat
open Go Go.RowKit
structure Res where
 v:TV
 up:List (Nat × Option Row)
 nw:List Row
def Hs (H:List Row):Hp:=fun n=>H[n]?
def Res.app (r:Res) (H:List Row):Hp:=fun n =>
 match Nat.ble H.length n with
 | true=>r.nw[n-H.length]?
 | false=>match QaW r.up n with
  | some x=>x
  | none=>H[n]?
def Qha (H:List Row) (ρ:Nm):Nat->Prop:=fun b=>∃ n r L,H[n]?=some r/\r.own=true/\ρ n=some (.at L)/\L.b=b
def Qvd (P : Program) (f : FuncId) : Prop := ∃ fn,P.funcs[f]? = some fn /\ (fn.name == "runtime.NumGoroutine") = false /\ fn.body.isSome = true
def Fn (P:Program) (f:FuncId) (args:List AV) (H:List Row) (Post:Res->Prop):Prop :=
 Qvd P f/\∀ (ρ:Nm) (w:World) (vs:Array Value),(∀ n,H.length<=n->ρ n=none)->VAs ρ args vs.toList->Conc ⟨w,Qha H ρ,ρ.fr⟩ ρ (Hs H) w ->
  Calls P f vs w fun e w'=>∃ R v ρ',Post R/\e= .returned v/\Ext ρ ρ'/\(∀ n,H.length+R.nw.length<=n->ρ' n=none)/\VT ρ' R.v v/\Conc ⟨w,Qha H ρ,ρ.fr⟩ ρ' (R.app H) w' /\
   (∀ p∈R.up,∃ r,H[p.1]?=some r/\r.own=true)/\(∀ r∈R.nw,r.own=true)/\(∀ p∈R.up,∀ r,p.2=some r->r.own=true)
structure Em where
 (n sh:Nat)
def Qc5 (m:List Em) (k n0 i:Nat):Em:=match m[i]? with
 | some e=>e
 | none=>⟨n0+(i-k)%Qap,0⟩
def QcM (m:List Em) (k n0:Nat):SV->SV
 | .ptr i o=> .ptr (Qc5 m k n0 i).n ((Qc5 m k n0 i).sh+o)
 | .sl i o n=> .sl (Qc5 m k n0 i).n ((Qc5 m k n0 i).sh+o) n
 | .fn f cap=> .fn f (cap.map fun p=>((Qc5 m k n0 p.1).n,(Qc5 m k n0 p.1).sh+p.2))
 | s=>s
def QcZ (m:List Em) (k n0:Nat):AV->AV
 | .s x=> .s (QcM m k n0 x)
 | .agg l=> .agg (l.map (QcM m k n0))
def QCv (m:List Em) (k n0:Nat):TV->TV
 | .unk=> .unk
 | .a x=> .a (QcZ m k n0 x)
 | .tup l=> .tup (l.map (QcZ m k n0))
def Qeq (m:List Em) (ρ:Nm):Nm:=⟨fun i=>match m[i]? with
 | some e=>match ρ e.n with
  | some (.at L)=>some (.at { L with δ:=L.δ+e.sh })
  | p=>p
 | none=>none,ρ.fr⟩
theorem Qfc (m:List Em) (ρ:Nm) (i:Nat):Qeq m ρ i=match m[i]? with
 | some e=>match ρ e.n with
  | some (.at L)=>some (.at { L with δ:=L.δ+e.sh })
  | p=>p
 | none=>none:=rfl
theorem Qk7 {m:List Em} {ρ:Nm} {i:Nat} {L:Loc} (h:Qeq m ρ i=some (.at L)):∃ e L0,m[i]?=some e/\ρ e.n=some (.at L0)/\L= { L0 with δ:=L0.δ+e.sh }:=by grind [Qfc,Qeq]
theorem Qit {m:List Em} {ρ:Nm} {i:Nat} {e:Em} {L:Loc} (h:m[i]?=some e) (h2:ρ e.n=some (.at L)):Qeq m ρ i=some (.at { L with δ:=L.δ+e.sh }):=by grind [Qfc,Qeq]
theorem QhC {m:List Em} {ρ:Nm} {i:Nat} {e:Em} (h:m[i]?=some e) (h2:ρ e.n=some .empty):Qeq m ρ i=some .empty:=by grind [Qfc,Qeq]
theorem QcH {m:List Em} {k n0 i:Nat} {e:Em} (h:m[i]?=some e):Qc5 m k n0 i=e:=by unfold Qc5;rw [h]
theorem Qlz {m:List Em} {k n0:Nat} {ρ:Nm} (hk:m.length=k) {s:SV} {v:Value} (hs:∀ i,k<=i->ρ (n0+(i-k)%Qap)=none) (h:VS ρ (QcM m k n0 s) v):VS (Qeq m ρ) s v:=by
 cases s<;>simp only [QcM,VS] at h |- <;>try exact h
 case ptr i o=>grind [List.getElem?_eq_none_iff,Qc5,QcH,Qit,Nat.add_assoc,Qap,VS,QcM,Qeq]
 case sl i o n=>grind [List.getElem?_eq_none_iff,Qc5,QcH,Qit,Nat.add_assoc,QhC,Qap,VS,QcM,Qeq]
 case fn f cap =>
  obtain ⟨vs,rfl,h1,h2⟩:=h;refine ⟨vs,rfl,by simpa using h1,fun j p hp=>?_⟩;obtain ⟨_,hL,h3⟩:=h2 j _ (by rw [List.getElem?_map,hp];rfl);simp only [] at hL h3
  cases e:m[p.1]? with
  | none=>grind [List.getElem?_eq_none_iff,Qc5,Qap,VS,QcM,Qeq]
  | some x=>grind [QcH,Qit,Nat.add_assoc,Qap,VS,QcM,Qeq]
theorem QuS {m:List Em} {k n0:Nat} {ρ:Nm} (hk:m.length=k) (hs:∀ i,k<=i->ρ (n0+(i-k)%Qap)=none) {l:List AV} {vs:List Value} (h:VAs ρ (l.map (QcZ m k n0)) vs):VAs (Qeq m ρ) l vs:=by
 refine ⟨by simpa using h.1,fun j s e=>?_⟩;obtain ⟨v,h1,h2⟩:=h.2 j _ (by rw [List.getElem?_map,e];rfl);refine ⟨v,h1,?_⟩
 cases s with
 | s x=>exact Qlz hk hs h2
 | agg l =>
  obtain ⟨cs,rfl,h3⟩:=h2
  exact ⟨cs,rfl,by simpa using h3.1,fun q s e=>by
   obtain ⟨v,h4,h5⟩:=h3.2 q _ (by rw [List.getElem?_map,e];rfl)
   exact ⟨v,h4,Qlz hk hs h5⟩⟩
def Qez (m:List Em) (n0:Nat) (H:List Row) (hp:Hp):Prop :=
 ∀ (i:Nat) (r:Row),H[i]?=some r->∃ (e:Em) (rc:Row),m[i]?=some e/\hp e.n=some rc/\rc.es=r.es/\(∀ (k:Nat) s,r.cells[k]?=some s->rc.cells[e.sh+k]?=some (QcM m H.length n0 s)) /\
  e.sh+r.cells.length<=rc.cells.length/\(r.own=true->rc.own=true/\e.sh=0/\rc.cells.length=r.cells.length/\∀ (j:Nat) (f:Em),m[j]?=some f->j≠i->f.n≠e.n)
theorem Qjd {F:Fr} {ρ:Nm} {hp:Hp} {w:World} {m:List Em} {n0:Nat} {H:List Row} (hc:Conc F ρ hp w) (hm:m.length=H.length) (hs:∀ i,H.length<=i->ρ (n0+(i-H.length)%Qap)=none) (hr:Qez m n0 H hp) :
  Conc ⟨w,Qha H (Qeq m ρ),ρ.fr⟩ (Qeq m ρ) (Hs H) w:=by
 refine ⟨fun i r hi=>?_,fun i r j s Li Lj h1 h2 h3 h4 h5 h6=>?_,fun i r L h1 h2 h3=> .inl ⟨i,r,L,h1,h2,h3,rfl⟩,rfl,rfl,rfl,Nat.le_refl _,fun _ _ _=>rfl,fun L c hf=>⟨(hc.frz L c hf).1,fun i r Li h1 h2 h3=>?_,.inl hf⟩⟩
 .obtain ⟨e,rc,h1,h2,h3,h4,h5,h6⟩:=hr i r hi
  have h7:=hc.rows _ _ h2;unfold RowOk at h7 |-
  cases e1:ρ e.n with
  | none=>grind
  | some p =>
   rw [e1] at h7
   cases p with
   | empty=>simp_all [QhC,List.eq_nil_of_length_eq_zero,Hp,Qap,Qez,Qha,Qeq,Hs]
   | «at» L =>
    rw [Qit h1 e1];obtain ⟨g1,_,c,t,fz,g3,g4,g5,g6⟩:=h7;refine ⟨g1.trans h3,by simp only [];omega,c,t,fz,g3,g4,fun ho=>g5 (h6 ho).1,fun k s hk=>?_⟩;obtain ⟨v,g7,g8⟩:=g6 _ _ (h4 k s hk);exact ⟨v,by simp only [];rw [Nat.add_assoc];exact g7,Qlz hm hs g8⟩
 .obtain ⟨e,rc,k1,k2,_,_,_,k6⟩:=hr i r h1
  obtain ⟨e',rc',k1',k2',_⟩:=hr j s h3;obtain ⟨e1,L1,q1,q2,rfl⟩:=Qk7 h5;obtain ⟨_,L2,p1,p2,rfl⟩:=Qk7 h6;rw [k1] at q1;injection q1 with q1;subst q1
  rw [k1'] at p1;injection p1 with p1;subst p1
  exact hc.apart e.n rc e'.n rc' L1 L2 k2 (k6 h2).1 k2' (fun q=>(k6 h2).2.2.2 j e' k1' (fun e=>h4 e.symm) q.symm) q2 p2
 .obtain ⟨e,rc,k1,k2,_,_,_,k6⟩:=hr i r h1
  obtain ⟨e1,L1,q1,q2,rfl⟩:=Qk7 h3;rw [k1] at q1;injection q1 with q1;subst q1
  exact (hc.frz L c hf).2.1 e.n rc L1 k2 (k6 h2).1 q2
def Qdw (m:List Em) (k n0:Nat) (r:Row):Row:= { r with cells:=r.cells.map (QcM m k n0) }
def nwN (m:List Em) (k n0:Nat):Nat->List Row->List (Nat × Row)
 | _,[]=> []
 | j,r::l=>(n0+j,Qdw m k n0 r)::nwN m k n0 (j+1) l
def upN (m:List Em) (k n0:Nat):List (Nat × Option Row)->List (Nat × Option Row)
 | []=> []
 | p::l=>((Qc5 m k n0 p.1).n,match p.2 with|some r=>some (Qdw m k n0 r)|none=>none)::upN m k n0 l
def Res.ef (R:Res) (m:List Em) (k n0:Nat):Ef:=⟨QCv m k n0 R.v,upN m k n0 R.up,nwN m k n0 0 R.nw⟩
theorem QtT (m:List Em) (k n0:Nat) (l:List Row) (j n:Nat):QaW (nwN m k n0 j l) n=if n0+j<=n then (l[n-(n0+j)]?).map (Qdw m k n0) else none:=by
 induction l generalizing j with
 | nil=>unfold nwN QaW;split<;>simp
 | cons r l ih=>grind [nwN,QaW,Nat.beq,Nat.eq_of_beq_eq_true,Nat.ne_of_beq_eq_false,Qdw]
theorem QtU (m:List Em) (k n0:Nat) (l:List (Nat × Option Row)) (n:Nat) (x:Option Row) (hinj:∀ p∈l,∀ q∈l,(Qc5 m k n0 p.1).n=(Qc5 m k n0 q.1).n->p.1=q.1)
  (h:QaW (upN m k n0 l) n=some x):∃ p∈l,(Qc5 m k n0 p.1).n=n/\QaW l p.1=some p.2/\x=p.2.map (Qdw m k n0):=by
 induction l with
 | nil=>cases h
 | cons p l ih =>
  unfold upN QaW at h;simp only [] at h
  cases hb:Nat.beq n (Qc5 m k n0 p.1).n with
  | true=>grind [Nat.eq_of_beq_eq_true,QaW,Nat.beq_refl,Qc5,upN,Qdw]
  | false=>grind [Nat.ne_of_beq_eq_false,QaW,Nat.beq,Qc5,Nat.eq_of_beq_eq_true,upN,Qdw]
theorem Qii (m:List Em) (k n0:Nat) (l:List (Nat × Option Row)) (n:Nat) (h:QaW (upN m k n0 l) n=none) (i:Nat) (hi:(Qc5 m k n0 i).n=n):QaW l i=none:=by
 induction l with
 | nil=>rfl
 | cons p l ih=>grind [upN,QaW,Nat.beq,Nat.eq_of_beq_eq_true,Nat.beq_refl,Qc5]
theorem Qgl {a b:Nat} (h:b<a):Nat.ble a b=false:=by
 cases e:Nat.ble a b with
 | false=>rfl
 | true=>exact absurd (Nat.le_of_ble_eq_true e) (by omega)
section
variable {F:Fr} {ρ ρ1:Nm} {hp:Hp} {w w':World} {m:List Em} {n0:Nat} {H:List Row} {R:Res}
def Qi1 (k n0 q:Nat) (ρ ρ1:Nm):Nm:=⟨fun n=>if n0<=n/\n<n0+q then ρ1 (k+(n-n0)) else ρ n,ρ1.fr⟩
theorem Qgj (k n0 q:Nat) (ρ ρ1:Nm) (n:Nat):Qi1 k n0 q ρ ρ1 n=if n0<=n/\n<n0+q then ρ1 (k+(n-n0)) else ρ n:=rfl
theorem QfU {k q:Nat} (hq:q<=Qap) (hf:∀ n,n0<=n->n<n0+Qap->ρ n=none) (jF:∀ L c,ρ.fr L c->ρ1.fr L c):Ext ρ (Qi1 k n0 q ρ ρ1):=⟨fun n p hn=>by
 rw [Qgj,if_neg]
 .exact hn
 .grind,jF⟩
theorem Qx8 {i:Nat} {p:PL} (hc:Conc F ρ hp w) (hm:m.length=H.length) (hs:∀ i,H.length<=i->ρ (n0+(i-H.length)%Qap)=none) (hr:Qez m n0 H hp) (hx:Ext (Qeq m ρ) ρ1) (h:ρ1 i=some p) (hi:i<H.length) :
  Qeq m ρ i=some p:=by
 have hcp:=Qjd hc hm hs hr;have:=hcp.rows i H[i] (by simp [Hs,hi]);unfold RowOk at this
 cases e:Qeq m ρ i with
 | none=>grind
 | some q=>rw [<- h];exact (hx i q e).symm
theorem Qsr (hc:Conc F ρ hp w) (hm:m.length=H.length) (hf:∀ n,n0<=n->n<n0+Qap->ρ n=none) (hr:Qez m n0 H hp) (hx:Ext (Qeq m ρ) ρ1) {q:Nat} (hq:q<=Qap) (hn:∀ n,H.length+q<=n->ρ1 n=none) {s:SV} {v:Value} (h:VS ρ1 s v) :
  VS (Qi1 H.length n0 q ρ ρ1) (QcM m H.length n0 s) v:=by
 have hs:∀ i,H.length<=i->ρ (n0+(i-H.length)%Qap)=none:=fun i _=>hf _ (by omega) (by have:=Nat.mod_lt (i-H.length) (show 0<Qap by unfold Qap;omega);omega)
 have key:∀ i p,ρ1 i=some p->(∃ L,p= .at L/\∃ L0,Qi1 H.length n0 q ρ ρ1 (Qc5 m H.length n0 i).n=some (.at L0)/\L.b=L0.b/\L.tot=L0.tot/\L.es=L0.es/\L.δ=L0.δ+(Qc5 m H.length n0 i).sh)\/(p= .empty/\Qi1 H.length n0 q ρ ρ1 (Qc5 m H.length n0 i).n=some .empty):=by
  intro i p hi
  by_cases h1:i<H.length
  .have h2:=Qx8 hc hm hs hr hx hi h1
   obtain ⟨e,he⟩:∃ e,m[i]?=some e:=⟨_,List.getElem?_eq_getElem (by omega)⟩;rw [QcH he];rw [Qfc] at h2;rw [he] at h2;simp only [] at h2
   cases e2:ρ e.n with
   | none=>grind
   | some y =>
    have hb:=(QfU (k:=H.length) (ρ1:=ρ1) hq hf hx.fr).nm e.n y e2;rw [e2] at h2
    cases y with
    | empty=>grind
    | «at» L0=>grind
  .have h2:i<H.length+q:=by
    rcases Nat.lt_or_ge i (H.length+q) with h|h
    .exact h
    .grind
   have e1:Qc5 m H.length n0 i=⟨n0+(i-H.length),0⟩:=by
    unfold Qc5;rw [List.getElem?_eq_none (by omega)];simp only [];rw [Nat.mod_eq_of_lt (by omega)]
   have e2:Qi1 H.length n0 q ρ ρ1 (n0+(i-H.length))=some p:=by grind [Qgj,Qap,Qez,Qeq,VS,Qi1,QcM]
   rw [e1]
   cases p with
   | empty=>grind
   | «at» L=>grind
 cases s<;>simp only [QcM,VS] at h |- <;>try exact h
 case ptr i o=>grind
 case sl i o n=>grind
 case fn f cap=>grind
end
theorem Qsn {ρ ρ':Nm} {f:SV->SV} (h:∀ s v,VS ρ s v->VS ρ' (f s) v) {m:List Em} {k n0:Nat} (hf:f=QcM m k n0) {x:AV} {v:Value} (hx:VA ρ x v):VA ρ' (QcZ m k n0 x) v:=by
 subst hf
 cases x with
 | s x=>exact h _ _ hx
 | agg l =>
  obtain ⟨cs,rfl,h3⟩:=hx
  exact ⟨cs,rfl,by simpa using h3.1,fun q s e=>by
   rw [List.getElem?_map] at e
   cases e0:l[q]? with
   | none=>grind
   | some s0 =>
    rw [e0] at e;injection e with e;subst e
    obtain ⟨v,h4,h5⟩:=h3.2 q _ e0
    exact ⟨v,h4,h _ _ h5⟩⟩
theorem QzL {ρ ρ':Nm} {m:List Em} {k n0:Nat} (h:∀ s v,VS ρ s v->VS ρ' (QcM m k n0 s) v) {x:TV} {v:Value} (hx:VT ρ x v):VT ρ' (QCv m k n0 x) v:=by
 cases x with
 | unk=>exact trivial
 | a x=>exact Qsn h rfl hx
 | tup l =>
  obtain ⟨cs,rfl,h3⟩:=hx
  exact ⟨cs,rfl,by simpa using h3.1,fun q s e=>by
   rw [List.getElem?_map] at e
   cases e0:l[q]? with
   | none=>grind
   | some s0 =>
    rw [e0] at e;injection e with e;subst e
    obtain ⟨v,h4,h5⟩:=h3.2 q _ e0
    exact ⟨v,h4,Qsn h rfl h5⟩⟩
theorem QdQ {ρ1 ρ':Nm} {w':World} {c n:Nat} {rr:Row} {f:SV->SV} (h:RowOk ρ1 w' c rr) (hn:ρ' n=ρ1 c) (hv:∀ s v,VS ρ1 s v->VS ρ' (f s) v) (r:Row) (wF:r.es=rr.es) (ho:r.own=true->rr.own=true)
  (hcells:∀ (k:Nat) s,r.cells[k]?=some s->∃ s0,rr.cells[k]?=some s0/\s=f s0) (hl:r.cells.length=rr.cells.length):RowOk ρ' w' n r:=by
 unfold RowOk at h |-;rw [hn]
 cases e:ρ1 c with
 | none=>grind
 | some p =>
  rw [e] at h
  cases p with
  | empty=>grind
  | «at» L =>
   obtain ⟨h1,h2,cs,t,fz,h3,h4,h5,h6⟩:=h;refine ⟨by rw [wF];exact h1,by rw [hl];exact h2,cs,t,fz,h3,h4,fun x=>h5 (ho x),fun k s hk=>?_⟩;obtain ⟨s0,g1,rfl⟩:=hcells k s hk;obtain ⟨v,g2,g3⟩:=h6 k s0 g1;exact ⟨v,g2,hv _ _ g3⟩
theorem QgH (l:List SV) (f:SV->SV) (k:Nat) (s:SV) (h:(l.map f)[k]?=some s):∃ s0,l[k]?=some s0/\s=f s0:=by grind
section
variable {F:Fr} {ρ ρ1:Nm} {hp:Hp} {w w':World} {m:List Em} {n0:Nat} {H:List Row} {R:Res}
theorem Qo1 (hc:Conc F ρ hp w) (hm:m.length=H.length) (hf:∀ n,n0<=n->n<n0+Qap->ρ n=none) (hr:Qez m n0 H hp) (hx:Ext (Qeq m ρ) ρ1) (hq:R.nw.length<=Qap) (hn:∀ n,H.length+R.nw.length<=n->ρ1 n=none)
  (h:Conc ⟨w,Qha H (Qeq m ρ),ρ.fr⟩ ρ1 (R.app H) w') (vY:∀ p∈R.up,∃ r,H[p.1]?=some r/\r.own=true) (hnw:∀ r∈R.nw,r.own=true) (hup2:∀ p∈R.up,∀ r,p.2=some r->r.own=true) :
  Conc F (Qi1 H.length n0 R.nw.length ρ ρ1) ((R.ef m H.length n0).app hp) w':=by
 have hs:∀ i,H.length<=i->ρ (n0+(i-H.length)%Qap)=none:=fun i _=>hf _ (by omega) (by have:=Nat.mod_lt (i-H.length) (show 0<Qap by unfold Qap;omega);omega)
 have hv:∀ s v,VS ρ1 s v->VS (Qi1 H.length n0 R.nw.length ρ ρ1) (QcM m H.length n0 s) v:=fun s v=>Qsr hc hm hf hr hx hq hn
 have own:∀ i r,H[i]?=some r->r.own=true->∃ e rc,m[i]?=some e/\e.sh=0/\hp e.n=some rc/\rc.own=true/\rc.es=r.es/\rc.cells.length=r.cells.length /\
   (∀ (k:Nat) s,r.cells[k]?=some s->rc.cells[k]?=some (QcM m H.length n0 s))/\Qi1 H.length n0 R.nw.length ρ ρ1 e.n=ρ1 i/\ρ e.n=Qeq m ρ i/\∀ (j:Nat) (f:Em),m[j]?=some f->j≠i->f.n≠e.n:=by
  intro i r hi ho;obtain ⟨e,rc,h1,h2,h3,h4,h5,h6⟩:=hr i r hi;obtain ⟨h7,h8,h9,jZ⟩:=h6 ho;have gT:i<H.length:=(List.getElem?_eq_some_iff.1 hi).1
  have hpe:Qeq m ρ i=ρ e.n:=by
   rw [Qfc];rw [h1];simp only [h8,Nat.add_zero]
   cases ρ e.n with
   | none=>rfl
   | some p=>cases p<;>rfl
  refine ⟨e,rc,h1,h8,h2,h7,h3,h9,fun k s hk=>by have:=h4 k s hk;rw [h8,Nat.zero_add] at this;exact this,?_,hpe.symm,jZ⟩;have qL:=hc.rows _ _ h2;unfold RowOk at qL
  cases e1:ρ e.n with
  | none=>grind
  | some p=>rw [(QfU hq hf hx.fr).nm _ p e1];exact (hx.nm i p (hpe.trans e1)).symm
 have cls:∀ n r,(R.ef m H.length n0).app hp n=some r->(∃ c rr,R.app H c=some rr/\rr.own=true/\r.own=true/\Qi1 H.length n0 R.nw.length ρ ρ1 n=ρ1 c/\RowOk (Qi1 H.length n0 R.nw.length ρ ρ1) w' n r /\
    ((n0<=n/\n<n0+R.nw.length/\c=H.length+(n-n0))\/(c<H.length/\∃ (e:Em) (q:Row),m[c]?=some e/\e.n=n/\H[c]?=some q/\q.own=true))) \/
   (hp n=some r/\Qi1 H.length n0 R.nw.length ρ ρ1 n=ρ n/\∀ (i:Nat) (q:Row) (e:Em),H[i]?=some q->q.own=true->m[i]?=some e->e.n≠n):=by
  intro n r wL;unfold Ef.app at wL;have hl:=QtT m H.length n0 R.nw 0 n;rw [Nat.add_zero] at hl
  by_cases h1:n0<=n/\n<n0+R.nw.length
  .
   left;obtain ⟨rr,hrr⟩:∃ rr,R.nw[n-n0]?=some rr:=⟨_,List.getElem?_eq_getElem (by omega)⟩
   have e1:QaW (R.ef m H.length n0).nw n=some (Qdw m H.length n0 rr):=by
    show QaW (nwN m H.length n0 0 R.nw) n=_;rw [hl,if_pos h1.1,hrr];rfl
   rw [e1] at wL;injection wL with wL;subst wL
   have e2:R.app H (H.length+(n-n0))=some rr:=by grind [Res.app,Nat.ble_eq_true_of_le,Qap,Qez,Qeq,Qha,Qi1]
   have e3:Qi1 H.length n0 R.nw.length ρ ρ1 n=ρ1 (H.length+(n-n0)):=by rw [Qgj];rw [if_pos h1]
   have ho:=hnw rr (List.mem_of_getElem? hrr);exact ⟨_,rr,e2,ho,ho,e3,QdQ (h.rows _ _ e2) e3 hv _ rfl (fun x=>x) (fun k s hk=>QgH _ _ k s hk) (by simp [Qdw]),.inl ⟨h1.1,h1.2,rfl⟩⟩
  .have e1:QaW (R.ef m H.length n0).nw n=none:=by
    show QaW (nwN m H.length n0 0 R.nw) n=_;rw [hl];split
    .grind
    .rfl
   rw [e1] at wL;simp only [] at wL;have e3:Qi1 H.length n0 R.nw.length ρ ρ1 n=ρ n:=by rw [Qgj];rw [if_neg h1]
   cases e2:QaW (R.ef m H.length n0).up n with
   | some x =>
    rw [e2] at wL;simp only [] at wL;subst wL
    obtain ⟨p,g1,g2,g3,g4⟩:=QtU m H.length n0 R.up n _ (fun p fY q KP e=>by
     obtain ⟨rp,p1,p2⟩:=vY p fY;obtain ⟨_,q1,q2⟩:=vY q KP;obtain ⟨ep,_,p3,_,_,_,_,_,_,_,_,p4⟩:=own _ _ p1 p2;obtain ⟨_,_,q3,_⟩:=own _ _ q1 q2;rw [QcH p3,QcH q3] at e;rcases Nat.decEq p.1 q.1 with fJ|ZT
     .grind
     .grind) e2
    obtain ⟨rp,p1,p2⟩:=vY p g1;obtain ⟨ep,rc,p3,_,_,_,_,_,_,p5,_,_⟩:=own _ _ p1 p2;rw [QcH p3] at g2;subst g2
    cases e4:p.2 with
    | none=>grind
    | some rr =>
     rw [e4] at g3 g4;injection g4 with g4
     subst g4;have gT:p.1<H.length:=(List.getElem?_eq_some_iff.1 p1).1
     have e5:R.app H p.1=some rr:=by
      unfold Res.app;rw [Qgl gT];simp only [g3]
     have ho:=hup2 p g1 rr e4;exact .inl ⟨p.1,rr,e5,ho,ho,p5,QdQ (h.rows _ _ e5) p5 hv _ rfl (fun x=>x) (fun k s hk=>QgH _ _ k s hk) (by simp [Qdw]),.inr ⟨gT,ep,rp,p3,rfl,p1,p2⟩⟩
   | none =>
    rw [e2] at wL;simp only [] at wL
    by_cases jV:∃ (i:Nat) (q:Row) (e:Em),H[i]?=some q/\q.own=true/\m[i]?=some e/\e.n=n
    .obtain ⟨i,q,e,k1,k2,k3,rfl⟩:=jV
     obtain ⟨_,rc,p3,_,p4,p6,p7,p8,p9,p5,_,_⟩:=own _ _ k1 k2;rw [k3] at p3;injection p3 with p3;subst p3
     rw [p4] at wL;injection wL with wL;subst wL
     have gT:i<H.length:=(List.getElem?_eq_some_iff.1 k1).1
     have e5:R.app H i=some q:=by
      unfold Res.app;rw [Qgl gT];simp only [Qii m H.length n0 R.up _ e2 i (by rw [QcH k3])];exact k1
     refine .inl ⟨i,q,e5,k2,p6,p5,QdQ (h.rows _ _ e5) p5 hv _ p7 (fun _=>k2) (fun k s hk=>?_) p8,.inr ⟨gT,e,q,k3,rfl,k1,k2⟩⟩;have WM:k<q.cells.length:=by rw [<- p8];exact (List.getElem?_eq_some_iff.1 hk).1
     refine ⟨q.cells[k],List.getElem?_eq_getElem WM,?_⟩;have:=p9 k _ (List.getElem?_eq_getElem WM);rw [hk] at this;injection this
    .grind
 have oth:∀ n r L,hp n=some r->(∀ (i:Nat) (q:Row) (e:Em),H[i]?=some q->q.own=true->m[i]?=some e->e.n≠n)->ρ n=some (.at L)->L.b<w.heap.size/\¬ Qha H (Qeq m ρ) L.b:=by
  intro n r L h1 h2 h3;refine ⟨(hc.rows n r h1).lt h3,?_⟩;rintro ⟨i,q,Li,g1,g2,g3,g4⟩;obtain ⟨e,rc,p1,_,p2,p3,_,_,_,_,p4,_⟩:=own i q g1 g2;exact hc.apart e.n rc n r Li L p2 p3 h1 (h2 i q e g1 g2 p1) (p4.trans g3) h3 g4
 have cOwn:∀ b,Qha H (Qeq m ρ) b->F.O b\/F.w0.heap.size<=b:=by
  rintro b ⟨i,q,Li,g1,g2,g3,rfl⟩;obtain ⟨e,rc,p1,_,p2,p3,_,_,_,_,p4,_⟩:=own i q g1 g2;exact hc.mine e.n rc Li p2 p3 (p4.trans g3)
 have cMine:∀ c rr L,R.app H c=some rr->rr.own=true->ρ1 c=some (.at L)->Qha H (Qeq m ρ) L.b\/w.heap.size<=L.b:=fun c rr L h1 h2 h3=>h.mine c rr L h1 h2 h3
 have blk:∀ b,b<w.heap.size->¬ Qha H (Qeq m ρ) b->w'.heap[b]?=w.heap[b]?:=fun b h1 h2=>h.block b h1 h2
 have cInj:∀ n1 n2 c,((n0<=n1/\n1<n0+R.nw.length/\c=H.length+(n1-n0))\/(c<H.length/\∃ (e:Em) (q:Row),m[c]?=some e/\e.n=n1/\H[c]?=some q/\q.own=true))->((n0<=n2/\n2<n0+R.nw.length/\c=H.length+(n2-n0))\/(c<H.length/\∃ (e:Em) (q:Row),m[c]?=some e/\e.n=n2/\H[c]?=some q/\q.own=true))->n1=n2:=by grind
 refine ⟨fun n r wL=>?_,fun n r n' r' L L' h1 h2 h3 h4 h5 h6=>?_,fun n r L h1 h2 h3=>?_,h.os.trans hc.os,h.tape.trans hc.tape,h.output.trans hc.output,Nat.le_trans hc.size h.size,fun b hb qJ=>?_,fun L c hfz=>?_⟩
 .rcases cls n r wL with ⟨c,rr,_,_,_,_,g,_⟩|⟨g1,g2,g3⟩
  .exact g
  .have g4:=(hc.rows n r g1)
   refine RowOk.ext (QfU hq hf hx.fr) (g4.of_block fun L hL=>?_);obtain ⟨q1,q2⟩:=oth n r L g1 g3 hL;exact blk _ q1 q2
 .rcases cls n r h1 with ⟨c,rr,a1,a2,_,a3,_,a4⟩|⟨a1,a2,a3⟩<;>rcases cls n' r' h3 with ⟨c',rr',b1,b2,_,b3,_,b4⟩|⟨b1,b2,b3⟩
  .refine h.apart c rr c' rr' L L' a1 a2 b1 (fun e=>?_) (a3 ▸ h5) (b3 ▸ h6)
   subst e;exact h4 (cInj n n' c a4 b4)
  .rw [b2] at h6
   obtain ⟨q1,q2⟩:=oth n' r' L' b1 b3 h6;rw [a3] at h5;rcases cMine c rr L a1 a2 h5 with g|g
   .exact fun e=>q2 (e ▸ g)
   .omega
  .rw [a2] at h5
   obtain ⟨q1,q2⟩:=oth n r L a1 a3 h5;rw [b3] at h6;rcases cMine c' rr' L' b1 b2 h6 with g|g
   .exact fun e=>q2 (e ▸ g)
   .omega
  .rw [a2] at h5;rw [b2] at h6
   exact hc.apart n r n' r' L L' a1 h2 b1 h4 h5 h6
 .rcases cls n r h1 with ⟨c,rr,a1,a2,_,a3,_,a4⟩|⟨a1,a2,a3⟩
  .rw [a3] at h3
   rcases cMine c rr L a1 a2 h3 with g|g
   .exact cOwn _ g
   .exact .inr (Nat.le_trans hc.size g)
  .rw [a2] at h3;exact hc.mine n r L a1 h2 h3
 .have h1:b<w.heap.size:=Nat.lt_of_lt_of_le hb hc.size
  rw [blk b h1 (fun g=>by rcases cOwn b g with g|g;exact qJ g;omega)];exact hc.block b hb qJ
 .obtain ⟨f1,f2,f3⟩:=h.frz L c hfz
  refine ⟨f1,fun n r Ln h1 h2 h3=>?_,?_⟩
  .rcases cls n r h1 with ⟨c',rr,a1,a2,_,a3,_,a4⟩|⟨a1,a2,a3⟩
   .exact f2 c' rr Ln a1 a2 (a3 ▸ h3)
   .rw [a2] at h3
    obtain ⟨q1,q2⟩:=oth n r Ln a1 a3 h3;rcases f3 with g|g|g
    .exact (hc.frz L c g).2.1 n r Ln a1 h2 h3
    .exact fun e=>q2 (e ▸ g)
    .have g:w.heap.size<=L.b:=g
     omega
  .rcases f3 with g|g|g
   .exact (hc.frz L c g).2.2
   .rcases cOwn L.b g with g|g
    .exact .inr (.inl g)
    .exact .inr (.inr g)
   .have g:w.heap.size<=L.b:=g
    exact .inr (.inr (Nat.le_trans hc.size g))
end
def avs (tv:Operand->TV):List Operand->Option (List AV)
 | []=>some []
 | x::l=>match tv x with
  | .a u=>match avs tv l with
   | some r=>some (u::r)
   | none=>none
  | _=>none
theorem QAZ {tv:Operand->TV} {ρ:Nm} {a:Act}:∀ (l:List Operand) (r:List AV),avs tv l=some r->(∀ x∈l,VT ρ (tv x) (a.eval x))->VAs ρ r (l.map a.eval):=by
 intro l
 induction l with
 | nil=>intro r h _;injection h with h;subst h;exact ⟨rfl,fun k s e=>by cases e⟩
 | cons x l ih =>
  intro r h hv;unfold avs at h;have hx:=hv x (by simp)
  cases e1:tv x with
  | unk=>grind
  | tup _=>grind
  | a u =>
   rw [e1] at h hx;simp only [] at h
   cases e2:avs tv l with
   | none=>grind
   | some q =>
    rw [e2] at h;injection h with h;subst h
    obtain ⟨g1,_⟩:=ih q e2 (fun y hy=>hv y (by simp [hy]));refine ⟨by simp [g1],fun k s hs=>?_⟩
    cases k with
    | zero=>simp at hs;subst hs;exact ⟨_,rfl,hx⟩
    | succ k=>grind
def Qod (cap:List (Nat × Nat)):List AV:=cap.map fun p=> .s (.ptr p.1 p.2)
variable {P:Program} {o:Oper} {tv:Operand->TV} {n0:Nat}
theorem Quw (c:Call) (fo:Operand) (f:FuncId) (cap:List (Nat × Nat)) (l args:List AV) (m:List Em) (H:List Row) (Post:Res->Prop) (fp:List (Nat × Row)) (ho:o.op= .call c) (fC:c.callee= .value fo) (FI:tv fo= .a (.s (.fn (.func f) cap)))
  (hl:avs tv c.args.toList=some l) (ha:l++Qod cap=args.map (QcZ m H.length n0)) (hF:Fn P f args H Post) (hm:m.length=H.length) (hr:∀ hp:Hp,(∀ p∈fp,hp p.1=some p.2)->Qez m n0 H hp) (hq:∀ R,Post R->R.nw.length<=Qap) :
  SemOp P o tv n0 fp (fun e=>∃ R,Post R/\e=R.ef m H.length n0):=by
 intro F ρ hp a w Q K h1 hc hf jF hK;obtain ⟨⟨fn,g1,g2,g3⟩,hF⟩:=hF;have hr':=hr hp hf;have hs:∀ i,H.length<=i->ρ (n0+(i-H.length)%Qap)=none:=fun i _=>jF _ (by omega) (by have:=Nat.mod_lt (i-H.length) (show 0<Qap by unfold Qap;omega);omega)
 have hfv:=QaV h1 (by rw [ho];simp [Op.operands,Call.operands,fC]) FI;obtain ⟨caps,e1,e2,e3⟩:=hfv;have hav:=QAZ (ρ:=ρ) (a:=a) _ _ hl (fun x hx=>h1 x (by rw [ho];simp only [Op.operands,Call.operands,fC,Array.mem_append];exact .inr (by simpa using hx)))
 have KA:VAs ρ (l++Qod cap) ((c.args.map a.eval)++caps).toList:=by
  have hl2:l.length=c.args.size:=by have:=hav.1;simpa using this
  refine ⟨by simp [Qod,hl2,e2],fun k s hk=>?_⟩;rw [Array.toList_append]
  by_cases WM:k<l.length
  .rw [List.getElem?_append_left WM] at hk
   obtain ⟨v,q1,q2⟩:=hav.2 k s hk;exact ⟨v,by rw [List.getElem?_append_left (by simp;omega)];simpa using q1,q2⟩
  .rw [List.getElem?_append_right (by omega)] at hk
   unfold Qod at hk;rw [List.getElem?_map] at hk
   cases e4:cap[k-l.length]? with
   | none=>grind
   | some p =>
    rw [e4] at hk;injection hk with hk;subst hk
    obtain ⟨L,q1,q2⟩:=e3 _ p e4;exact ⟨_,by rw [List.getElem?_append_right (by simp;omega)];simpa [hl2] using q2,⟨L,q1,rfl⟩⟩
 rw [ha] at KA;have hcalls:=hF (Qeq m ρ) w (c.args.map a.eval++caps) (fun n hn=>by rw [Qfc];rw [List.getElem?_eq_none (by omega)]) (QuS hm hs KA) (Qjd hc hm hs hr');unfold Oper.wp
 have hrun:(execOp a.eval o).run P w= .ok (.enter f (c.args.map a.eval++caps)) w:=by
  unfold execOp;rw [ho];have g2' : ¬ fn.name = "runtime.NumGoroutine" := by simpa using g2
  have g3':¬ fn.body=none:=by intro e;rw [e] at g3;cases g3
  simp [resolve,fC,Deferred.ofValue,e1,invoke,callFunc,program,Sem.run,g1,g2',g3']
 rw [hrun,Oper.upon_enter];refine Calls.mono hcalls fun e w' hpost=>?_
 obtain ⟨R,v,ρ1,p1,rfl,p2,p3,p4,p5,p6,p7,p8⟩:=hpost;have KP:=hq R p1
 exact hK _ (Qi1 H.length n0 R.nw.length ρ ρ1) v w' ⟨R,p1,rfl⟩ (QfU KP jF p2.fr) (fun n fJ=>by rw [Qgj];rw [if_neg];rintro ⟨q1,q2⟩;exact fJ ⟨q1,by omega⟩)
  (QzL (fun s v=>Qsr hc hm jF hr' p2 KP p3) p4) (Qo1 hc hm jF hr' p2 KP p3 p5 p6 p7 p8)
abbrev KK:=List (Nat × Row)->Ef->Prop
def vv (x:AV):Ef:=⟨.a x,[],[]⟩
def vs1 (x:SV):Ef:=⟨.a (.s x),[],[]⟩
inductive Sd (p K:Prop):Prop
 | mk (h:p) (k:K)
inductive Vl {α:Type} (e:α) (K:α->Prop):Prop
 | mk (z:α) (h:e=z) (k:K z)
inductive Ge {α:Type} (e:Option α) (K:α->Prop):Prop
 | mk (z:α) (h:e=some z) (k:K z)
inductive Sg (cells:List SV) (o n:Nat) (K:List SV->Prop):Prop
 | mk (l:List SV) (h:l.length=n/\∀ (j:Nat) s,l[j]?=some s->cells[o+j]?=some s) (k:K l)
inductive Sk (cells:List SV) (o n:Nat) (K:List SV->Prop):Prop
 | mk (l:List SV) (h:l.length=n/\Qat l=true/\∀ (j:Nat) s,l[j]?=some s->cells[o+j]?=some s) (k:K l)
inductive Br (b:Bool) (A B:Prop):Prop
 | mk (t:b=true->A) (f:b=false->B)
inductive Gd (b want nw:Bool) (A B:Prop):Prop
 | mk (t:b=want->A) (f:b=nw->B)
def fB (b:Bool) (K:Bool->Prop):Prop:=match b with
 | true=>K true
 | false=>K false
theorem Qp0 (b:Bool) (K:Bool->Prop):fB b K↔K b:=by cases b<;>exact Iff.rfl
def QCU (op:BinOp) (k:IntKind) (m:Int) (k':IntKind) (n:Int) (K:SV->Prop):Prop :=
 match op with
 | .shl=>Sd (0<=n) (Vl (k.wrap (m*2^min n.toNat k.bits)) fun z=>K (.int k z))
 | .shr=>Sd (0<=n) (Vl (m / 2^min n.toNat k.bits) fun z=>K (.int k z))
 | .quo=>Sd (k=k') (Sd (n≠0) (Vl (k.wrap (m.tdiv n)) fun z=>K (.int k z)))
 | .rem=>Sd (k=k') (Sd (n≠0) (Vl (m.tmod n) fun z=>K (.int k z)))
 | .add=>Sd (k=k') (Vl (k.wrap (m+n)) fun z=>K (.int k z))
 | .sub=>Sd (k=k') (Vl (k.wrap (m-n)) fun z=>K (.int k z))
 | .mul=>Sd (k=k') (Vl (k.wrap (m*n)) fun z=>K (.int k z))
 | .and=>Sd (k=k') (Vl (bits .and k m n) fun z=>K (.int k z))
 | .or=>Sd (k=k') (Vl (bits .or k m n) fun z=>K (.int k z))
 | .xor=>Sd (k=k') (Vl (bits .xor k m n) fun z=>K (.int k z))
 | .andNot=>Sd (k=k') (Vl (bits .andNot k m n) fun z=>K (.int k z))
 | .eql=>Sd (k=k') (Vl ((m==n)) fun z=>K (.bool z))
 | .neq=>Sd (k=k') (Vl ((m !=n)) fun z=>K (.bool z))
 | .lss=>Sd (k=k') (Vl (decide (m<n)) fun z=>K (.bool z))
 | .leq=>Sd (k=k') (Vl (decide (m<=n)) fun z=>K (.bool z))
 | .gtr=>Sd (k=k') (Vl (decide (m>n)) fun z=>K (.bool z))
 | .geq=>Sd (k=k') (Vl (decide (m>=n)) fun z=>K (.bool z))
def QCX (op:BinOp) (m n:ByteArray) (K:SV->Prop):Prop :=
 match op with
 | .add=>Sd (m.size+n.size<=9223372036854775807) (Vl (m++n) fun z=>K (.str z))
 | .eql=>Vl ((m.toList==n.toList)) fun z=>K (.bool z)
 | .neq=>Vl ((!(m.toList==n.toList))) fun z=>K (.bool z)
 | _=>False
def QAM (P:Program) (t:TypeId) (l l':List SV) (b:Bool):Prop :=
 ∀ (ρ:Nm) (w:World) (cs cs':Array Value) (x y:Operand),VSs ρ l cs.toList->VSs ρ l' cs'.toList ->
  (eqGuard .eql t x y (.agg cs) (.agg cs')).run P w= .ok () w/\(eqGuard .neq t x y (.agg cs) (.agg cs')).run P w= .ok () w /\
  (binOp .eql t (.agg cs) (.agg cs')).run P w= .ok (.bool b) w/\(binOp .neq t (.agg cs) (.agg cs')).run P w= .ok (.bool !b) w
inductive Eqs (P:Program) (t:TypeId) (l l':List SV) (K:Bool->Prop):Prop
 | mk (b:Bool) (h:QAM P t l l' b) (k:K b)
inductive Ns (det:Bool) (n:Nat) (K:Bool->Prop):Prop
 | any (hd:det=false) (h:∀ b:Bool,(b=true->n=0)->K b)
 | pos (hn:0<n) (k:K false)
def QCT (P:Program) (T:Tys) (det:Bool) (op:BinOp) (t:TypeId) (x y:TV) (K:SV->Prop):Prop :=
 match x,y with
 | .a (.s (.int k m)),.a (.s (.int k' n))=>QCU op k m k' n K
 | .a (.s (.str m)),.a (.s (.str n))=>QCX op m n K
 | .a (.s (.bool m)),.a (.s (.bool n))=>(match T t with
  | some ty=>ty.kind= .bool/\(match op with
   | .eql=>Vl ((m==n)) fun z=>K (.bool z)
   | .neq=>Vl ((!(m==n))) fun z=>K (.bool z)
   | _=>False)
  | none=>False)
 | .a (.agg l),.a (.agg l')=>(match op with
  | .eql=>Eqs P t l l' fun b=>K (.bool b)
  | .neq=>Eqs P t l l' fun b=>K (.bool !b)
  | _=>False)
 | .a (.s (.sl _ _ n)),.a (.s .nilsl)=>(match T t with
  | some y=>(match y.kind with
   | .slice _=>(match op with
    | .eql=>Ns det n fun b=>K (.bool b)
    | .neq=>Ns det n fun b=>Vl (!b) fun b=>K (.bool b)
    | _=>False)
   | _=>False)
  | none=>False)
 | .a (.s .nilsl),.a (.s .nilsl)=>(match T t with
  | some y=>(match y.kind with
   | .slice _=>(match op with
    | .eql=>K (.bool true)
    | .neq=>K (.bool false)
    | _=>False)
   | _=>False)
  | none=>False)
 | _,_=>False
def vUn (op:UnOp) (x:TV) (K:SV->Prop):Prop :=
 match op,x with
 | .not,.a (.s (.bool b))=>Vl ((!b)) fun z=>K (.bool z)
 | .neg,.a (.s (.int k n))=>Vl (k.wrap (0-n)) fun z=>K (.int k z)
 | .xor,.a (.s (.int k n))=>Vl (bits .xor k (if k.signed then -1 else k.max) n) fun z=>K (.int k z)
 | _,_=>False
def QAr (hp:Hp):List (Nat × Row)->Prop
 | []=>True
 | p::l=>hp p.1=some p.2/\QAr hp l
theorem QtG {hp:Hp} {l:List (Nat × Row)} (h:QAr hp l):∀ p∈l,hp p.1=some p.2:=by
 induction l with
 | nil=>grind
 | cons a l ih =>
  intro p hp;rcases List.mem_cons.1 hp with rfl|hp
  .exact h.1
  .exact ih h.2 p hp
def Qd8 (mm:List Em) (k n0 i:Nat) (e:Em) (r rc:Row):Prop :=
 rc.es=r.es/\(∀ (q:Nat) s,r.cells[q]?=some s->rc.cells[e.sh+q]?=some (QcM mm k n0 s))/\e.sh+r.cells.length<=rc.cells.length /\
  (r.own=true->rc.own=true/\e.sh=0/\rc.cells.length=r.cells.length/\∀ (j:Nat) (f:Em),mm[j]?=some f->j≠i->f.n≠e.n)
def QhQ (mm:List Em) (k n0:Nat):Nat->List Em->List Row->List (Nat × Row)->Prop
 | _,[],[],[]=>True
 | i,e::m,r::H,p::fp=>p.1=e.n/\Qd8 mm k n0 i e r p.2/\QhQ mm k n0 (i+1) m H fp
 | _,_,_,_=>False
theorem QgT {mm:List Em} {k n0:Nat}:∀ {i:Nat} {m:List Em} {H:List Row} {fp:List (Nat × Row)},QhQ mm k n0 i m H fp->m.length=H.length
 | _,[],[],[],_=>rfl
 | _,_::m,_::H,_::fp,h=>by have:=QgT h.2.2;simp [this]
 | _,[],_::_,_,h=>h.elim
 | _,[],[],_::_,h=>h.elim
 | _,_::_,[],_,h=>h.elim
 | _,_::_,_::_,[],h=>h.elim
theorem QgU {mm:List Em} {k n0:Nat}:∀ {i:Nat} {m:List Em} {H:List Row} {fp:List (Nat × Row)},QhQ mm k n0 i m H fp->∀ e∈m,∃ p∈fp,p.1=e.n
 | _,[],_,_,_=>fun e he=>by cases he
 | _,x::m,_::H,p::fp,h=>fun e he=>by
  rcases List.mem_cons.1 he with rfl|he
  .exact ⟨p,by simp,h.1⟩
  .obtain ⟨q,h1,h2⟩:=QgU h.2.2 e he
   exact ⟨q,by simp [h1],h2⟩
 | _,_::_,[],_,h=>h.elim
 | _,_::_,_::_,[],h=>h.elim
theorem QjQ {mm:List Em} {k n0:Nat} {hp:Hp}:∀ {i:Nat} {m:List Em} {H:List Row} {fp:List (Nat × Row)},QhQ mm k n0 i m H fp->(∀ p∈fp,hp p.1=some p.2) ->
  ∀ (j:Nat) (r:Row),H[j]?=some r->∃ (e:Em) (rc:Row),m[j]?=some e/\hp e.n=some rc/\Qd8 mm k n0 (i+j) e r rc
 | _,[],[],_,_,_=>fun j r h=>by cases h
 | i,e::m,x::H,p::fp,h,hf=>fun j r hj=>by
  cases j with
  | zero=>injection hj with hj;subst hj;exact ⟨e,p.2,rfl,by rw [<- h.1];exact hf p (by simp),h.2.1⟩
  | succ j =>
   obtain ⟨e',rc,h1,h2,h3⟩:=QjQ h.2.2 (fun q hq=>hf q (by simp [hq])) j r hj;exact ⟨e',rc,h1,h2,by rw [show i+(j+1)=i+1+j by omega];exact h3⟩
 | _,[],_::_,_,h,_=>h.elim
 | _,_::_,[],_,h,_=>h.elim
 | _,_::_,_::_,[],h,_=>h.elim
theorem Qum {m:List Em} {n0:Nat} {H:List Row} {fp:List (Nat × Row)} (h:QhQ m H.length n0 0 m H fp) (hp:Hp) (hf:∀ p∈fp,hp p.1=some p.2):Qez m n0 H hp:=fun i r hi=>by
 obtain ⟨e,rc,h1,h2,h3,h4,h5,h6⟩:=QjQ h hf i r hi;rw [Nat.zero_add] at h6;exact ⟨e,rc,h1,h2,h3,h4,h5,h6⟩
def fS (s:SV) (K:SV->Prop):Prop:=match s with
 | .unk=>K .unk
 | .bool b=>K (.bool b)
 | .int k n=>K (.int k n)
 | .str s=>K (.str s)
 | .nil=>K .nil
 | .ptr i o=>K (.ptr i o)
 | .nilsl=>K .nilsl
 | .sl i o n=>K (.sl i o n)
 | .fn f c=>K (.fn f c)
 | .fz es n c=>K (.fz es n c)
theorem QvI (s:SV) (K:SV->Prop):fS s K↔K s:=by cases s<;>exact Iff.rfl
def fL:List SV->(List SV->Prop)->Prop
 | [],K=>K []
 | s::l,K=>fS s fun s=>fL l fun l=>K (s::l)
theorem Qp1:∀ (l:List SV) (K:List SV->Prop),fL l K↔K l
 | [],K=>Iff.rfl
 | s::l,K=>by unfold fL;rw [QvI];exact Qp1 l _
def fT (v:TV) (K:TV->Prop):Prop:=match v with
 | .unk=>K .unk
 | .a x=>(match x with
  | .s s=>fS s fun s=>K (.a (.s s))
  | .agg l=>K (.a (.agg l)))
 | .tup l=>K (.tup l)
theorem QBw (v:TV) (K:TV->Prop):fT v K↔K v:=by
 cases v with
 | unk=>exact Iff.rfl
 | tup l=>exact Iff.rfl
 | a x =>
  cases x with
  | s s=>grind [QvI,fT]
  | agg l=>exact Iff.rfl
def fR (r:Row) (K:Bool->Nat->List SV->Prop):Prop:=match r with
 | ⟨o,e,c⟩=>K o e c
def fA (u:AV) (K:List SV->Prop):Prop:=match u with
 | .s x=>K [x]
 | .agg l=>K l
theorem Ql3 (u:AV) (K:List SV->Prop):fA u K↔K u.cells:=by cases u<;>exact Iff.rfl
inductive Cll (P:Program) (det:Bool) (f:FuncId) (l:List AV) (hp:Hp) (n0:Nat) (K:KK):Prop
 | mk (args:List AV) (H:List Row) (m:List Em) (fp:List (Nat × Row)) (Post:Res->Prop) (h1:Fn P f args H Post) (h2:l=args.map (QcZ m H.length n0)) (h3:QAr hp fp) (h4:QhQ m H.length n0 0 m H fp)
  (h5:∀ R,Post R->R.nw.length<=Qap/\∀ p∈R.up,p.1<H.length) (h6:det=true->∃ R,Post=(. =R)) (h7:∀ R,Post R->Vl (R.ef m H.length n0) fun e=>K fp e)
def QnY (P:Program) (det:Bool) (f:FuncId) (l:List AV) (hp:Hp) (n0:Nat) (K:KK):Prop :=
 Cll P det f l hp n0 K
def QCV (T:Tys) (t:TypeId) (x:TV) (K:SV->Prop):Prop :=
 match x with
 | .a (.s (.sl _ _ n))=>(match T t with|some y=>(match y.kind with| .slice _=>K (.int .i64 n)|_=>False)|none=>False)
 | .a (.s (.fz _ n _))=>(match T t with|some y=>(match y.kind with| .slice _=>K (.int .i64 n)|_=>False)|none=>False)
 | .a (.s .nilsl)=>(match T t with|some y=>(match y.kind with| .slice _=>K (.int .i64 0)|_=>False)|none=>False)
 | .a (.s (.str s))=>(match T t with|some y=>(match y.kind with| .str=>K (.int .i64 s.size)|_=>False)|none=>False)
 | _=>False
def Qds (T:Tys) (tx:TypeId) (y:TV):Prop :=
 match y with
 | .a (.s (.str _))=>(match T tx with|some z=>z.kind= .str|none=>False)
 | .a (.s .nilsl)| .a (.s (.sl _ _ _))=>(match T tx with|some z=>(match z.kind with| .slice _=>True|_=>False)|none=>False)
 | _=>False
def QCW (hp:Hp) (es:Nat) (y:TV) (K:List (Nat × Row)->Nat->List SV->Prop):Prop :=
 match y with
 | .a (.s .nilsl)=>K [] 0 []
 | .a (.s (.sl j k m))=>Ge (hp j) fun r=>Sk r.cells k (m*es) fun l=>K [(j,r)] m l
 | .a (.s (.str s))=>Sd (es=1) (K [] s.size (Qcy s))
 | _=>False
def Qg6 (T:Tys) (hp:Hp) (n0:Nat) (t tx:TypeId) (x y:TV) (K:KK):Prop :=
 match T t with
 | some yt=>(match yt.kind with
  | .slice e=>(match T e with
   | some ye=>Sd (Qds T tx y) (QCW hp ye.size y fun fp m l=>(match x with
    | .a (.s .nilsl)=>Sd (m*ye.bytes<=140737488355328/\m<=9223372036854775807) (K fp ⟨.a (.s (.sl n0 0 m)),[],[(n0,⟨true,ye.size,l⟩)]⟩)
    | .a (.s (.sl i k n))=>Sd (k=0) (Ge (hp i) fun r=>Sd (r.own=true/\r.es=ye.size/\r.cells.length=n*ye.size/\(n+m)*ye.bytes<=140737488355328/\n+m<=9223372036854775807)
      (Vl (n+m) fun n'=>Vl (r.cells++l) fun c=>K ((i,r)::fp) ⟨.a (.s (.sl n0 0 n')),[(i,none)],[(n0,⟨true,ye.size,c⟩)]⟩))
    | _=>False))
   | none=>False)
  | _=>False)
 | none=>False
def Qsl (hp:Hp) (es:Nat) (y:TV) (n:Nat) (K:List (Nat × Row)->Nat->List SV->Prop):Prop :=
 match y with
 | .a (.s .nilsl)=>K [] 0 []
 | .a (.s (.sl j k m))=>Vl (min m n) fun q=>Ge (hp j) fun r=>Sk r.cells k (q*es) fun l=>K [(j,r)] q l
 | .a (.s (.str s))=>Vl (min s.size n) fun q=>Sd (es=1) (K [] q ((Qcy s).take q))
 | _=>False
def Qsk (T:Tys) (hp:Hp) (t:TypeId) (x y:TV) (K:KK):Prop :=
 match T t with
 | some yt=>(match yt.kind with
  | .slice e=>(match T e with
   | some ye=>(match x with
    | .a (.s (.sl i k n))=>Qsl hp ye.size y n fun fp q l=>Ge (hp i) fun r=>Sd (r.own=true/\k+l.length<=r.cells.length) (Vl (QaC r.cells k l) fun c=>fR r fun o e _=>K ((i,r)::fp) ⟨.a (.s (.int .i64 q)),[(i,some ⟨o,e,c⟩)],[]⟩)
    | _=>False)
   | none=>False)
  | _=>False)
 | none=>False
def Qsj (T:Tys) (hp:Hp) (s d:TypeId) (x:TV) (K:KK):Prop :=
 match T s,T d with
 | some ys,some yd=>(match x,yd.kind with
  | .a (.s (.int _ z)),.int k=>Vl (k.wrap z) fun u=>K [] (vs1 (.int k u))
  | .a (.s (.str z)),.str=>K [] (vs1 (.str z))
  | .a (.s .nilsl),.str=>(match ys.kind with
   | .slice e=>(match T e with
    | some ye=>(match ye.kind with
     | .int .u8=>K [] (vs1 (.str ByteArray.empty))
     | _=>False)
    | none=>False)
   | _=>False)
  | .a (.s (.sl i k n)),.str=>(match ys.kind with
   | .slice e=>(match T e with
    | some ye=>(match ye.kind with
     | .int .u8=>Ge (hp i) fun r=>Sg r.cells k n fun l=>Ge (Qd6 l) fun ns=>K [(i,r)] (vs1 (.str (strOfNums ns)))
     | _=>False)
    | none=>False)
   | _=>False)
  | _,_=>False)
 | _,_=>False
def Qj8 (T:Tys) (hp:Hp) (t:TypeId) (x:TV) (lo hi:Option Int->Option Int) (K:KK):Prop :=
 match T t with
 | some y=>(match x,y.kind with
  | .a (.s (.str s)),.str=>(match lo (some 0),hi (some s.size) with
   | some l,some h=>Sd (0<=l/\l<=h/\h<=s.size) (Vl (s.extract l.toNat h.toNat) fun z=>K [] (vs1 (.str z)))
   | _,_=>False)
  | .a (.s (.sl i k n)),.slice e=>(match T e,lo (some 0),hi (some n) with
   | some ye,some l,some h=>Ge (hp i) fun r=>Sd (r.es=ye.size/\0<=l/\l<=h/\h<=n) (Vl (k+l.toNat * ye.size) fun o'=>Vl ((h-l).toNat) fun n'=>K [(i,r)] (vs1 (.sl i o' n')))
   | _,_,_=>False)
  | .a (.s .nilsl),.slice e=>(match T e,lo (some 0),hi (some 0) with
   | some _,some l,some h=>Sd (l=0/\h=0) (K [] (vs1 .nilsl))
   | _,_,_=>False)
  | _,_=>False)
 | none=>False
inductive Zs (ye:Ty) (n:Nat) (K:List SV->Prop):Prop
 | mk (cells:List SV) (h:cells.length=n*ye.size/\∀ (k:Nat) s,cells[k]?=some s->ye.zero[k%ye.size]?=some s) (k:K cells)
def vop (P:Program) (T:Tys) (det:Bool) (o:Oper) (tv:Operand->TV) (hp:Hp) (n0:Nat) (K:KK):Prop :=
 match o.op with
 | .move x=>K [] ⟨tv x,[],[]⟩
 | .assign x=>K [] ⟨tv x,[],[]⟩
 | .pick c x y=>(match tv c with
  | .a (.s (.bool b))=>(match b with|true=>K [] ⟨tv x,[],[]⟩|false=>K [] ⟨tv y,[],[]⟩)
  | _=>False)
 | .binOp op t x y _=>QCT P T det op t (tv x) (tv y) fun s=>K [] (vs1 s)
 | .unOp op _ x=>vUn op (tv x) fun s=>K [] (vs1 s)
 | .alloc t=>(match T t with|some y=>fL y.zero fun z=>K [] ⟨.a (.s (.ptr n0 0)),[],[(n0,⟨true,1,z⟩)]⟩|none=>False)
 | .box _ x=>(match tv x with| .a u=>fA u fun l=>Sd (Qat l=true) (K [] ⟨.a (.s (.ptr n0 0)),[],[(n0,⟨true,1,l⟩)]⟩)|_=>False)
 | .load t x=>(match tv x with
  | .a (.s (.ptr i k))=>(match T t with
   | some y=>(match y.kind.agg with
    | false=>Ge (hp i) fun r=>Ge (r.cells[k]?) fun s=>K [(i,r)] (vs1 s)
    | true=>Ge (hp i) fun r=>Sg r.cells k y.size fun l=>K [(i,r)] (vv (.agg l)))
   | none=>False)
  | _=>False)
 | .store t x z=>(match tv x,tv z with
  | .a (.s (.ptr i k)),.a u=>(match T t with
   | some y=>fA u fun l=>Ge (hp i) fun r=>Sd (l.length=y.size/\Qat l=true/\r.own=true/\k+l.length<=r.cells.length) (Vl (QaC r.cells k l) fun c=>fR r fun o e _=>K [(i,r)] ⟨.unk,[(i,some ⟨o,e,c⟩)],[]⟩)
   | none=>False)
  | _,_=>False)
 | .nilCheck x=>(match tv x with
  | .a (.s (.ptr i k))=>K [] (vs1 (.ptr i k))
  | .a (.s (.fn (.func f) cap))=>K [] (vs1 (.fn (.func f) cap))
  | _=>False)
 | .fieldAddr t x f=>(match tv x,T t with
  | .a (.s (.ptr i k)),some y=>(match y.kind with
   | .struct fs=>(match fs[f]? with
    | some p=>(match T p.2 with
     | some yf=>(match Nat.beq yf.size 0 with|false=>K [] (vs1 (.ptr i (k+p.1)))|true=>False)
     | none=>False)
    | none=>False)
   | _=>False)
  | _,_=>False)
 | .indexAddr t x ix=>(match tv x,tv ix,T t with
  | .a (.s (.sl i k n)),.a (.s (.int _ z)),some y=>(match y.kind with
   | .slice e=>(match T e with
    | some ye=>Sd (0<=z/\z<n) (Vl (k+z.toNat * ye.size) fun o'=>K [] (vs1 (.ptr i o')))
    | none=>False)
   | _=>False)
  | .a (.s (.ptr i k)),.a (.s (.int _ z)),some y=>(match y.kind with
   | .array n e=>(match T e with
    | some ye=>Sd (0<=z/\z<n) (Vl (k+z.toNat * ye.size) fun o'=>K [] (vs1 (.ptr i o')))
    | none=>False)
   | _=>False)
  | _,_,_=>False)
 | .index t x ix=>(match tv x,tv ix,T t with
  | .a (.s (.str s)),.a (.s (.int _ z)),some y=>Sd (y.kind= .str/\0<=z) (Ge (s[z.toNat]?) fun b:UInt8=>K [] (vs1 (.int .u8 b.toNat)))
  | .a (.agg l),.a (.s (.int _ z)),some y=>(match y.kind with
   | .array n e=>(match T e with
    | some ye=>Sd (0<=z/\z<n) (Ge (Qip ye l (z.toNat * ye.size)) fun u=>K [] (vv u))
    | none=>False)
   | _=>False)
  | _,_,_=>False)
 | .field t x f=>(match tv x,T t with
  | .a (.agg l),some y=>(match y.kind with
   | .struct fs=>(match fs[f]? with
    | some p=>(match T p.2 with
     | some yf=>Ge (Qip yf l p.1) fun u=>K [] (vv u)
     | none=>False)
    | none=>False)
   | _=>False)
  | _,_=>False)
 | .extract x k=>(match tv x with| .tup l=>(match l[k]? with|some u=>K [] (vv u)|none=>False)|_=>False)
 | .build t parts=>(match T t,Qd4 tv parts.toList with
  | some y,some ps=>(match y.kind with
   | .struct fs=>(match Qdu T fs with|some pl=>Ge (QbY (fun i=>pl[i]?) y.zero ps) fun l=>K [] (vv (.agg l))|none=>False)
   | .array _ e=>(match T e with|some ye=>Ge (QbY (fun i=>some (i*ye.size,ye.size)) y.zero ps) fun l=>K [] (vv (.agg l))|none=>False)
   | _=>False)
  | _,_=>False)
 | .buildSlice t n parts=>(match T t,Qd4 tv parts.toList with
  | some y,some ps=>(match y.kind with
   | .slice e=>(match T e with
    | some ye=>(match Nat.ble (n*ye.size) 16777216 with
     | true=>Ge (QbY (fun i=>some (i*ye.size,ye.size)) (List.replicate (n*ye.size) .unk) ps) fun l=>Sd (l.length=n*ye.size) (K [] ⟨.a (.s (.sl n0 0 n)),[],[(n0,⟨true,ye.size,l⟩)]⟩)
     | false=>False)
    | none=>False)
   | _=>False)
  | _,_=>False)
 | .makeSlice t x y=>(match tv x,tv y,T t with
  | .a (.s (.int _ l)),.a (.s (.int _ c)),some yt=>(match yt.kind with
   | .slice e=>(match T e with
    | some ye=>Sd (0<=l/\l<=c/\ye.bytes*c<=140737488355328/\c<=9223372036854775807) (Vl l.toNat fun n=>Zs ye n fun cells=>K [] ⟨.a (.s (.sl n0 0 n)),[],[(n0,⟨true,ye.size,cells⟩)]⟩)
    | none=>False)
   | _=>False)
  | _,_,_=>False)
 | .slice t x lo hi none=>Qj8 T hp t (tv x) (fun d=>Qku tv (d.getD 0) lo) (fun d=>Qku tv (d.getD 0) hi) K
 | .convert s d x=>Qsj T hp s d (tv x) K
 | .makeFunc f first cs=>(match first.toList with
  | []=>(match Qm2 tv cs.toList with|some cap=>K [] (vs1 (.fn f cap))|none=>False)
  | _=>False)
 | .call c=>(match c.callee with
  | .value fo=>(match tv fo,avs tv c.args.toList with
   | .a (.s (.fn (.func f) cap)),some l=>QnY P det f (l++Qod cap) hp n0 K
   | _,_=>False)
  | .builtin .len=>(match c.args.toList,c.argTypes.toList with| [x],[t]=>QCV T t (tv x) fun s=>K [] (vs1 s)|_,_=>False)
  | .builtin .append=>(match c.args.toList,c.argTypes.toList with| [x,y],[t,tx]=>Qg6 T hp n0 t tx (tv x) (tv y) K|_,_=>False)
  | .builtin .copy=>(match c.args.toList,c.argTypes.toList with| [x,y],[t,_]=>Qsk T hp t (tv x) (tv y) K|_,_=>False)
  | .builtin .min=>(match c.args.toList with
   | x::l=>(match tv x with
    | .a (.s (.int k _))=>(match Qjp tv k (x::l) with|some (z::r)=>Vl (QsG z r) fun u=>K [] (vs1 (.int k u))|_=>False)
    | _=>False)
   | _=>False)
  | .builtin .max=>(match c.args.toList with
   | x::l=>(match tv x with
    | .a (.s (.int k _))=>(match Qjp tv k (x::l) with|some (z::r)=>Vl (QAv z r) fun u=>K [] (vs1 (.int k u))|_=>False)
    | _=>False)
   | _=>False)
  | _=>False)
 | _=>False
def Snd (P:Program) (det:Bool) (o:Oper) (tv:Operand->TV) (hp:Hp) (n0:Nat) (K:KK):Prop :=
 ∃ fp E,SemOp P o tv n0 fp E/\(∀ p∈fp,hp p.1=some p.2)/\(∀ e,E e->QAh n0 fp e/\K fp e)/\(det=true->∃ e,E=(. =e))
variable {P:Program} {det:Bool} {o:Oper} {tv:Operand->TV} {hp:Hp} {n0:Nat} {K:KK}
theorem QbR {fp:List (Nat × Row)} {e:Ef} (h:SemOp P o tv n0 fp (. =e)) (hf:∀ p∈fp,hp p.1=some p.2) (hok:QAh n0 fp e) (hk:K fp e):Snd P det o tv hp n0 K :=
 ⟨fp,_,h,hf,fun _ h=>h ▸ ⟨hok,hk⟩,fun _=>⟨e,rfl⟩⟩
theorem Qa1 (v:TV) (fp:List (Nat × Row)):QAh n0 fp ⟨v,[],[]⟩:=⟨fun _ h=>(by cases h),fun _ h=>(by cases h)⟩
theorem Qpk (v:TV) (fp:List (Nat × Row)) (r:Row):QAh n0 fp ⟨v,[],[(n0,r)]⟩:=⟨fun p h=>(by simp at h;subst h;simp [Qap]),fun _ h=>(by cases h)⟩
theorem Qxc (v:TV) (fp:List (Nat × Row)) (i:Nat) (r:Row) (x:Option Row) (nw:List (Nat × Row)) (hn:∀ p∈nw,n0<=p.1/\p.1<n0+Qap):QAh n0 ((i,r)::fp) ⟨v,[(i,x)],nw⟩ :=
 ⟨hn,fun p h=>by simp at h;subst h;exact ⟨(i,r),by simp,rfl⟩⟩
theorem nof {hp:Hp}:∀ p∈([]:List (Nat × Row)),hp p.1=some p.2:=fun _ h=>by cases h
theorem Qyf {hp:Hp} {i:Nat} {r:Row} (h:hp i=some r):∀ p∈ [(i,r)],hp p.1=some p.2:=fun p hp=>by simp at hp;subst hp;exact h
theorem QBa {hp:Hp} {i:Nat} {r:Row} {fp:List (Nat × Row)} (h:hp i=some r) (h2:∀ p∈fp,hp p.1=some p.2):∀ p∈(i,r)::fp,hp p.1=some p.2:=fun p hp=>by
 rcases List.mem_cons.1 hp with rfl|hp
 .exact h
 .grind
theorem QnZ {op:BinOp} {t t2:TypeId} {x y:Operand} {k k':IntKind} {m n:Int} (ho:o.op= .binOp op t x y t2) (hx:tv x= .a (.s (.int k m))) (hy:tv y= .a (.s (.int k' n))) (h:QCU op k m k' n fun s=>K [] (vs1 s)):Snd P det o tv hp n0 K:=by
 cases op<;>simp only [QCU] at h
 case quo=>obtain ⟨rfl,h1,_,rfl,h2⟩:=h;exact QbR (Qzd t x y t2 _ m n ho hx hy h1) nof (Qa1 _ _) h2
 case rem=>obtain ⟨rfl,h1,_,rfl,h2⟩:=h;exact QbR (Qzi t x y t2 _ m n ho hx hy h1) nof (Qa1 _ _) h2
 case shl=>obtain ⟨h1,_,rfl,h2⟩:=h;exact QbR (Qzj t x y t2 _ _ m n ho hx hy h1) nof (Qa1 _ _) h2
 case shr=>obtain ⟨h1,_,rfl,h2⟩:=h;exact QbR (Qzk t x y t2 _ _ m n ho hx hy h1) nof (Qa1 _ _) h2
 all_goals (obtain ⟨rfl,_,rfl,h2⟩:=h;exact QbR (Quy _ t x y t2 _ m n _ ho hx hy rfl) nof (Qa1 _ _) h2)
theorem Qn1 {op:BinOp} {t t2:TypeId} {x y:Operand} {m n:ByteArray} (ho:o.op= .binOp op t x y t2) (hx:tv x= .a (.s (.str m))) (hy:tv y= .a (.s (.str n))) (h:QCX op m n fun s=>K [] (vs1 s)):Snd P det o tv hp n0 K:=by
 cases op<;>simp only [QCX] at h
 case add=>obtain ⟨h1,_,rfl,h2⟩:=h;exact QbR (QuD t x y t2 m n ho hx hy h1) nof (Qa1 _ _) h2
 all_goals (obtain ⟨_,rfl,h2⟩:=h;exact QbR (QuE _ t x y t2 m n _ ho hx hy rfl) nof (Qa1 _ _) h2)
theorem QjV (op:BinOp) (t:TypeId) (x y:Operand) (t2:TypeId) (l l':List SV) (b c:Bool) (ho:o.op= .binOp op t x y t2) (hx:tv x= .a (.agg l)) (hy:tv y= .a (.agg l')) (he:QAM P t l l' b) (hc:(op= .eql/\c=b)\/(op= .neq/\c= !b)) :
  SemOp P o tv n0 [] (. =⟨.a (.s (.bool c)),[],[]⟩) :=
 SemOp.read fun F ρ hp a w h1 _ _=>by
  obtain ⟨cs,_,h3⟩:=Ql1 h1 (by rw [ho];simp [Op.operands]) hx;obtain ⟨cs',_,h5⟩:=Ql1 h1 (by rw [ho];simp [Op.operands]) hy;obtain ⟨_,_,_,_⟩:=he ρ w cs cs' x y h3 h5;refine ⟨.bool c,rfl,?_⟩;unfold execOp;rw [ho];rcases hc with ⟨rfl,rfl⟩|⟨rfl,rfl⟩
  .simp_all
  .simp_all
theorem QhH (w:World) (t e:TypeId) (a:Option Addr) (l c:Nat) (h:P.underlying t=some (.slice e)):(binOp .eql t (.slice a l c) (.slice none 0 0)).run P w= .ok (.bool a.isNone) w:=by
 simp only [binOp];simp [run_equal_slice_nil w t e a l c h]
theorem QjY {T:Tys} (hT:QaT P T) (op:BinOp) (t e:TypeId) (x y:Operand) (t2:TypeId) (yt:Ty) (i k n:Nat) (neg:Bool) (ho:o.op= .binOp op t x y t2) (hx:tv x= .a (.s (.sl i k n))) (hy:tv y= .a (.s .nilsl)) (vH:T t=some yt) (hk:yt.kind= .slice e)
  (uZ:(op= .eql/\neg=false)\/(op= .neq/\neg=true)):SemOp P o tv n0 [] (fun f=>∃ b:Bool,(b=true->n=0)/\f=⟨.a (.s (.bool (Bool.xor neg b))),[],[]⟩):=by
 intro F ρ hp a w Q K h1 h2 h3 _ hK;obtain ⟨A,c,e1,_,_⟩:=QaV h1 (by rw [ho];simp [Op.operands]) hx;have e2:a.eval y= .slice none 0 0:=QaV h1 (by rw [ho];simp [Op.operands]) hy;have hu:=(hT t yt vH).sl hk;have hz:A.isNone=true->n=0:=fun hA=>by grind
 have hr:(execOp a.eval o).run P w= .ok (.value (.bool (Bool.xor neg A.isNone))) w:=by
  unfold execOp;rw [ho];rcases uZ with ⟨rfl,rfl⟩|⟨rfl,rfl⟩
  .simp only [e1,e2,eqGuard_at_slice,QhH w t e A n c hu,Sem.run_bind,Sem.run_pure,Result.andThen_ok,Bool.false_xor]
  .simp only [e1,e2,eqGuard_at_slice,run_neq_slice_nil w t e A n c hu,Sem.run_bind,Sem.run_pure,Result.andThen_ok,Bool.true_xor]
 unfold Oper.wp;rw [hr,Oper.upon_value];exact hK _ ρ _ w ⟨_,hz,rfl⟩ (Ext.refl _) (fun _ _=>rfl) rfl (by rw [Ef.app_none];exact h2)
theorem QhI {T:Tys} (hT:QaT P T) (op:BinOp) (t e:TypeId) (x y:Operand) (t2:TypeId) (yt:Ty) (neg:Bool) (ho:o.op= .binOp op t x y t2) (hx:tv x= .a (.s .nilsl)) (hy:tv y= .a (.s .nilsl)) (vH:T t=some yt) (hk:yt.kind= .slice e)
  (uZ:(op= .eql/\neg=false)\/(op= .neq/\neg=true)):SemOp P o tv n0 [] (. =⟨.a (.s (.bool (!neg))),[],[]⟩) :=
 SemOp.read fun F ρ hp a w h1 _ _=>by
  have e1:a.eval x= .slice none 0 0:=QaV h1 (by rw [ho];simp [Op.operands]) hx;have e2:a.eval y= .slice none 0 0:=QaV h1 (by rw [ho];simp [Op.operands]) hy;have hu:=(hT t yt vH).sl hk;refine ⟨_,rfl,?_⟩;unfold execOp;rw [ho];rcases uZ with ⟨rfl,rfl⟩|⟨rfl,rfl⟩
  .simp only [e1,e2,eqGuard_at_slice,QhH w t e none 0 0 hu,Sem.run_bind,Sem.run_pure,Result.andThen_ok]
   rfl
  .simp only [e1,e2,eqGuard_at_slice,run_neq_slice_nil w t e none 0 0 hu,Sem.run_bind,Sem.run_pure,Result.andThen_ok]
   rfl
theorem QvV {T:Tys} (hT:QaT P T) {op:BinOp} {t e:TypeId} {x y:Operand} {t2:TypeId} {yt:Ty} {i k n:Nat} {neg:Bool} {J:Bool->Prop} (ho:o.op= .binOp op t x y t2) (hx:tv x= .a (.s (.sl i k n))) (hy:tv y= .a (.s .nilsl)) (vH:T t=some yt) (hk:yt.kind= .slice e)
  (uZ:(op= .eql/\neg=false)\/(op= .neq/\neg=true)) (h:Ns det n J) (hJ:∀ b,J b->K [] (vs1 (.bool (Bool.xor neg b)))):Snd P det o tv hp n0 K:=by
 rcases h with ⟨hd,h⟩|⟨hn,h⟩
 .refine ⟨[],_,QjY hT op t e x y t2 yt i k n neg ho hx hy vH hk uZ,nof,?_,fun e=>by rw [hd] at e;cases e⟩
  rintro f ⟨b,hb,rfl⟩;exact ⟨Qa1 _ _,hJ b (h b hb)⟩
 .refine ⟨[],(. =⟨.a (.s (.bool (Bool.xor neg false))),[],[]⟩),?_,nof,?_,fun _=>⟨_,rfl⟩⟩
  .intro F ρ hp a w Q K' h1 h2 h3 h4 hK
   refine QjY hT op t e x y t2 yt i k n neg ho hx hy vH hk uZ F ρ hp a w Q K' h1 h2 h3 h4 fun f ρ' v w' hf=>?_
   obtain ⟨b,hb,rfl⟩:=hf
   cases b with
   | false=>grind
   | true=>grind
  .rintro f rfl;exact ⟨Qa1 _ _,hJ false h⟩
theorem QnX {T:Tys} (hT:QaT P T) {op:BinOp} {t t2:TypeId} {x y:Operand} (ho:o.op= .binOp op t x y t2) (h:QCT P T det op t (tv x) (tv y) fun s=>K [] (vs1 s)):Snd P det o tv hp n0 K:=by
 unfold QCT at h;split at h
 .rename_i k m k' n hx hy;exact QnZ ho hx hy h
 .rename_i m n hx hy;exact Qn1 ho hx hy h
 .rename_i m n hx hy
  split at h
  .rename_i ty hty
   obtain ⟨hk,h⟩:=h;have hu:=(hT t ty hty).bool hk;split at h
   .obtain ⟨_,rfl,h⟩:=h;exact QbR (QmD .eql t x y t2 m n _ ho hx hy hu rfl) nof (Qa1 _ _) h
   .obtain ⟨_,rfl,h⟩:=h;exact QbR (QmD .neq t x y t2 m n _ ho hx hy hu rfl) nof (Qa1 _ _) h
   .grind
  .grind
 .rename_i l l' hx hy
  split at h
  .obtain ⟨b,h1,h2⟩:=h;exact QbR (QjV _ t x y t2 l l' b _ ho hx hy h1 (.inl ⟨rfl,rfl⟩)) nof (Qa1 _ _) h2
  .obtain ⟨b,h1,h2⟩:=h;exact QbR (QjV _ t x y t2 l l' b _ ho hx hy h1 (.inr ⟨rfl,rfl⟩)) nof (Qa1 _ _) h2
  .grind
 .rename_i i k n hx hy
  split at h
  .rename_i yt vH
   split at h
   .rename_i e hk
    split at h
    .exact QvV (neg:=false) hT ho hx hy vH hk (.inl ⟨rfl,rfl⟩) h fun b hb=>by rw [Bool.false_xor];exact hb
    .exact QvV (neg:=true) hT ho hx hy vH hk (.inr ⟨rfl,rfl⟩) h fun b hb=>by obtain ⟨_,rfl,hb⟩:=hb;rw [Bool.true_xor];exact hb
    .grind
   .grind
  .grind
 .rename_i hx hy
  split at h
  .rename_i yt vH
   split at h
   .rename_i e hk
    split at h
    .exact QbR (QhI (neg:=false) hT _ t e x y t2 yt ho hx hy vH hk (.inl ⟨rfl,rfl⟩)) nof (Qa1 _ _) h
    .exact QbR (QhI (neg:=true) hT _ t e x y t2 yt ho hx hy vH hk (.inr ⟨rfl,rfl⟩)) nof (Qa1 _ _) h
    .grind
   .grind
  .grind
 .grind
theorem Qsm {op:UnOp} {t:TypeId} {x:Operand} (ho:o.op= .unOp op t x) (h:vUn op (tv x) fun s=>K [] (vs1 s)):Snd P det o tv hp n0 K:=by
 unfold vUn at h;split at h
 .rename_i b hx;obtain ⟨_,rfl,h⟩:=h;exact QbR (Qzh t x b ho hx) nof (Qa1 _ _) h
 .rename_i k n hx;obtain ⟨_,rfl,h⟩:=h;exact QbR (QrK _ t x k n _ ho hx rfl) nof (Qa1 _ _) h
 .rename_i k n hx;obtain ⟨_,rfl,h⟩:=h;exact QbR (QrK _ t x k n _ ho hx rfl) nof (Qa1 _ _) h
 .grind
theorem QqW (m:List Em) (k n0:Nat) (l:List Row) (j:Nat) (p:Nat × Row) (h:p∈nwN m k n0 j l):n0+j<=p.1/\p.1<n0+j+l.length:=by
 induction l generalizing j with
 | nil=>cases h
 | cons r l ih=>grind [nwN]
theorem Qsf (m:List Em) (k n0:Nat) (l:List (Nat × Option Row)) (p:Nat × Option Row) (h:p∈upN m k n0 l):∃ q∈l,p.1=(Qc5 m k n0 q.1).n:=by
 induction l with
 | nil=>cases h
 | cons r l ih=>grind [upN,Qc5]
theorem Qlw {c:Call} {fo:Operand} {f:FuncId} {cap:List (Nat × Nat)} {l:List AV} (ho:o.op= .call c) (fC:c.callee= .value fo) (FI:tv fo= .a (.s (.fn (.func f) cap))) (hl:avs tv c.args.toList=some l)
  (h:QnY P det f (l++Qod cap) hp n0 K):Snd P det o tv hp n0 K:=by
 obtain ⟨args,H,m,fp,Post,h1,h2,h3,h4,h5,h6,h7⟩:=h;refine ⟨fp,_,Quw c fo f cap l args m H Post fp ho fC FI hl h2 h1 (QgT h4) (fun hp hf=>Qum h4 hp hf) (fun R hR=>(h5 R hR).1),QtG h3,?_,fun hd=>?_⟩
 .rintro e ⟨R,hR,rfl⟩
  refine ⟨⟨fun p hp=>?_,fun p hp=>?_⟩,by obtain ⟨e,h8,h9⟩:=h7 R hR;rw [h8];exact h9⟩
  .have:=QqW m H.length n0 R.nw 0 p hp
   have:=(h5 R hR).1;omega
  .obtain ⟨q,q1,q2⟩:=Qsf m H.length n0 R.up p hp
   have gT:=(h5 R hR).2 q q1;rw [<- QgT h4] at gT;have e:=QcH (k:=H.length) (n0:=n0) (List.getElem?_eq_getElem gT);rw [e] at q2;obtain ⟨y,y1,y2⟩:=QgU h4 _ (List.getElem_mem gT);exact ⟨y,y1,y2.trans q2.symm⟩
 .obtain ⟨R,hR⟩:=h6 hd
  subst hR;exact ⟨R.ef m H.length n0,by funext e;simp⟩
theorem Qn0 {T:Tys} (hT:QaT P T) {c:Call} {t:TypeId} {x:Operand} (ho:o.op= .call c) (fC:c.callee= .builtin .len) (qO:c.args= #[x]) (qN:c.argTypes= #[t]) (h:QCV T t (tv x) fun s=>K [] (vs1 s)):Snd P det o tv hp n0 K:=by
 unfold QCV at h;split at h
 .rename_i i k n hx
  split at h
  .rename_i y hy
   split at h
   .rename_i e hk;exact QbR (Qze hT c t e x y i k n ho fC qO qN hx hy hk) nof (Qa1 _ _) h
   .grind
  .grind
 .rename_i k n fc hx
  split at h
  .rename_i y hy
   split at h
   .rename_i e hk;exact QbR (QrL hT c t e x y k n fc ho fC qO qN hx hy hk) nof (Qa1 _ _) h
   .grind
  .grind
 .rename_i hx
  split at h
  .rename_i y hy
   split at h
   .rename_i e hk;exact QbR (QnN hT c t e x y ho fC qO qN hx hy hk) nof (Qa1 _ _) h
   .grind
  .grind
 .rename_i s hx
  split at h
  .rename_i y hy
   split at h
   .rename_i hk;exact QbR (Quz hT c t x y s ho fC qO qN hx hy hk) nof (Qa1 _ _) h
   .grind
  .grind
 .grind
theorem Qjr {T:Tys} {tx:TypeId} {y:TV} (h:Qds T tx y):∃ yx,T tx=some yx/\((yx.kind= .str/\∃ s,y= .a (.s (.str s)))\/((∃ e',yx.kind= .slice e')/\¬ ∃ s,y= .a (.s (.str s)))):=by
 unfold Qds at h;split at h
 .grind
 .grind
 .grind
 .grind
theorem QzG {es:Nat} {y:Operand} {C:List (Nat × Row)->Nat->List SV->Prop} (h:QCW hp es (tv y) C):∃ fp m l,QEy tv y es fp m l/\(∀ p∈fp,hp p.1=some p.2)/\C fp m l:=by
 unfold QCW at h;split at h
 .rename_i hy;exact ⟨[],0,[],.inl ⟨hy,rfl,rfl,rfl⟩,nof,h⟩
 .rename_i j k m hy
  obtain ⟨r,h1,l,⟨h2,h3,h4⟩,h5⟩:=h;exact ⟨_,m,l,.inr (.inl ⟨j,k,r,hy,rfl,h2,h3,h4⟩),Qyf h1,h5⟩
 .rename_i s hy
  obtain ⟨h1,h2⟩:=h;exact ⟨[],s.size,Qcy s,.inr (.inr ⟨s,hy,rfl,rfl,rfl,h1⟩),nof,h2⟩
 .grind
theorem QiF {T:Tys} (hT:QaT P T) {c:Call} {t tx:TypeId} {x y:Operand} (ho:o.op= .call c) (fC:c.callee= .builtin .append) (qO:c.args= #[x,y]) (qN:c.argTypes= #[t,tx]) (h:Qg6 T hp n0 t tx (tv x) (tv y) K):Snd P det o tv hp n0 K:=by
 unfold Qg6 at h;split at h
 .rename_i yt vH
  split at h
  .rename_i e hk
   split at h
   .rename_i ye wV
    obtain ⟨h1,h2⟩:=h;obtain ⟨yx,JC,JB⟩:=Qjr h1;obtain ⟨fp,m,l,h3,h4,h5⟩:=QzG h2;split at h5
    .rename_i hx
     obtain ⟨⟨h6,h7⟩,h8⟩:=h5;exact QbR (Qiy hT c t tx e x y yt yx ye m fp l ho fC qO qN hx vH hk wV JC JB h3 h6 h7) h4 (Qpk _ _ _) h8
    .rename_i i k n hx
     obtain ⟨rfl,r,h6,⟨h7,h8,h9,jZ,yS⟩,_,rfl,_,rfl,vP⟩:=h5;exact QbR (QnI hT c t tx e x y yt yx ye i n m r fp l ho fC qO qN hx vH hk wV JC JB h3 h7 h8 h9 jZ yS) (QBa h6 h4) (Qxc _ _ _ _ _ _ (fun p h=>by simp at h;subst h;simp [Qap])) vP
    .grind
   .grind
  .grind
 .grind
theorem QuR {es n:Nat} {y:Operand} {C:List (Nat × Row)->Nat->List SV->Prop} (h:Qsl hp es (tv y) n C):∃ fp m q l,QFl tv y es fp m q l/\q=min m n/\(∀ p∈fp,hp p.1=some p.2)/\C fp q l:=by
 unfold Qsl at h;split at h
 .rename_i hy;exact ⟨[],0,0,[],.inl ⟨hy,rfl,rfl,rfl,rfl⟩,by omega,nof,h⟩
 .rename_i j k m hy
  obtain ⟨q,h0,r,h1,l,⟨h2,h3,h4⟩,h5⟩:=h;exact ⟨_,m,q,l,.inr (.inl ⟨j,k,r,hy,rfl,by omega,h2,h3,h4⟩),h0.symm,Qyf h1,h5⟩
 .rename_i s hy
  obtain ⟨q,h0,h1,h2⟩:=h;exact ⟨[],s.size,q,_,.inr (.inr ⟨s,hy,rfl,rfl,by omega,rfl,h1⟩),h0.symm,nof,h2⟩
 .grind
theorem Qly {T:Tys} (hT:QaT P T) {c:Call} {t tx:TypeId} {x y:Operand} (ho:o.op= .call c) (fC:c.callee= .builtin .copy) (qO:c.args= #[x,y]) (qN:c.argTypes= #[t,tx]) (h:Qsk T hp t (tv x) (tv y) K):Snd P det o tv hp n0 K:=by
 unfold Qsk at h;split at h
 .rename_i yt vH
  split at h
  .rename_i e hk
   split at h
   .rename_i ye wV
    split at h
    .rename_i i k n hx
     obtain ⟨fp,m,q,l,h3,h4,h5,r,h6,⟨h7,h8⟩,_,rfl,h9⟩:=QuR h;exact QbR (Qux hT c t tx e x y yt ye i k n m q r fp l ho fC qO qN hx vH hk wV h3 h4 h7 h8) (QBa h6 h5) (Qxc _ _ _ _ _ _ (fun p h=>(by cases h))) h9
    .grind
   .grind
  .grind
 .grind
theorem Qlx {T:Tys} (hT:QaT P T) {s d:TypeId} {x:Operand} (ho:o.op= .convert s d x) (h:Qsj T hp s d (tv x) K):Snd P det o tv hp n0 K:=by
 unfold Qsj at h;split at h
 .rename_i ys yd hs hd
  split at h
  .rename_i q z k hx hk;obtain ⟨_,rfl,h⟩:=h;exact QbR (QrI hT s d x ys yd k q z ho hx hs hd hk) nof (Qa1 _ _) h
  .rename_i z hx hk;exact QbR (Qln hT s d x ys yd z ho hx hs hd hk) nof (Qa1 _ _) h
  .rename_i hx hk
   split at h
   .rename_i e he
    split at h
    .rename_i ye wV
     split at h
     .rename_i hu;exact QbR (QnK hT s d e x ys yd ye ho hx hs he wV hu hd hk) nof (Qa1 _ _) h
     .grind
    .grind
   .grind
  .rename_i i k n hx hk
   split at h
   .rename_i e he
    split at h
    .rename_i ye wV
     split at h
     .rename_i hu
      obtain ⟨r,h1,l,⟨h2,h3⟩,xs,h4,h5⟩:=h;exact QbR (QrH hT s d e x ys yd ye i k n r l xs ho hx hs he wV hu hd hk h2 h3 h4) (Qyf h1) (Qa1 _ _) h5
     .grind
    .grind
   .grind
  .grind
 .grind
theorem Qj9 {T:Tys} (hT:QaT P T) {t:TypeId} {x:Operand} {lo hi:Option Operand} (ho:o.op= .slice t x lo hi none) (h:Qj8 T hp t (tv x) (fun d=>Qku tv (d.getD 0) lo) (fun d=>Qku tv (d.getD 0) hi) K):Snd P det o tv hp n0 K:=by
 unfold Qj8 at h;split at h
 .rename_i y hy
  split at h
  .rename_i s hx hk
   split at h
   .rename_i l q hl hh
    obtain ⟨⟨h1,h2,h3⟩,_,rfl,h⟩:=h;exact QbR (QnO hT t x lo hi y s l q ho hx hy hk hl hh h1 h2 h3) nof (Qa1 _ _) h
   .grind
  .rename_i i k n e hx hk
   split at h
   .rename_i ye l q he hl hh
    obtain ⟨r,h1,⟨h2,h3,h4,h5⟩,_,rfl,_,rfl,h6⟩:=h;exact QbR (QrM hT t e x lo hi y ye i k n r l q ho hx hy hk he h2 hl hh h3 h4 h5) (Qyf h1) (Qa1 _ _) h6
   .grind
  .rename_i e hx hk
   split at h
   .rename_i ye l q he hl hh
    obtain ⟨⟨rfl,rfl⟩,h⟩:=h;exact QbR (QjZ hT t e x lo hi y ye ho hx hy hk he hl hh) nof (Qa1 _ _) h
   .grind
  .grind
 .grind
theorem QHY {α:Type} {a:Array α} {x:α} (h:a.toList= [x]):a= #[x]:=by apply Array.ext';simpa using h
theorem QEZ {α:Type} {a:Array α} {x y:α} (h:a.toList= [x,y]):a= #[x,y]:=by apply Array.ext';simpa using h
theorem QJr {α:Type} {a:Array α} (h:a.toList= []):a= #[]:=by apply Array.ext';simpa using h
theorem Qkb {T:Tys} (hT:QaT P T) (h:vop P T det o tv hp n0 K):Snd P det o tv hp n0 K:=by
 unfold vop at h;split at h
 .rename_i x ho;exact QbR (QuC x ho) nof (Qa1 _ _) h
 .rename_i x ho;exact QbR (QnJ x ho) nof (Qa1 _ _) h
 .rename_i c x y ho
  split at h
  .rename_i b hc
   cases b
   .exact QbR (QmE c x y false ho hc) nof (Qa1 _ _) h
   .exact QbR (QmE c x y true ho hc) nof (Qa1 _ _) h
  .grind
 .rename_i op t x y t2 ho;exact QnX hT ho h
 .rename_i op t x ho;exact Qsm ho h
 .rename_i t ho
  split at h
  .rename_i y hy;rw [Qp1] at h;exact QbR (QrG hT t y ho hy) nof (Qpk _ _ _) h
  .grind
 .rename_i t x ho
  split at h
  .rename_i u hx;rw [Ql3] at h;obtain ⟨h1,h⟩:=h;exact QbR (Qzc t x u ho hx h1) nof (Qpk _ _ _) h
  .grind
 .rename_i t x ho
  split at h
  .rename_i i k hx
   split at h
   .rename_i y hy
    split at h
    .rename_i hk
     obtain ⟨r,h1,s,h2,h3⟩:=h;exact QbR (QuA hT t x y i k r s ho hx hy hk h2) (Qyf h1) (Qa1 _ _) h3
    .rename_i hk
     obtain ⟨r,h1,l,⟨h2,h4⟩,h3⟩:=h;exact QbR (Qlp hT t x y i k r l ho hx hy hk h2 h4) (Qyf h1) (Qa1 _ _) h3
   .grind
  .grind
 .rename_i t x z ho
  split at h
  .rename_i i k u hx hz
   split at h
   .rename_i y hy
    rw [Ql3] at h;obtain ⟨r,h1,⟨h2,h3,h4,h5⟩,_,rfl,h6⟩:=h;exact QbR (QrN hT t x z y i k r u ho hx hz hy h2 h3 h4 h5) (Qyf h1) (Qxc _ _ _ _ _ _ (fun p h=>(by cases h))) h6
   .grind
  .grind
 .rename_i x ho
  split at h
  .rename_i i k hx;exact QbR (QjX x i k ho hx) nof (Qa1 _ _) h
  .rename_i f cap hx;exact QbR (QiB x f cap ho hx) nof (Qa1 _ _) h
  .grind
 .rename_i t x f ho
  split at h
  .rename_i i k y hx hy
   split at h
   .rename_i fs hk
    split at h
    .rename_i p hf
     split at h
     .rename_i yf VP
      split at h
      .rename_i hs;exact QbR (Qiz hT t x f y yf fs p i k ho hx hy hk hf VP hs) nof (Qa1 _ _) h
      .grind
     .grind
    .grind
   .grind
  .grind
 .rename_i t x ix ho
  split at h
  .rename_i i k n q z y hx yI hy
   split at h
   .rename_i e hk
    split at h
    .rename_i ye he
     obtain ⟨⟨h1,h2⟩,_,rfl,h3⟩:=h;exact QbR (QiA hT t e x ix y ye i k n q z ho hx yI hy hk he h1 h2) nof (Qa1 _ _) h3
    .grind
   .grind
  .rename_i i k q z y hx yI hy
   split at h
   .rename_i n e hk
    split at h
    .rename_i ye he
     obtain ⟨⟨h1,h2⟩,_,rfl,h3⟩:=h;exact QbR (Qhh hT t e x ix y ye i k n q z ho hx yI hy hk he h1 h2) nof (Qa1 _ _) h3
    .grind
   .grind
  .grind
 .rename_i t x ix ho
  split at h
  .rename_i s q z y hx yI hy
   obtain ⟨⟨hk,h1⟩,b,h2,h3⟩:=h;exact QbR (QnM hT t x ix y s q z b ho hx yI hy hk h1 h2) nof (Qa1 _ _) h3
  .rename_i l q z y hx yI hy
   split at h
   .rename_i n e hk
    split at h
    .rename_i ye he
     obtain ⟨⟨h1,h2⟩,u,h3,h4⟩:=h;exact QbR (QnL hT t e x ix y ye l n u q z ho hx yI hy hk he h1 h2 h3) nof (Qa1 _ _) h4
    .grind
   .grind
  .grind
 .rename_i t x f ho
  split at h
  .rename_i l y hx hy
   split at h
   .rename_i fs hk
    split at h
    .rename_i p hf
     split at h
     .rename_i yf VP
      obtain ⟨u,h1,h2⟩:=h;exact QbR (QrJ hT t x f y yf fs p l u ho hx hy hk hf VP h1) nof (Qa1 _ _) h2
     .grind
    .grind
   .grind
  .grind
 .rename_i x k ho
  split at h
  .rename_i l hx
   split at h
   .rename_i u hu;exact QbR (Qlo x k l u ho hx hu) nof (Qa1 _ _) h
   .grind
  .grind
 .rename_i t parts ho
  split at h
  .rename_i y ps hy vX
   split at h
   .rename_i fs hk
    split at h
    .rename_i pl zF
     obtain ⟨l,hl,h⟩:=h;exact QbR (QjU hT t parts y ps l ho hy vX (.inl ⟨fs,pl,hk,zF,hl⟩)) nof (Qa1 _ _) h
    .grind
   .rename_i n e hk
    split at h
    .rename_i ye he
     obtain ⟨l,hl,h⟩:=h;exact QbR (QjU hT t parts y ps l ho hy vX (.inr ⟨n,e,ye,hk,he,hl⟩)) nof (Qa1 _ _) h
    .grind
   .grind
  .grind
 .rename_i t n parts ho
  split at h
  .rename_i y ps hy vX
   split at h
   .rename_i e hk
    split at h
    .rename_i ye he
     split at h
     .rename_i hb
      obtain ⟨l,hl,h1,h⟩:=h;exact QbR (Qhg hT t e n parts y ye ps l ho hy hk he vX hb hl h1) nof (Qpk _ _ _) h
     .grind
    .grind
   .grind
  .grind
 .rename_i t x y ho
  split at h
  .rename_i q l q2 c yt hx hy vH
   split at h
   .rename_i e hk
    split at h
    .rename_i ye he
     obtain ⟨⟨h1,h2,h3,h4⟩,n,rfl,cells,⟨h6,h7⟩,h8⟩:=h;exact QbR (QuB hT t e x y yt ye q q2 l c ho hx hy vH hk he h1 h2 h3 h4 cells h6 h7) nof (Qpk _ _ _) h8
    .grind
   .grind
  .grind
 .rename_i t x lo hi ho;exact Qj9 hT ho h
 .rename_i s d x ho;exact Qlx hT ho h
 .rename_i f first cs ho
  split at h
  .rename_i hf
   have hf:=QJr hf;subst hf;split at h
   .rename_i cap hc;exact QbR (QjW f cs cap ho hc) nof (Qa1 _ _) h
   .grind
  .grind
 .rename_i c ho
  split at h
  .rename_i fo fC
   split at h
   .rename_i f cap l FI hl;exact Qlw ho fC FI hl h
   .grind
  .rename_i fC
   split at h
   .rename_i x t hx ht;exact Qn0 hT ho fC (QHY hx) (QHY ht) h
   .grind
  .rename_i fC
   split at h
   .rename_i x y t tx hx ht;exact QiF hT ho fC (QEZ hx) (QEZ ht) h
   .grind
  .rename_i fC
   split at h
   .rename_i x y t tx hx ht;exact Qly hT ho fC (QEZ hx) (QEZ ht) h
   .grind
  .rename_i fC
   split at h
   .rename_i x l hx
    split at h
    .rename_i k z0 VM
     split at h
     .rename_i z r hz
      obtain ⟨u,rfl,h⟩:=h;exact QbR (Qzg c k x l z r ho fC hx hz) nof (Qa1 _ _) h
     .grind
    .grind
   .grind
  .rename_i fC
   split at h
   .rename_i x l hx
    split at h
    .rename_i k z0 VM
     split at h
     .rename_i z r hz
      obtain ⟨u,rfl,h⟩:=h;exact QbR (Qzf c k x l z r ho fC hx hz) nof (Qa1 _ _) h
     .grind
    .grind
   .grind
  .grind
 .grind
def ap {V:Type} (u:Nat->Option V) (f:Nat->V):Nat->V:=fun k=>match u k with
 | some v=>v
 | none=>f k
def Qa3 {V:Type} (us:Nat->Nat->Option V) (l:List Nat) (f:Nat->V):Nat->V:=l.foldl (fun f i=>ap (us i) f) f
theorem QdK {V:Type} (us:Nat->Nat->Option V) (i:Nat) (l:List Nat) (f:Nat->V):Qa3 us (i::l) f=Qa3 us l (ap (us i) f):=rfl
theorem Qdq {V:Type} (us:Nat->Nat->Option V) (l m:List Nat) (f:Nat->V):Qa3 us (l++m) f=Qa3 us m (Qa3 us l f):=by simp [Qa3]
theorem QtE {V:Type} (us:Nat->Nat->Option V) (k:Nat):∀ (l:List Nat) (f g:Nat->V),f k=g k->Qa3 us l f k=Qa3 us l g k:=by
 intro l
 induction l with
 | nil=>intro f g h;exact h
 | cons i l ih =>
  intro f g h;rw [QdK,QdK];refine ih _ _ ?_;unfold ap;split
  .rfl
  .exact h
theorem Qfu {V:Type} (us:Nat->Nat->Option V) (k:Nat):∀ (l:List Nat) (f:Nat->V),Qa3 us l f k=Qa3 us (l.filter fun i=>(us i k).isSome) f k:=by
 intro l
 induction l with
 | nil=>grind
 | cons i l ih =>
  intro f;rw [QdK,ih]
  cases e:us i k with
  | some v=>simp_all [List.filter_cons,QdK,Qa3]
  | none=>grind [QtE,ap,Qa3]
theorem QdL {V:Type} (us:Nat->Nat->Option V) (k n:Nat) (p q:Nat->Bool) (f:Nat->V) (h:∀ i,i<n->(us i k).isSome=true->p i=q i) :
  Qa3 us ((List.range n).filter p) f k=Qa3 us ((List.range n).filter q) f k:=by
 rw [Qfu,Qfu us k ((List.range n).filter q)];rw [List.filter_filter,List.filter_filter];congr 1;apply List.filter_congr;intro i hi;have hi:i<n:=by simpa using hi
 cases e:(us i k).isSome with
 | false=>simp
 | true=>grind
theorem Qdv (n j:Nat) (h:j<=n):(List.range n).filter (fun i=>decide (i<j))=List.range j:=by
 induction n with
 | zero=>grind
 | succ n ih =>
  rw [List.range_succ,List.filter_append]
  by_cases hj:j<=n
  .rw [ih hj]
   simp;omega
  .have:j=n+1:=by omega
   subst this;rw [List.filter_eq_self.2 (by intro i hi;simp at hi |-;omega),List.range_succ];simp
theorem Qfv {V:Type} (us:Nat->Nat->Option V) (k n j:Nat) (p:Nat->Bool) (f:Nat->V) (hj:j<n) (hp:p j=false) (h:∀ i,i<n->j<i->p i=true->(us j k).isSome=true->(us i k).isSome=false) :
  Qa3 us ((List.range n).filter fun i=>p i||decide (i=j)) f k=ap (us j) (Qa3 us ((List.range n).filter p) f) k:=by
 cases e:us j k with
 | none =>
  have:ap (us j) (Qa3 us ((List.range n).filter p) f) k=Qa3 us ((List.range n).filter p) f k:=by unfold ap;rw [e]
  rw [this];refine QdL us k n _ _ f fun i hi hu=>?_
  have:i≠j:=by rintro rfl;rw [e] at hu;cases hu
  simp [this]
 | some v =>
  have hr:ap (us j) (Qa3 us ((List.range n).filter p) f) k=v:=by unfold ap;rw [e]
  rw [hr];have jQ:Qa3 us ((List.range n).filter fun i=>p i||decide (i=j)) f k=Qa3 us ((List.range n).filter fun i=>(p i&&decide (i<j))||decide (i=j)) f k:=by grind [QdL,Qa3,List.range,ap]
  rw [jQ]
  have hsplit:(List.range n).filter (fun i=>(p i&&decide (i<j))||decide (i=j))=((List.range j).filter p)++ [j]:=by
   clear hr jQ h e
   induction n with
   | zero=>omega
   | succ n ih=>grind [List.range_succ,List.filter,List.range,List.filter_congr,Nat.ne_of_lt,Qa3,ap]
  rw [hsplit,Qdq];show ap (us j) _ k=v;unfold ap;rw [e]
inductive Did where
 | skip
 | did (fp:List (Nat × Row)) (e:Ef)
def Did.v:Did->TV
 | .skip=> .tup []
 | .did _ e=>e.v
def Did.u:Did->Nat->Option (Option Row)
 | .skip,_=>none
 | .did _ e,n=>match QaW e.nw n with
  | some r=>some (some r)
  | none=>QaW e.up n
def evF (tm:Nat->TV):Operand->TV
 | .tmp t=>tm t
 | .const v=>QFm v
 | .func f=> .a (.s (.fn (.func f) []))
 | .global _=> .unk
def Qec (all:List Oper) (j:Nat):Option Nat:=match all[j]? with
 | some o=>o.dst
 | none=>none
theorem QiI (ρ:Nm):VT ρ (.tup []) undef:=⟨#[],rfl,rfl,fun _ _ h=>by simp at h⟩
theorem QmP {all:List Oper} {a:Act} {o:Oper} {g:Nat × Bool} {t:Nat} {ρ:Nm} {l:List AV} (hg:o.guard=some g) (wE:Qec all g.1=some t) (hv:VT ρ (.tup l) (a.tmps.getD t undef)):Region.wanted o (yielded all.toArray a.tmps)=false:=by
 obtain ⟨_,hv,_⟩:=hv
 have hy:yielded all.toArray a.tmps g.1=none:=by
  unfold yielded;have:(all.toArray[g.1]?).bind (·.dst)=some t:=by grind [Qec,VT]
  rw [this]
  cases e:a.tmps[t]? with
  | none=>simp [e]
  | some v=>simp_all
 unfold Region.wanted;rw [hg];simp [hy]
theorem Qxg {ρ:Nm} {tm:Nat->TV} {a:Act} (x:Operand) (h:∀ t,x= .tmp t->VT ρ (tm t) (a.tmps.getD t undef)):VT ρ (evF tm x) (a.eval x):=by
 cases x with
 | tmp t=>exact h t rfl
 | const v=>exact Qwq ρ v
 | global g=>exact trivial
 | func f=>exact ⟨#[],rfl,rfl,fun k p e=>by simp at e⟩
def Qwo (P:Program) (all:List Oper) (base i:Nat) (o:Oper) (d:Did) (tm:Nat->TV) (hp:Hp):Prop :=
 match d with
 | .did fp e=>(∀ g,o.guard=some g->∃ t,Qec all g.1=some t/\tm t= .a (.s (.bool g.2)))/\SemOp P o (evF tm) (base+Qap*i) fp (. =e)/\(∀ p∈fp,hp p.1=some p.2)/\QAh (base+Qap*i) fp e
 | .skip=>∃ g t,o.guard=some g/\Qec all g.1=some t/\((∃ b,tm t= .a (.s (.bool b))/\b≠g.2)\/∃ l,tm t= .tup l)
def uT (all:List Oper) (ds:List Did) (i:Nat):Nat->Option TV:=fun t=>match all[i]?,ds[i]? with
 | some o,some d=>match o.dst with
  | some t'=>if t=t' then some d.v else none
  | none=>none
 | _,_=>none
def uH (ds:List Did) (i:Nat):Nat->Option (Option Row):=fun n=>match ds[i]? with
 | some d=>d.u n
 | none=>none
def Qd7 (P:Program) (all:List Oper) (base:Nat) (ds:List Did) (tm:Nat->TV) (hp:Hp):Prop :=
 all.length=ds.length/\∀ (i:Nat) o d,all[i]?=some o->ds[i]?=some d->Qwo P all base i o d (Qa3 (uT all ds) (List.range i) tm) (Qa3 (uH ds) (List.range i) hp)
def Qfy (o:Oper) (acc:List Nat):Nat:=o.after.toList.foldl (fun s e=>if Region.binds .any e then s ||| 2^e.on ||| acc.getD e.on 0 else s) 0
def QbL:List Oper->List Nat->List Nat
 | [],acc=>acc
 | o::l,acc=>QbL l (acc++ [Qfy o acc])
def Qdg (all:List Oper) (L:Nat->Prop):Prop:=∀ i o,all[i]?=some o->L i->∀ e∈o.after,Region.binds .any e=true->L e.on
theorem QtW (acc:List Nat) (i:Nat):∀ (l:List Edge) (s:Nat),(l.foldl (fun s e=>if Region.binds .any e then s ||| 2^e.on ||| acc.getD e.on 0 else s) s).testBit i=true ->
  s.testBit i=true\/∃ e∈l,Region.binds .any e=true/\(i=e.on\/(acc.getD e.on 0).testBit i=true):=by
 intro l
 induction l with
 | nil=>grind
 | cons e l ih=>grind
theorem Qt6 (all:List Oper) (L:Nat->Prop) (hL:Qdg all L):∀ (l:List Oper) (acc:List Nat),(∃ pre,all=pre++l/\pre.length=acc.length)->(∀ k,L k->∀ i,(acc.getD k 0).testBit i=true->L i) ->
  ∀ k,L k->∀ i,((QbL l acc).getD k 0).testBit i=true->L i:=by
 intro l
 induction l with
 | nil=>intro acc _ h;exact h
 | cons o l ih =>
  rintro acc ⟨pre,rfl,fD⟩ h;refine ih _ ⟨pre++ [o],by simp,by simp [fD]⟩ fun k hk i hi=>?_
  by_cases h1:k<acc.length
  .refine h k hk i ?_
   rw [List.getD_eq_getElem?_getD,List.getElem?_append_left h1,<- List.getD_eq_getElem?_getD] at hi;exact hi
  .by_cases h2:k=acc.length
   .subst h2
    have e1:(acc++ [Qfy o acc]).getD acc.length 0=Qfy o acc:=by simp [List.getD]
    rw [e1] at hi;rcases QtW acc i _ _ hi with h3|⟨e,h3,h4,h5⟩
    .simp at h3
    .grind [Qdg,QbL]
   .grind
def Qof (l m:List Nat):Bool:=l.all fun x=>m.all fun y=> !Nat.beq x y
def Did.rd:Did->List Nat
 | .skip=> []
 | .did fp _=>fp.map (·.1)
def Did.wr:Did->List Nat
 | .skip=> []
 | .did _ e=>e.up.map (·.1)++e.nw.map (·.1)
def Qdj (all:List Oper) (ds:List Did) (i j:Nat):Bool :=
 match all[i]?,all[j]?,ds[i]?,ds[j]? with
 | some x,some y,some d,some e=>x.apart all.toArray y&&Qof d.wr e.rd&&Qof e.wr d.rd
 | _,_,_,_=>true
def Qhw:List Oper->Nat->Bool
 | [],_=>true
 | o::l,i=>(o.after.toList.all fun e=> !Region.binds .any e||Nat.blt e.on i)&&Qhw l (i+1)
def Qeb (all:List Oper) (ds:List Did):Bool :=
 Qhw all 0&&(List.range all.length).all fun j=>(List.range j).all fun i=>((QbL all []).getD j 0).testBit i||Qdj all ds i j
theorem Qtg:∀ (l:List Oper) (i:Nat),Qhw l i=true->∀ (j:Nat) o,l[j]?=some o->∀ e∈o.after,Region.binds .any e=true->e.on<i+j:=by
 intro l
 induction l with
 | nil=>grind
 | cons x l ih =>
  intro i h j o hj e he hb;unfold Qhw at h;rw [Bool.and_eq_true] at h
  cases j with
  | zero =>
   injection hj with hj;subst hj
   have:=List.all_eq_true.1 h.1 e (by simpa using he);rw [hb] at this;simpa using this
  | succ j=>grind
theorem QkO {l m:List Nat} (h:Qof l m=true) {x:Nat} (h1:x∈l) (h2:x∈m):False:=by grind [List.all_eq_true,Nat.beq_refl,Qof]
theorem QbE {α:Type} {l:List (Nat × α)} {n:Nat} {x:α} (h:QaW l n=some x):(n,x)∈l:=by
 induction l with
 | nil=>cases h
 | cons p l ih=>grind [QaW,Nat.beq,Nat.eq_of_beq_eq_true]
theorem QJM {d:Did} {n:Nat} (h:(d.u n).isSome=true):n∈d.wr:=by
 cases d with
 | skip=>cases h
 | did fp e =>
  unfold Did.u at h;unfold Did.wr;simp only [] at h
  cases e1:QaW e.nw n with
  | some r=>exact List.mem_append_right _ (List.mem_map.2 ⟨_,QbE e1,rfl⟩)
  | none =>
   rw [e1] at h
   cases e2:QaW e.up n with
   | some r=>exact List.mem_append_left _ (List.mem_map.2 ⟨_,QbE e2,rfl⟩)
   | none=>grind
theorem Qvh (fp:List (Nat × Row)) (e:Ef) (hp:Hp):ap ((Did.did fp e).u) hp=e.app hp:=by
 funext n
 have h1:(Did.did fp e).u n=match QaW e.nw n with|some r=>some (some r)|none=>QaW e.up n:=rfl
 unfold ap Ef.app;rw [h1]
 cases QaW e.nw n with
 | some r=>rfl
 | none=>grind
section
variable {M:Nm->Prop} {P:Program} {F:Fr} {all:List Oper} {ds:List Did} {base N:Nat} {tm0:Nat->TV} {hp0:Hp} {Q:Exit->Act->World->Prop}
def lst (n:Nat) (listed:Array Bool):List Nat:=(List.range n).filter fun i=>listed.getD i false
structure Inv (M:Nm->Prop) (F:Fr) (all:List Oper) (ds:List Did) (base N:Nat) (tm0:Nat->TV) (hp0:Hp) (listed:Array Bool) (ρ:Nm) (a:Act) (w:World):Prop where
 size:listed.size=all.length
 closed:Qdg all fun i=>listed.getD i false=true
 defers:a.defers= []
 tmps:a.tmps.size=N
 vals:∀ t,VT ρ (Qa3 (uT all ds) (lst all.length listed) tm0 t) (a.tmps.getD t undef)
 conc:Conc F ρ (Qa3 (uH ds) (lst all.length listed) hp0) w
 fresh:∀ j,j<all.length->listed.getD j false=false->∀ n,base+Qap*j<=n->n<base+Qap*j+Qap->ρ n=none
 names:M ρ
theorem Qq4 (hb:Qeb all ds=true) {i j:Nat} (zR:i<j) (hj:j<all.length):((QbL all []).getD j 0).testBit i=true\/Qdj all ds i j=true:=by simp_all [Qeb,Bool.and_eq_true,List.all_eq_true,QbL,Qdj]
theorem Qi2 {L:Nat->Prop} (hL:Qdg all L) {i j:Nat} (h:((QbL all []).getD j 0).testBit i=true) (hj:L j):L i :=
 Qt6 all L hL all [] ⟨[],by simp,rfl⟩ (fun k _ i hi=>by simp at hi) j hj i h
theorem QsR {listed:Array Bool} (hb:Qeb all ds=true) (hc:Qdg all fun i=>listed.getD i false=true) {i j:Nat} (hi:i<all.length) (hj:j<all.length) (fJ:i≠j) (yQ:listed.getD i false=(decide (j<i))) (uV:listed.getD j false=false)
  (GR:∀ o,all[j]?=some o->∀ e∈o.after,Region.binds .any e=true->listed.getD e.on false=true) :
  Qdj all ds i j=true\/Qdj all ds j i=true:=by
 rcases Nat.lt_or_ge i j with h|h
 .
  rcases Qq4 hb h hj with h1|h1
  .exfalso
   have hL:Qdg all fun k=>listed.getD k false=true\/k=j:=fun k o hk KI e he YP=>by grind [Qeb,Qdg,Qdj]
   rcases Qi2 hL h1 (.inr rfl) with h2|h2
   .grind
   .omega
  .grind
 .
  have gT:j<i:=by omega
  rcases Qq4 hb gT hi with h1|h1
  .grind [Qi2,Qeb,Qdg,Qdj]
  .grind
theorem Qwb {i:Nat} {t:Nat} (h:(uT all ds i t).isSome=true):∃ o,all[i]?=some o/\o.dst=some t:=by grind [uT]
theorem Qr9 {i:Nat} {n:Nat} (h:(uH ds i n).isSome=true):∃ d,ds[i]?=some d/\n∈d.wr:=by grind [uH,QJM]
theorem QDb (vU:Qd7 P all base ds tm0 hp0) {i:Nat} {d:Did} (hd:ds[i]?=some d) {n:Nat} (hn:n∈d.wr):n∈d.rd\/(base+Qap*i<=n/\n<base+Qap*i+Qap):=by
 obtain ⟨o,ho⟩:∃ o,all[i]?=some o:=⟨_,List.getElem?_eq_getElem (by rw [vU.1];exact (List.getElem?_eq_some_iff.1 hd).1)⟩;have h:=vU.2 i o d ho hd
 cases d with
 | skip=>cases hn
 | did fp e =>
  obtain ⟨_,_,_,_,h2⟩:=h;unfold Did.wr at hn;rcases List.mem_append.1 hn with hn|hn
  .obtain ⟨p,hp,rfl⟩:=List.mem_map.1 hn
   obtain ⟨q,hq,e⟩:=h2 p hp;exact .inl (List.mem_map.2 ⟨q,hq,e⟩)
  .grind
theorem Qnz {listed:Array Bool} (vU:Qd7 P all base ds tm0 hp0) (hb:Qeb all ds=true) (hc:Qdg all fun i=>listed.getD i false=true) {j:Nat} {o:Oper} {d:Did} (ho:all[j]?=some o) (hd:ds[j]?=some d) (uV:listed.getD j false=false)
  (GR:∀ e∈o.after,Region.binds .any e=true->listed.getD e.on false=true) :
  (∀ t,t∈o.looksAt all.toArray->Qa3 (uT all ds) (lst all.length listed) tm0 t=Qa3 (uT all ds) (List.range j) tm0 t) /\
  (∀ n,n∈d.rd->Qa3 (uH ds) (lst all.length listed) hp0 n=Qa3 (uH ds) (List.range j) hp0 n) /\
  (∀ i,i<all.length->j<i->listed.getD i false=true->(∀ t,(uT all ds j t).isSome=true->(uT all ds i t).isSome=false)/\(∀ n,(uH ds j n).isSome=true->(uH ds i n).isSome=false)):=by
 have gG:=vU.1;have hj:j<all.length:=(List.getElem?_eq_some_iff.1 ho).1;have hr:∀ o',all[j]?=some o'->∀ e∈o'.after,Region.binds .any e=true->listed.getD e.on false=true:=fun o' jU=>by rw [ho] at jU;injection jU with jU;subst jU;exact GR
 have ap:∀ i o' d',i<all.length->i≠j->listed.getD i false=decide (j<i)->all[i]?=some o'->ds[i]?=some d' ->
   (∀ x,o'.dst=some x->x ∉ o.looksAt all.toArray)/\(∀ x,o'.dst=some x->o.dst≠some x)/\Qof d'.wr d.rd=true/\Qof d.wr d'.rd=true:=by
  intro i o' d' hi fJ yQ jU HK;rcases QsR hb hc hi hj fJ yQ uV hr with h|h
  .unfold Qdj at h
   rw [jU,ho,HK,hd] at h;simp only [Bool.and_eq_true] at h;obtain ⟨h1,h2,_⟩:=Oper.apart_spec h.1.1;exact ⟨h1,h2,h.1.2,h.2⟩
  .unfold Qdj at h
   rw [ho,jU,hd,HK] at h;simp only [Bool.and_eq_true] at h;obtain ⟨_,h2,h3⟩:=Oper.apart_spec h.1.1;exact ⟨h3,fun x hx hx'=>h2 x hx' hx,h.2,h.1.2⟩
 refine ⟨fun t ht=>?_,fun n hn=>?_,fun i hi YV yQ=>⟨fun t ht=>?_,fun n hn=>?_⟩⟩
 .rw [<- Qdv all.length j (by omega)]
  refine QdL _ t all.length _ _ tm0 fun i hi hu=>?_
  obtain ⟨o',jU,_⟩:=Qwb hu
  by_cases zR:i=j
  .grind
  .grind
 .rw [<- Qdv all.length j (by omega)]
  refine QdL _ n all.length _ _ hp0 fun i hi hu=>?_
  obtain ⟨d',HK,_⟩:=Qr9 hu
  by_cases zR:i=j
  .grind
  .grind [List.getElem?_eq_getElem,Nat.lt_or_ge,QkO,ap,Qd7,Qeb,Qdg,Qa3,uT,lst,List.range,uH]
 .grind [List.getElem?_eq_getElem,ap,uT,Qwb,Qd7,Qeb,Qdg,Qa3,lst,List.range,uH]
 .obtain ⟨o',jU⟩:∃ o',all[i]?=some o':=⟨_,List.getElem?_eq_getElem hi⟩
  obtain ⟨d',HK⟩:∃ d',ds[i]?=some d':=⟨_,List.getElem?_eq_getElem (by omega)⟩;obtain ⟨_,_,h3,h4⟩:=ap i o' d' hi (by omega) (by rw [yQ];simp;omega) jU HK
  cases e:(uH ds i n).isSome with
  | false=>rfl
  | true =>
   obtain ⟨_,WG,wT⟩:=Qr9 e;obtain ⟨_,JS,jC⟩:=Qr9 hn;rw [HK] at WG;injection WG with WG;subst WG
   rw [hd] at JS;injection JS with JS;subst JS
   exfalso;rcases QDb vU hd jC with h5|h5
   .exact QkO h3 wT h5
   .rcases QDb vU HK wT with h6|h6
    .exact QkO h4 jC h6
    .have:Qap*j+Qap<=Qap*i:=by rw [<- Nat.mul_succ];exact Nat.mul_le_mul_left _ YV
     omega
theorem QqC {listed:Array Bool} {n j:Nat} (hs:listed.size=n) (hj:j<n):lst n (listed.setIfInBounds j true)=(List.range n).filter fun i=>listed.getD i false||decide (i=j):=by
 unfold lst;apply List.filter_congr;intro i hi;have hi:i<n:=by simpa using hi
 by_cases h:i=j
 .subst h;simp [hs,hi]
 .have:(listed.setIfInBounds j true).getD i false=listed.getD i false:=getD_set_ne false (fun e=>h e.symm)
  rw [this];simp [h]
theorem QsQ (hM:∀ j,j<all.length->∀ ρ ρ',M ρ->Ext ρ ρ'->(∀ n,¬ (base+Qap*j<=n/\n<base+Qap*j+Qap)->ρ' n=ρ n)->M ρ') (vU:Qd7 P all base ds tm0 hp0) (hb:Qeb all ds=true) (GD:∀ (i:Nat) o d,all[i]?=some o->o.dst=some d->d<N) {listed:Array Bool} {ρ:Nm} {a:Act} {w:World} (h:Inv M F all ds base N tm0 hp0 listed ρ a w) {j:Nat}
  (hj:j∈Region.ready .any all.toArray listed) (K:Act->World->Prop) (hK:∀ ρ' a' w',Inv M F all ds base N tm0 hp0 (listed.setIfInBounds j true) ρ' a' w'->K a' w'):wpOp P all.toArray Q j K a w:=by
 obtain ⟨hl,o,ho,GR⟩:=mem_ready.1 hj;have jU:all[j]?=some o:=by simpa using ho
 have yP:j<all.length:=(List.getElem?_eq_some_iff.1 jU).1
 have uV:listed.getD j false=false:=by
  have hs:j<listed.size:=by rw [h.size];exact yP
  simp [hs] at hl |-;exact hl
 obtain ⟨d,hd⟩:∃ d,ds[j]?=some d:=⟨_,List.getElem?_eq_getElem (by rw [<- vU.1];exact yP)⟩;obtain ⟨s1,s2,s3⟩:=Qnz (tm0:=tm0) (hp0:=hp0) vU hb h.closed jU hd uV GR;have hok:=vU.2 j o d jU hd
 have next:∀ (ρ':Nm) (v:Value) (w':World),Ext ρ ρ'->(∀ n,¬ (base+Qap*j<=n/\n<base+Qap*j+Qap)->ρ' n=ρ n)->VT ρ' d.v v->Conc F ρ' (ap d.u (Qa3 (uH ds) (lst all.length listed) hp0)) w'->K (a.put o.dst v) w':=by
  intro ρ' v w' hx jF hv zM;refine hK ρ' _ w' ⟨by simp [h.size],fun i o' hi yQ e he YP=>?_,?_,?_,fun t=>?_,?_,fun i hi yQ n h1 h2=>?_,hM j yP ρ ρ' h.names hx jF⟩
  .by_cases zR:i=j
   .subst zR
    rw [jU] at hi;injection hi with hi;subst hi
    exact getD_set_true (GR e he YP)
   .have hli':(listed.setIfInBounds j true).getD i false=true:=yQ
    rw [getD_set_ne false (fun e=>zR e.symm)] at hli';exact getD_set_true (h.closed i o' hi hli' e he YP)
  .cases o.dst<;>exact h.defers
  .cases WH:o.dst<;>simp [Act.put,h.tmps]
  .rw [QqC h.size yP,Qfv _ t all.length j _ tm0 yP uV (fun i hi YV yQ hu=>(s3 i hi YV yQ).1 t hu)]
   have hu:uT all ds j t=if o.dst=some t then some d.v else none:=by
    unfold uT;rw [jU,hd];simp only []
    cases WH:o.dst with
    | none=>simp
    | some t'=>simp only [Option.some.injEq];by_cases e:t=t'<;>simp [e];intro e';exact absurd e'.symm e
   unfold ap;rw [hu]
   by_cases wE:o.dst=some t
   .rw [if_pos wE]
    have gT:t<a.tmps.size:=by rw [h.tmps];exact GD j o t jU wE
    simp only [Act.put,wE];have:(a.tmps.setIfInBounds t v).getD t undef=v:=by simp [gT]
    rw [this];exact hv
   .rw [if_neg wE]
    have:(a.put o.dst v).tmps.getD t undef=a.tmps.getD t undef:=by
     cases WH:o.dst with
     | none=>rfl
     | some t' =>
      have fJ:t'≠t:=by rintro rfl;exact wE WH
      simp [Act.put,Array.getElem?_setIfInBounds_ne fJ]
    rw [this];exact (h.vals t).ext hx
  .have:Qa3 (uH ds) (lst all.length (listed.setIfInBounds j true)) hp0=ap d.u (Qa3 (uH ds) (lst all.length listed) hp0):=by
    funext n
    rw [QqC h.size yP,Qfv _ n all.length j _ hp0 yP uV (fun i hi YV yQ hu=>(s3 i hi YV yQ).2 n hu)];have:uH ds j=d.u:=by funext n;unfold uH;rw [hd]
    unfold lst;rw [this]
   rw [this];exact zM
  .have zR:i≠j:=by
    rintro rfl;have hs:i<listed.size:=by rw [h.size];exact yP
    simp [hs] at yQ
   rw [getD_set_ne false (fun e=>zR e.symm)] at yQ
   have wL:¬ (base+Qap*j<=n/\n<base+Qap*j+Qap):=by
    rintro ⟨h3,h4⟩;rcases Nat.lt_or_ge i j with gT|HM
    .have:Qap*i+Qap<=Qap*j:=by rw [<- Nat.mul_succ];exact Nat.mul_le_mul_left _ gT
     omega
    .have:Qap*j+Qap<=Qap*i:=by rw [<- Nat.mul_succ];exact Nat.mul_le_mul_left _ (by omega)
     omega
   rw [jF n wL];exact h.fresh i hi yQ n h1 h2
 have grd:∀ g t b,o.guard=some g->Qec all g.1=some t->Qa3 (uT all ds) (List.range j) tm0 t= .a (.s (.bool b))->Region.wanted o (yielded all.toArray a.tmps)=decide (b=g.2):=by
  intro g t b hg wE hv
  have yX:t∈o.looksAt all.toArray:=by
   unfold Oper.looksAt;refine List.mem_append_right _ ?_;rw [hg];unfold Qec at wE
   cases e:all[g.1]? with
   | none=>rw [e] at wE;cases wE
   | some og=>rw [e] at wE;simp [e,wE]
  have hval:=h.vals t;rw [s1 t yX,hv] at hval;have hval:a.tmps.getD t undef= .bool b:=hval
  have JW:a.tmps[t]?=some (.bool b):=by
   cases e:a.tmps[t]? with
   | none=>simp [e,undef] at hval
   | some v=>simp [e] at hval;rw [hval]
  have hy:yielded all.toArray a.tmps g.1=some b:=by
   unfold yielded
   have:(all.toArray[g.1]?).bind (·.dst)=some t:=by
    unfold Qec at wE
    cases e:all[g.1]? with
    | none=>rw [e] at wE;cases wE
    | some og=>rw [e] at wE;simp [e,wE]
   rw [this];simp [JW]
  unfold Region.wanted;rw [hg];simp only [hy];cases b<;>cases g.2<;>rfl
 unfold wpOp;simp only [ho]
 cases d with
 | skip =>
  have hnw:Region.wanted o (yielded all.toArray a.tmps)=false:=by
   obtain ⟨g,t,hg,wE,⟨b,hv,fJ⟩|⟨_,hv⟩⟩:=hok
   .rw [grd g t b hg wE hv,decide_eq_false fJ]
   .have yX:t∈o.looksAt all.toArray:=by
     unfold Oper.looksAt;refine List.mem_append_right _ ?_;rw [hg];have GE:=wE;unfold Qec at GE
     cases e:all[g.1]? with
     | none=>rw [e] at GE;cases GE
     | some og=>rw [e] at GE;simp [e,GE]
    have hval:=h.vals t;rw [s1 t yX,hv] at hval;exact QmP hg wE hval
  rw [hnw];simp only [Bool.false_eq_true,if_false];refine next ρ undef w (Ext.refl _) (fun _ _=>rfl) (QiI ρ) ?_
  have:ap Did.skip.u (Qa3 (uH ds) (lst all.length listed) hp0)=Qa3 (uH ds) (lst all.length listed) hp0:=by funext n;rfl
  rw [this];exact h.conc
 | did fp e =>
  obtain ⟨hg,hsem,hfp,_⟩:=hok
  have hw:Region.wanted o (yielded all.toArray a.tmps)=true:=by
   cases e1:o.guard with
   | none=>unfold Region.wanted;rw [e1]
   | some g =>
    obtain ⟨t,wE,hv⟩:=hg g e1;rw [grd g t g.2 e1 wE hv];simp
  rw [hw];simp only [if_true];left;refine hsem F ρ (Qa3 (uH ds) (lst all.length listed) hp0) a w Q K (fun x hx=>Qxg x fun t ht=>?_) h.conc (fun p hp=>?_) (fun n h1 h2=>h.fresh j yP uV n h1 h2) (fun e' ρ' v w' he hx jF hv zM=>?_)
  .have yX:t∈o.looksAt all.toArray:=by
    unfold Oper.looksAt;refine List.mem_append_left _ (List.mem_filterMap.2 ⟨.tmp t,by subst ht;simpa using hx,rfl⟩)
   rw [<- s1 t yX];exact h.vals t
  .rw [s2 p.1 (List.mem_map.2 ⟨p,hp,rfl⟩)];exact hfp p hp
  .subst he
   exact next ρ' v w' hx jF hv (by rw [Qvh];exact zM)
theorem QAV (hM:∀ j,j<all.length->∀ ρ ρ',M ρ->Ext ρ ρ'->(∀ n,¬ (base+Qap*j<=n/\n<base+Qap*j+Qap)->ρ' n=ρ n)->M ρ') (vU:Qd7 P all base ds tm0 hp0) (hb:Qeb all ds=true) (GD:∀ (i:Nat) o d,all[i]?=some o->o.dst=some d->d<N)
  (hQ:∀ ρ a w,a.defers= []->a.tmps.size=N->(∀ t,VT ρ (Qa3 (uT all ds) (List.range all.length) tm0 t) (a.tmps.getD t undef))->Conc F ρ (Qa3 (uH ds) (List.range all.length) hp0) w->M ρ->Q .normal a w) :
  ∀ (fuel:Nat) (listed:Array Bool) (ρ:Nm) (a:Act) (w:World),Inv M F all ds base N tm0 hp0 listed ρ a w->((List.range all.length).filter fun i=> !listed.getD i false).length<=fuel->wpAny P .any all.toArray Q fuel listed a w:=by
 have full:∀ (listed:Array Bool) (ρ:Nm) (a:Act) (w:World),Inv M F all ds base N tm0 hp0 listed ρ a w->Region.ready .any all.toArray listed= []->Q .normal a w:=by
  intro listed ρ a w h hr
  have KA:∀ n,∀ i,i<n->i<all.length->listed.getD i false=true:=by
   intro n
   induction n with
   | zero=>intro i hi;omega
   | succ n ih =>
    intro i hi KZ
    cases hl:listed.getD i false with
    | true=>rfl
    | false =>
     exfalso;obtain ⟨o,ho⟩:∃ o,all[i]?=some o:=⟨_,List.getElem?_eq_getElem KZ⟩;have hE:=(Bool.and_eq_true _ _ ▸ hb:Qhw all 0=true/\_).1
     have:i∈Region.ready .any all.toArray listed:=by
      refine mem_ready.2 ⟨?_,o,by simpa using ho,fun e he YP=>?_⟩
      .have hs:i<listed.size:=by rw [h.size];exact KZ
       simp [hs] at hl |-;exact hl
      .have:=Qtg all 0 hE i o ho e he YP
       exact ih e.on (by omega) (by omega)
     rw [hr] at this;cases this
  have hlst:lst all.length listed=List.range all.length:=by
   unfold lst;exact List.filter_eq_self.2 fun i hi=>KA (i+1) i (by omega) (by simpa using hi)
  refine hQ ρ a w h.defers h.tmps (fun t=>?_) ?_ h.names
  .rw [<- hlst];exact h.vals t
  .rw [<- hlst];exact h.conc
 intro fuel
 induction fuel with
 | zero =>
  intro listed ρ a w h hf
  have zV:Region.ready .any all.toArray listed= []:=by
   apply List.eq_nil_iff_forall_not_mem.2;intro j hj;obtain ⟨hl,o,ho,_⟩:=mem_ready.1 hj;have jU:all[j]?=some o:=by simpa using ho
   have yP:j<all.length:=(List.getElem?_eq_some_iff.1 jU).1;have hs:j<listed.size:=by rw [h.size];exact yP
   have:j∈(List.range all.length).filter fun i=> !listed.getD i false:=by
    refine List.mem_filter.2 ⟨by simpa using yP,?_⟩;simp [hs] at hl |-;exact hl
   rw [List.eq_nil_of_length_eq_zero (Nat.le_zero.1 hf)] at this;cases this
  exact ⟨zV,full listed ρ a w h zV⟩
 | succ fuel ih =>
  intro listed ρ a w h hf;refine ⟨fun hr=>full listed ρ a w h hr,fun j hj=>?_⟩;refine QsQ hM vU hb GD h hj _ fun ρ' a' w' h'=>ih _ ρ' a' w' h' ?_
  obtain ⟨hl,o,ho,_⟩:=mem_ready.1 hj;have jU:all[j]?=some o:=by simpa using ho
  have yP:j<all.length:=(List.getElem?_eq_some_iff.1 jU).1;have hs:j<listed.size:=by rw [h.size];exact yP
  have uV:listed.getD j false=false:=by simp [hs] at hl |-;exact hl
  have gT:((List.range all.length).filter fun i=> !(listed.setIfInBounds j true).getD i false).length<((List.range all.length).filter fun i=> !listed.getD i false).length:=by
   have e:(List.range all.length).filter (fun i=> !(listed.setIfInBounds j true).getD i false)=((List.range all.length).filter fun i=> !listed.getD i false).filter fun i=>decide (i≠j):=by
    rw [List.filter_filter];apply List.filter_congr;intro i hi
    by_cases zR:i=j
    .subst zR;simp [hs]
    .rw [getD_set_ne false (fun e=>zR e.symm)];simp [zR]
   rw [e];exact List.length_filter_lt_length_iff_exists.2 ⟨j,List.mem_filter.2 ⟨by simpa using yP,by rw [uV];rfl⟩,by simp⟩
  omega
end
abbrev Tm:=List (Nat × TV)
def tmG (tm:Tm):Nat->TV:=fun t=>match QaW tm t with
 | some v=>v
 | none=> .unk
abbrev Hl:=List (Nat × Option Row)
def hpG (h:Hl):Hp:=fun n=>match QaW h n with
 | some r=>r
 | none=>none
def QCo (tm:Tm) (d:Option Nat) (v:TV):Tm:=match d with
 | some d=>(d,v)::tm
 | none=>tm
def nwL:List (Nat × Row)->Hl->Hl
 | [],h=>h
 | p::l,h=>(p.1,some p.2)::nwL l h
def upL:List (Nat × Option Row)->Hl->Hl
 | [],h=>h
 | p::l,h=>p::upL l h
def QEB (e:Ef) (h:Hl):Hl:=nwL e.nw (upL e.up h)
theorem QaZ {α:Type} (m:Nat) (x:α) (l:List (Nat × α)) (n:Nat):QaW ((m,x)::l) n=if n=m then some x else QaW l n:=by
 show (match Nat.beq n m with|true=>some x|false=>QaW l n)=_
 cases hb:Nat.beq n m with
 | true=>rw [if_pos (Nat.eq_of_beq_eq_true hb)]
 | false=>rw [if_neg (Nat.ne_of_beq_eq_false hb)]
theorem Qbu (n:Nat) (r:Option Row) (h:Hl):hpG ((n,r)::h)=Hp.set (hpG h) n r:=by
 funext m
 unfold hpG Hp.set;rw [QaZ]
 by_cases hb:m=n<;>simp [hb]
theorem Qqo (u:List (Nat × Option Row)) (h:Hl) (n:Nat):hpG (upL u h) n=match QaW u n with|some r=>r|none=>hpG h n:=by
 induction u with
 | nil=>rfl
 | cons p u ih =>
  obtain ⟨m,r⟩:=p;show hpG ((m,r)::upL u h) n=_;rw [Qbu,QaZ];unfold Hp.set
  by_cases hb:n=m
  .rw [if_pos hb,if_pos hb]
  .rw [if_neg hb,if_neg hb,ih]
theorem Qqn (e:Ef) (h:Hl):hpG (QEB e h)=e.app (hpG h):=by
 funext n
 unfold QEB Ef.app;generalize e.nw=nw
 induction nw with
 | nil=>exact Qqo _ _ _
 | cons p nw ih =>
  obtain ⟨m,r⟩:=p;show hpG ((m,some r)::nwL nw (upL e.up h)) n=_;rw [Qbu,QaZ];unfold Hp.set
  by_cases hb:n=m
  .rw [if_pos hb,if_pos hb]
  .rw [if_neg hb,if_neg hb,ih]
theorem Qcd (t:Nat) (v:TV) (tm:Tm) (k:Nat):tmG ((t,v)::tm) k=if k=t then v else tmG tm k:=by
 unfold tmG;rw [QaZ]
 by_cases hb:k=t<;>simp [hb]
theorem QdU (t:Nat) (v:TV) (tm:Tm) (h:tmG tm t=v):tmG ((t,v)::tm)=tmG tm:=by
 funext k
 rw [Qcd];split
 .rename_i e;subst e;exact h.symm
 .rfl
def upK:List (Nat × Option Row)->Hl->(Hl->Prop)->Prop
 | [],h,K=>K h
 | p::l,h,K=>upK l h fun h=>K (p::h)
def nwK:List (Nat × Row)->Hl->(Hl->Prop)->Prop
 | [],h,K=>K h
 | p::l,h,K=>nwK l h fun h=>K ((p.1,some p.2)::h)
theorem Qse:∀ (l:List (Nat × Option Row)) (h:Hl) (K:Hl->Prop),upK l h K↔K (upL l h)
 | [],_,_=>Iff.rfl
 | _::l,h,_=>Qse l h _
theorem QqV:∀ (l:List (Nat × Row)) (h:Hl) (K:Hl->Prop),nwK l h K↔K (nwL l h)
 | [],_,_=>Iff.rfl
 | _::l,h,_=>QqV l h _
def Qt9 (tm:Tm) (d:Option Nat) (v:TV) (K:Tm->Prop):Prop:=fT v fun v=>match d with
 | some d=>K ((d,v)::tm)
 | none=>K tm
theorem Qca (tm:Tm) (d:Option Nat) (v:TV) (K:Tm->Prop):Qt9 tm d v K↔K (QCo tm d v):=by
 unfold Qt9;rw [QBw];cases d<;>exact Iff.rfl
def Qwv (e:Ef) (h:Hl) (K:Hl->Prop):Prop:=upK e.up h fun h=>nwK e.nw h K
theorem QhV (e:Ef) (h:Hl) (K:Hl->Prop):Qwv e h K↔K (QEB e h):=by unfold Qwv;rw [Qse,QqV];exact Iff.rfl
def fN (n:Nat) (K:Nat->Prop):Prop:=match n with
 | 0=>K 0
 | m+1=>K (m+1)
theorem Qcp (n:Nat) (K:Nat->Prop):fN n K↔K n:=by cases n<;>exact Iff.rfl
def Qkl (det:Bool) (d:Did) (l:List Did) (K:List Did->Prop):Prop:=match det with
 | true=>K (d::l)
 | false=>K l
def Qsq (P:Program) (T:Tys) (det:Bool) (all:List Oper) (base:Nat) (o:Oper) (ih:Nat->Tm->Hl->List Did->(Tm->Hl->List Did->Prop)->Prop) (i:Nat) (tm:Tm) (h:Hl) (rec:List Did) (K:Tm->Hl->List Did->Prop):Prop :=
 match o.guard with
  | none=>vop P T det o (evF (tmG tm)) (hpG h) (base+Qap*i) fun fp e=>Qt9 tm o.dst e.v fun tm=>Qwv e h fun h=>Qkl det (.did fp e) rec fun rec=>fN (i+1) fun i=>ih i tm h rec K
  | some (j,want)=>match Qec all j with
   | some t=>(match tmG tm t with
    | .a (.s (.bool b)) =>
     fB (!want) fun nw=>Gd b want nw (vop P T det o (evF (tmG ((t,.a (.s (.bool want)))::tm))) (hpG h) (base+Qap*i) fun fp e=>Qt9 ((t,.a (.s (.bool want)))::tm) o.dst e.v fun tm=>Qwv e h fun h=>Qkl det (.did fp e) rec fun rec=>fN (i+1) fun i =>
      ih i tm h rec K)
     (Qt9 ((t,.a (.s (.bool nw)))::tm) o.dst (.tup []) fun tm=>Qkl det .skip rec fun rec=>fN (i+1) fun i=>ih i tm h rec K)
    | .tup _=>Qt9 tm o.dst (.tup []) fun tm=>Qkl det .skip rec fun rec=>fN (i+1) fun i=>ih i tm h rec K
    | _=>False)
   | none=>False
noncomputable def Qsp (P:Program) (T:Tys) (det:Bool) (all:List Oper) (base:Nat) (i:Nat) (l:List Oper):Tm->Hl->List Did->(Tm->Hl->List Did->Prop)->Prop :=
 List.rec (motive:=fun _=>Nat->Tm->Hl->List Did->(Tm->Hl->List Did->Prop)->Prop) (fun _ tm h rec K=>K tm h rec) (fun o _ ih=>Qsq P T det all base o ih) l i
theorem Qg7 {P:Program} {T:Tys} {det:Bool} {all:List Oper} {base i:Nat} {o:Oper} {rest:List Oper} {tm:Tm} {h:Hl} {rec:List Did} {K:Tm->Hl->List Did->Prop} :
  Qsp P T det all base i (o::rest) tm h rec K=Qsq P T det all base o (fun i=>Qsp P T det all base i rest) i tm h rec K:=rfl
def u1 (o:Oper) (d:Did):Nat->Option TV:=fun t=>match o.dst with
 | some t'=>if t=t' then some d.v else none
 | none=>none
theorem Qk8 (tm:Tm) (o:Oper) (d:Did):tmG (QCo tm o.dst d.v)=ap (u1 o d) (tmG tm):=by
 funext t
 unfold QCo ap u1
 cases o.dst with
 | none=>rfl
 | some t' =>
  simp only [];rw [Qcd]
  by_cases h:t=t'<;>simp [h]
def QiR (P:Program) (all:List Oper) (base:Nat):Nat->List Oper->List Did->(Nat->TV)->Hp->(Nat->TV)->Hp->Prop
 | _,[],[],tm,hp,tm',fY=>tm'=tm/\fY=hp
 | i,o::rest,d::ds,tm,hp,tm',fY=>Qwo P all base i o d tm hp/\QiR P all base (i+1) rest ds (ap (u1 o d) tm) (ap d.u hp) tm' fY
 | _,_,_,_,_,_,_=>False
theorem Qn3 {P:Program} {T:Tys} (hT:QaT P T) {all:List Oper} {base:Nat} {K:Tm->Hl->List Did->Prop}:∀ (rest:List Oper) (i:Nat) (tm:Tm) (h:Hl) (rec:List Did),Qsp P T true all base i rest tm h rec K ->
  ∃ ds tm' h',QiR P all base i rest ds (tmG tm) (hpG h) (tmG tm') (hpG h')/\K tm' h' (ds.reverse++rec):=by
 intro rest
 induction rest with
 | nil=>intro i tm h rec hv;exact ⟨[],tm,h,⟨rfl,rfl⟩,hv⟩
 | cons o rest ih =>
  intro i tm h rec hv
  have step:∀ tm1:Tm,tmG tm1=tmG tm->(∀ g,o.guard=some g->∃ t,Qec all g.1=some t/\tmG tm t= .a (.s (.bool g.2))) ->
    vop P T true o (evF (tmG tm1)) (hpG h) (base+Qap*i) (fun fp e=>Qt9 tm1 o.dst e.v fun tm=>Qwv e h fun h=>Qkl true (.did fp e) rec fun rec=>fN (i+1) fun i=>Qsp P T true all base i rest tm h rec K) ->
    ∃ ds tm' h',QiR P all base i (o::rest) ds (tmG tm) (hpG h) (tmG tm') (hpG h')/\K tm' h' (ds.reverse++rec):=by
   intro tm1 GX hg uZ;obtain ⟨fp,_,h1,h2,h3,h4⟩:=Qkb hT uZ;obtain ⟨e,rfl⟩:=h4 rfl;obtain ⟨h5,h6⟩:=h3 e rfl;simp only [Qca,QhV,Qkl,Qcp] at h6;obtain ⟨ds,tm',h',h7,h8⟩:=ih _ _ _ _ h6;refine ⟨.did fp e::ds,tm',h',⟨⟨hg,by rw [<- GX];exact h1,h2,h5⟩,?_⟩,by simpa using h8⟩;rw [<- GX,Qvh,<- Qqn];have:=Qk8 tm1 o (.did fp e);rw [<- this];exact h7
  rw [Qg7] at hv;unfold Qsq at hv
  cases hg:o.guard with
  | none=>rw [hg] at hv;exact step tm rfl (fun g e=>by rw [hg] at e;cases e) hv
  | some g =>
   rw [hg] at hv;obtain ⟨g1,g2⟩:=g;simp only [] at hv
   cases hd:Qec all g1 with
   | none=>rw [hd] at hv;exact hv.elim
   | some t =>
    rw [hd] at hv;simp only [] at hv;split at hv
    .rename_i b hb
     rw [Qp0] at hv;obtain ⟨ZD,HP⟩:=hv
     by_cases e:b=g2
     .subst e
      exact step _ (QdU _ _ _ hb) (fun g' e=>by rw [hg] at e;injection e with e;subst e;exact ⟨t,hd,hb⟩) (ZD rfl)
     .have e2:b= !g2:=by cases b<;>cases g2<;>simp_all
      replace HP:=HP e2;simp only [Qca,Qkl,Qcp] at HP;obtain ⟨ds,tm',h',h7,h8⟩:=ih _ _ _ _ HP;refine ⟨.skip::ds,tm',h',⟨⟨(g1,g2),t,hg,hd,.inl ⟨b,hb,e⟩⟩,?_⟩,by simpa using h8⟩;have h9:=Qk8 ((t,.a (.s (.bool !g2)))::tm) o .skip;rw [QdU _ _ _ (by rw [hb,e2])] at h9;have jZ:ap Did.skip.u (hpG h)=hpG h:=by funext n;rfl
      rw [<- h9,jZ];exact h7
    .rename_i l hb
     simp only [Qca,Qkl,Qcp] at hv;obtain ⟨ds,tm',h',h7,h8⟩:=ih _ _ _ _ hv;refine ⟨.skip::ds,tm',h',⟨⟨(g1,g2),t,hg,hd,.inr ⟨l,hb⟩⟩,?_⟩,by simpa using h8⟩;have h9:=Qk8 tm o .skip;have jZ:ap Did.skip.u (hpG h)=hpG h:=by funext n;rfl
     rw [<- h9,jZ];exact h7
    .exact hv.elim
theorem Qi4 {P:Program} {all:List Oper} {base:Nat}:∀ (rest:List Oper) (i:Nat) (ds:List Did) (tm:Nat->TV) (hp:Hp) (tm':Nat->TV) (fY:Hp),QiR P all base i rest ds tm hp tm' fY->rest.length=ds.length
 | [],_,[],_,_,_,_,_=>rfl
 | o::rest,i,d::ds,tm,hp,tm',fY,h=>by have:=Qi4 rest _ ds _ _ _ _ h.2;simp [this]
 | [],_,_::_,_,_,_,_,h=>h.elim
 | _::_,_,[],_,_,_,_,h=>h.elim
theorem QlS {P:Program} {all:List Oper} {base:Nat} {tm0:Nat->TV} {hp0:Hp} {dsA:List Did}:∀ (rest:List Oper) (i:Nat) (ds:List Did) (tm:Nat->TV) (hp:Hp) (tm':Nat->TV) (fY:Hp),QiR P all base i rest ds tm hp tm' fY ->
  (∀ k,rest[k]?=all[i+k]?)->(∀ k,ds[k]?=dsA[i+k]?)->tm=Qa3 (uT all dsA) (List.range i) tm0->hp=Qa3 (uH dsA) (List.range i) hp0 ->
  (∀ (k:Nat) o d,rest[k]?=some o->ds[k]?=some d->Qwo P all base (i+k) o d (Qa3 (uT all dsA) (List.range (i+k)) tm0) (Qa3 (uH dsA) (List.range (i+k)) hp0)) /\
  tm'=Qa3 (uT all dsA) (List.range (i+rest.length)) tm0/\fY=Qa3 (uH dsA) (List.range (i+rest.length)) hp0
 | [],i,[],tm,hp,tm',fY,h,_,_,h1,h2=>⟨fun k o d e=>by simp at e,by rw [h.1,h1];simp,by rw [h.2,h2];simp⟩
 | o::rest,i,d::ds,tm,hp,tm',fY,h,e1,e2,h1,h2=>by
  have ho:all[i]?=some o:=by have:=e1 0;simpa using this.symm
  have hd:dsA[i]?=some d:=by have:=e2 0;simpa using this.symm
  have uT1:uT all dsA i=u1 o d:=by
   funext t
   unfold uT;rw [ho,hd];rfl
  have uH1:uH dsA i=d.u:=by funext n;unfold uH;rw [hd]
  obtain ⟨g1,g2,g3⟩:=QlS (tm0:=tm0) (hp0:=hp0) rest (i+1) ds _ _ tm' fY h.2 (fun k=>by have:=e1 (k+1);rw [List.getElem?_cons_succ] at this;rw [this];congr 1;omega) (fun k=>by have:=e2 (k+1);rw [List.getElem?_cons_succ] at this;rw [this];congr 1;omega)
   (by rw [List.range_succ,Qdq,<- h1];show _=ap (uT all dsA i) tm;rw [uT1]) (by rw [List.range_succ,Qdq,<- h2];show _=ap (uH dsA i) hp;rw [uH1])
  refine ⟨fun k o' d' jU HK=>?_,by rw [g2];congr 2;simp;omega,by rw [g3];congr 2;simp;omega⟩
  cases k with
  | zero =>
   injection jU with jU;injection HK with HK;subst jU HK
   rw [Nat.add_zero,<- h1,<- h2];exact h.1
  | succ k =>
   have:=g1 k o' d' jU HK;rw [show i+(k+1)=i+1+k by omega];exact this
 | [],_,_::_,_,_,_,_,h,_,_,_,_=>h.elim
 | _::_,_,[],_,_,_,_,h,_,_,_,_=>h.elim
structure St where
 (tm:Tm) (h:Hl) (ids:List Nat)
def Qew:Nat:=65536
structure Gm where
 (ρ0:Nm) (k:Nat)
structure Rel (G:Gm) (F:Fr) (N:Nat) (σ:St) (ρ:Nm) (a:Act) (w:World):Prop where
 defers:a.defers= []
 tmps:a.tmps.size=N
 vals:∀ t,VT ρ (tmG σ.tm t) (a.tmps.getD t undef)
 conc:Conc F ρ (hpG σ.h) w
 ids:∀ n,ρ n≠none->n / Qew∈σ.ids
 ext:Ext G.ρ0 ρ
 dom:∀ n,G.k<=n->G.ρ0 n=none
def Qvx (N:Nat):List Oper->Bool
 | []=>true
 | o::l=>(match o.dst with|some d=>Nat.blt d N|none=>true)&&Qvx N l
theorem Qpj {N:Nat}:∀ {l:List Oper},Qvx N l=true->∀ (i:Nat) o d,l[i]?=some o->o.dst=some d->d<N:=by
 intro l
 induction l with
 | nil=>intro _ i o d h;cases h
 | cons x l ih =>
  intro h i o d hi hd;unfold Qvx at h;rw [Bool.and_eq_true] at h
  cases i with
  | zero =>
   injection hi with hi;subst hi
   rw [hd] at h;simpa using h.1
  | succ i=>exact ih h.2 i o d hi hd
def QcY (n:Nat):List Nat->Bool
 | []=>false
 | m::l=>match Nat.beq n m with
  | true=>true
  | false=>QcY n l
theorem QgK {n:Nat}:∀ {l:List Nat},QcY n l=false->n ∉ l:=by
 intro l
 induction l with
 | nil=>intro _ h;cases h
 | cons m l ih =>
  intro h hm;unfold QcY at h
  cases e:Nat.beq n m with
  | true=>rw [e] at h;cases h
  | false =>
   rw [e] at h;rcases List.mem_cons.1 hm with rfl|hm
   .rw [Nat.beq_refl] at e;cases e
   .exact ih h hm
def hdN:List Nat->Nat
 | []=>0
 | n::_=>n
noncomputable def QdB (P:Program) (T:Tys) (N:Nat) (id:Nat) (ops:List Oper) (draw:Bool) (σ:St) (Q:St->Prop):Prop :=
 match σ with
 | ⟨tm,h,ids⟩=>match QcY (id+1) ids with
  | true=>False
  | false=>match Qvx N ops&&Nat.ble ops.length 1024 with
   | false=>False
   | true=>match draw with
    | false=>Qsp P T false ops (Qew*(id+1)) 0 ops tm h [] fun tm h _=>Q ⟨tm,h,(id+1)::ids⟩
    | true=>Qsp P T true ops (Qew*(id+1)) 0 ops tm h [] fun tm h rec=>Sd (Qeb ops rec.reverse=true) (Q ⟨tm,h,(id+1)::ids⟩)
theorem Qk4 {id n i L:Nat} (hL:L<=1024) (hi:i<L) (h1:Qew*(id+1)+Qap*i<=n) (h2:n<Qew*(id+1)+Qap*i+Qap):n / Qew=id+1:=by
 have:Qap*i+Qap<=Qew:=by
  have:Qap*i+Qap=Qap*(i+1):=by rw [Nat.mul_succ]
  rw [this];have:Qap*(i+1)<=Qap*1024:=Nat.mul_le_mul_left _ (by omega);unfold Qap Qew at *;omega
 refine Nat.div_eq_of_lt_le ?_ ?_
 .rw [Nat.mul_comm];omega
 .have:(id+1+1)*Qew=Qew*(id+1)+Qew:=by rw [Nat.add_mul,Nat.one_mul,Nat.mul_comm]
  rw [this];omega
theorem QhB {id j L:Nat} {ids:List Nat} {ρ ρ':Nm} (hL:L<=1024) (hj:j<L) (h:∀ n,ρ n≠none->n / Qew∈(id+1)::ids) (hf:∀ n,¬ (Qew*(id+1)+Qap*j<=n/\n<Qew*(id+1)+Qap*j+Qap)->ρ' n=ρ n) (n:Nat) (hn:ρ' n≠none):n / Qew∈(id+1)::ids:=by
 by_cases hr:Qew*(id+1)+Qap*j<=n/\n<Qew*(id+1)+Qap*j+Qap
 .rw [Qk4 hL hj hr.1 hr.2];simp
 .rw [hf n hr] at hn;exact h n hn
theorem Qle {id':Nat} {P:Program} (hm:P.follows .mixedOrders=true) {T:Tys} (hT:QaT P T) {G:Gm} {F:Fr} {N id:Nat} {ops:Array Oper} {σ:St} {ρ:Nm} {a:Act} {w:World} {Q:Exit->Act->World->Prop} {K:St->Prop} (hr:Rel G F N σ ρ a w)
  (hv:QdB P T N id ops.toList true σ K) (hQ:∀ σ' ρ' a' w',K σ'->Rel G F N σ' ρ' a' w'->Q .normal a' w'):(Code.region id' ops true).wp P Q a w:=by
 obtain ⟨tm,h,ids⟩:=σ;unfold QdB at hv;simp only [] at hv
 cases e1:QcY (id+1) ids with
 | true=>rw [e1] at hv;exact hv.elim
 | false =>
  rw [e1] at hv;simp only [] at hv
  cases e2:(Qvx N ops.toList&&Nat.ble ops.toList.length 1024) with
  | false=>rw [e2] at hv;exact hv.elim
  | true =>
   rw [e2] at hv;simp only [] at hv;rw [Bool.and_eq_true] at e2;have hL:=Nat.le_of_ble_eq_true e2.2
   have yG:∀ n,n / Qew=id+1->ρ n=none:=fun n hn=>by
    cases e:ρ n with
    | none=>rfl
    | some p=>exact absurd (hn ▸ hr.ids n (by rw [e];simp)) (QgK e1)
   obtain ⟨ds,tm',h',h1,h2⟩:=Qn3 hT _ _ _ _ _ hv;have gG:=Qi4 _ _ _ _ _ _ _ h1;obtain ⟨g1,g2,g3⟩:=QlS (tm0:=tmG tm) (hp0:=hpG h) (dsA:=ds) _ _ _ _ _ _ _ h1 (fun k=>by simp) (fun k=>by simp) rfl rfl;simp only [Nat.zero_add] at g1 g2 g3;have vU:Qd7 P ops.toList (Qew*(id+1)) ds (tmG tm) (hpG h):=⟨gG,fun i o d ho hd=>g1 i o d ho hd⟩;simp only [List.append_nil,List.reverse_reverse] at h2;obtain ⟨h2,h2'⟩:=h2;refine wp_region_any hm ?_;have jJ:ops.toList.toArray=ops:=by simp
   have zV:lst ops.toList.length (Array.replicate ops.size false)= []:=by
    unfold lst;apply List.filter_eq_nil_iff.2;intro i hi;have:i<ops.size:=by simpa using hi
    simp [this]
   have key:=QAV (M:=fun ρ=>(∀ n,ρ n≠none->n / Qew∈(id+1)::ids)/\Ext G.ρ0 ρ) (P:=P) (F:=F) (Q:=Q) (N:=N) (fun j hj ρ ρ' h hx hf=>⟨fun n hn=>QhB hL hj h.1 hf n hn,h.2.trans hx⟩) vU h2 (Qpj e2.1)
    (fun ρ' a' w' k1 k2 k3 k4 k5=>hQ ⟨tm',h',(id+1)::ids⟩ ρ' a' w' h2' ⟨k1,k2,fun t=>by rw [g2];exact k3 t,by rw [g3];exact k4,k5.1,k5.2,hr.dom⟩)
    ops.size (Array.replicate ops.size false) ρ a { w with drawn:=w.drawn+1 } ⟨by simp,fun i o _ hl=>?_,hr.defers,hr.tmps,fun t=>?_,?_,fun j hj _ n h3 h4=>yG n (Qk4 hL hj h3 h4),⟨fun n hn=>List.mem_cons_of_mem _ (hr.ids n hn),hr.ext⟩⟩ (Nat.le_trans (List.length_filter_le _ _) (by simp))
   .rw [jJ] at key;exact key
   .exfalso
    have hl':(Array.replicate ops.size false).getD i false=true:=hl
    by_cases hi:i<ops.size<;>simp [hi] at hl'
   .rw [zV];exact hr.vals t
   .rw [zV];exact hr.conc.same rfl rfl rfl rfl
structure RelM (M:Nm->Prop) (F:Fr) (N:Nat) (tm:Tm) (h:Hl) (ρ:Nm) (a:Act) (w:World):Prop where
 defers:a.defers= []
 tmps:a.tmps.size=N
 vals:∀ t,VT ρ (tmG tm t) (a.tmps.getD t undef)
 conc:Conc F ρ (hpG h) w
 names:M ρ
theorem QuU {M:Nm->Prop} {P:Program} {T:Tys} (hT:QaT P T) {F:Fr} {N base:Nat} {all:List Oper} {K:Tm->Hl->List Did->Prop} {Q:Exit->Act->World->Prop} (GD:Qvx N all=true) (hM:∀ j,j<all.length->∀ ρ ρ',M ρ->Ext ρ ρ'->(∀ n,¬ (base+Qap*j<=n/\n<base+Qap*j+Qap)->ρ' n=ρ n)->M ρ')
  (hK:∀ tm' h' rec' ρ' a' w',K tm' h' rec'->RelM M F N tm' h' ρ' a' w'->Q .normal a' w') :
  ∀ (rest:List Oper) (i:Nat) (tm:Tm) (h:Hl) (rec:List Did) (ρ:Nm) (a:Act) (w:World),Qsp P T false all base i rest tm h rec K->(∀ k,rest[k]?=all[i+k]?)->RelM M F N tm h ρ a w ->
   (∀ j,i<=j->j<all.length->∀ n,base+Qap*j<=n->n<base+Qap*j+Qap->ρ n=none)->wpOps P all.toArray Q (List.range' i rest.length) a w:=by
 intro rest
 induction rest with
 | nil=>intro i tm h rec ρ a w hv _ hr _;exact hK _ _ _ _ _ _ hv hr
 | cons o rest ih =>
  intro i tm h rec ρ a w hv jI hr jF;have ho:all[i]?=some o:=by have:=jI 0;simpa using this.symm
  have KZ:i<all.length:=(List.getElem?_eq_some_iff.1 ho).1;have hrest':∀ k,rest[k]?=all[i+1+k]?:=fun k=>by have:=jI (k+1);rw [List.getElem?_cons_succ] at this;rw [this];congr 1;omega
  show wpOps P all.toArray Q (i::List.range' (i+1) rest.length) a w;rw [wpOps_cons];unfold wpOp;have jU:all.toArray[i]?=some o:=by simpa using ho
  simp only [jU]
  have next:∀ (tm1:Tm) (x:TV) (h1:Hl) (rec1:List Did) (ρ':Nm) (v:Value) (w':World),tmG tm1=tmG tm->Qsp P T false all base (i+1) rest (QCo tm1 o.dst x) h1 rec1 K->Ext ρ ρ'->(∀ n,¬ (base+Qap*i<=n/\n<base+Qap*i+Qap)->ρ' n=ρ n) ->
    VT ρ' x v->Conc F ρ' (hpG h1) w'->wpOps P all.toArray Q (List.range' (i+1) rest.length) (a.put o.dst v) w':=by
   intro tm1 x h1 rec1 ρ' v w' GX hv' hx hf hxv hc;refine ih (i+1) _ _ _ ρ' _ w' hv' hrest' ⟨?_,?_,fun t=>?_,hc,hM i KZ ρ ρ' hr.names hx hf⟩ (fun j hj yP n k1 k2=>?_)
   .cases o.dst<;>exact hr.defers
   .cases WH:o.dst<;>simp [Act.put,hr.tmps]
   .cases WH:o.dst with
    | none=>show VT ρ' (tmG tm1 t) _;rw [GX];exact (hr.vals t).ext hx
    | some t' =>
     show VT ρ' (tmG ((t',x)::tm1) t) _;rw [Qcd]
     by_cases ht:t=t'
     .subst ht
      rw [if_pos rfl];have gT:t<a.tmps.size:=by rw [hr.tmps];exact Qpj GD i o t ho WH
      have:(a.put (some t) v).tmps.getD t undef=v:=by simp [Act.put,gT]
      rw [this];exact hxv
     .rw [if_neg ht,GX]
      have:(a.put (some t') v).tmps.getD t undef=a.tmps.getD t undef:=by simp [Act.put,Array.getElem?_setIfInBounds_ne (fun e=>ht e.symm)]
      rw [this];exact (hr.vals t).ext hx
   .have:Qap*i+Qap<=Qap*j:=by rw [<- Nat.mul_succ];exact Nat.mul_le_mul_left _ hj
    rw [hf n (by omega)];exact jF j (by omega) yP n k1 k2
  have run:∀ tm1:Tm,tmG tm1=tmG tm->vop P T false o (evF (tmG tm1)) (hpG h) (base+Qap*i) (fun fp e=>Qt9 tm1 o.dst e.v fun tm=>Qwv e h fun h=>Qkl false (.did fp e) rec fun rec=>fN (i+1) fun i=>Qsp P T false all base i rest tm h rec K) ->
    o.wp P a w (wpOps P all.toArray Q (List.range' (i+1) rest.length)) Q:=by
   intro tm1 GX uZ;obtain ⟨fp,_,h1,h2,h3,_⟩:=Qkb hT uZ;refine h1 F ρ (hpG h) a w Q _ (fun x _=>Qxg x fun t _=>by rw [GX];exact hr.vals t) hr.conc h2 (fun n k1 k2=>jF i (Nat.le_refl _) KZ n k1 k2) (fun e ρ' v w' he hx hf hxv hc=>?_);have h9:=(h3 e he).2;simp only [Qca,QhV,Qkl,Qcp] at h9;exact next tm1 e.v _ _ ρ' v w' GX h9 hx hf hxv (by rw [Qqn];exact hc)
  rw [Qg7] at hv;unfold Qsq at hv
  cases hg:o.guard with
  | none =>
   rw [hg] at hv;have hw:Region.wanted o (yielded all.toArray a.tmps)=true:=by unfold Region.wanted;rw [hg]
   rw [hw];simp only [if_true];exact .inl (run tm rfl hv)
  | some g =>
   rw [hg] at hv;obtain ⟨g1,g2⟩:=g;simp only [] at hv
   cases hd:Qec all g1 with
   | none=>rw [hd] at hv;exact hv.elim
   | some t =>
    rw [hd] at hv;simp only [] at hv;split at hv
    .rename_i b hb
     rw [Qp0] at hv;obtain ⟨ZD,HP⟩:=hv;have hval:=hr.vals t;rw [hb] at hval;have hval:a.tmps.getD t undef= .bool b:=hval
     have JW:a.tmps[t]?=some (.bool b):=by
      cases e:a.tmps[t]? with
      | none=>simp [e,undef] at hval
      | some v=>simp [e] at hval;rw [hval]
     have hy:yielded all.toArray a.tmps g1=some b:=by
      unfold yielded
      have:(all.toArray[g1]?).bind (·.dst)=some t:=by
       unfold Qec at hd
       cases e:all[g1]? with
       | none=>rw [e] at hd;cases hd
       | some og=>rw [e] at hd;simp [e,hd]
      rw [this];simp [JW]
     have hw:Region.wanted o (yielded all.toArray a.tmps)=decide (b=g2):=by
      unfold Region.wanted;rw [hg];simp only [hy];cases b<;>cases g2<;>rfl
     rw [hw]
     by_cases e:b=g2
     .subst e
      simp only [decide_true,if_true];exact .inl (run _ (QdU _ _ _ hb) (ZD rfl))
     .have e2:b= !g2:=by cases b<;>cases g2<;>simp_all
      replace HP:=HP e2;simp only [Qca,Qkl,Qcp] at HP;rw [decide_eq_false e];simp only [Bool.false_eq_true,if_false];exact next _ _ _ _ ρ undef w (QdU _ _ _ (by rw [hb,e2])) HP (Ext.refl _) (fun _ _=>rfl) (QiI ρ) hr.conc
    .rename_i l hb
     simp only [Qca,Qkl,Qcp] at hv;have hval:=hr.vals t;rw [hb] at hval;rw [QmP hg hd hval];simp only [Bool.false_eq_true,if_false];exact next _ _ _ _ ρ undef w rfl hv (Ext.refl _) (fun _ _=>rfl) (QiI ρ) hr.conc
    .exact hv.elim
theorem QjL {id':Nat} {P:Program} (hm:P.follows .mixedOrders=true) {T:Tys} (hT:QaT P T) {G:Gm} {F:Fr} {N id:Nat} {ops:Array Oper} {draw:Bool} {σ:St} {ρ:Nm} {a:Act} {w:World} {Q:Exit->Act->World->Prop} {K:St->Prop} (hr:Rel G F N σ ρ a w)
  (hv:QdB P T N id ops.toList draw σ K) (hQ:∀ σ' ρ' a' w',K σ'->Rel G F N σ' ρ' a' w'->Q .normal a' w'):(Code.region id' ops draw).wp P Q a w:=by
 cases draw with
 | true=>exact Qle hm hT hr hv hQ
 | false =>
  obtain ⟨tm,h,ids⟩:=σ;unfold QdB at hv;simp only [] at hv
  cases e1:QcY (id+1) ids with
  | true=>rw [e1] at hv;exact hv.elim
  | false =>
   rw [e1] at hv;simp only [] at hv
   cases e2:(Qvx N ops.toList&&Nat.ble ops.toList.length 1024) with
   | false=>rw [e2] at hv;exact hv.elim
   | true =>
    rw [e2] at hv;simp only [] at hv;rw [Bool.and_eq_true] at e2;have hL:=Nat.le_of_ble_eq_true e2.2
    have yG:∀ n,n / Qew=id+1->ρ n=none:=fun n hn=>by
     cases e:ρ n with
     | none=>rfl
     | some p=>exact absurd (hn ▸ hr.ids n (by rw [e];simp)) (QgK e1)
    have jJ:ops.toList.toArray=ops:=by simp
    have key:=QuU (M:=fun ρ=>(∀ n,ρ n≠none->n / Qew∈(id+1)::ids)/\Ext G.ρ0 ρ) (P:=P) hT (F:=F) (Q:=Q) e2.1 (fun j hj ρ ρ' h hx hf=>⟨fun n hn=>QhB hL hj h.1 hf n hn,h.2.trans hx⟩)
     (fun tm' h' rec' ρ' a' w' hk hr'=>hQ ⟨tm',h',(id+1)::ids⟩ ρ' a' w' hk ⟨hr'.defers,hr'.tmps,hr'.vals,hr'.conc,hr'.names.1,hr'.names.2,hr.dom⟩)
     ops.toList 0 tm h [] ρ a w hv (fun k=>by simp) ⟨hr.defers,hr.tmps,hr.vals,hr.conc,fun n hn=>List.mem_cons_of_mem _ (hr.ids n hn),hr.ext⟩ (fun j _ hj n h3 h4=>yG n (Qk4 hL hj h3 h4))
    refine wp_region ?_;rw [jJ] at key;have:List.range ops.size=List.range' 0 ops.toList.length:=by rw [List.range_eq_range'];simp
    rw [this];exact key
def Wk (N k:Nat) (σ σ':St):Prop:=∀ G F ρ a w,Gm.k G=k->Rel G F N σ ρ a w->∃ ρ',Rel G F N σ' ρ' a w
theorem Wk.refl (N k:Nat) (σ:St):Wk N k σ σ:=fun _ _ ρ _ _ _ h=>⟨ρ,h⟩
abbrev VC:=St->(Exit->St->Prop)->Prop
def QG2 (x y:VC):VC:=fun σ Q=>x σ fun e σ=>match e with
  | .normal=>y σ Q
  | e=>Q e σ
def Qka (c:Operand) (x y:VC):VC:=fun σ Q=>match evF (tmG σ.tm) c with
  | .a (.s (.bool b))=>Br b (x σ Q) (y σ Q)
  | _=>False
def QzH (id:Nat) (x:VC):VC:=fun σ Q=>x σ fun e σ=>match e with
  | .exit id'=>match Nat.beq id' id with
   | true=>Q .normal σ
   | false=>Q (.exit id') σ
  | e=>Q e σ
def QzI (x:VC):VC:=fun σ Q=>x σ fun e σ=>match e with
  | .goto _=>False
  | e=>Q e σ
noncomputable def lpU (x:VC) (Q:Exit->St->Prop) (n:Nat):St->Prop :=
 Nat.rec (motive:=fun _=>St->Prop) (fun _=>False) (fun _ ih σ=>x σ fun e σ=>match e with
  | .normal=>ih σ
  | e=>Q e σ) n
inductive Lp (N k:Nat) (x:VC) (σ:St) (Q:Exit->St->Prop):Prop
 | inv (I:Nat->St->Prop) (h0:∃ n σ',Wk N k σ σ'/\I n σ') (hs:∀ n σ',I n σ'->x σ' fun e σ=>match e with
   | .normal=>∃ m σ'',m<n/\Wk N k σ σ''/\I m σ''
   | e=>Q e σ)
 | unroll (n:Nat) (h:lpU x Q n σ)
 | inw (I:Nat->St->Prop) (h0:∃ n σ',Wk N k σ σ'/\I n σ') (hs:∀ n σ',I n σ'->x σ' fun e σ=>match e with
   | .normal=>∃ m σ'',m<n/\Wk N k σ σ''/\I m σ''
   | e=>∃ σ'',Wk N k σ σ''/\Q e σ'')
def QC0 (N k:Nat) (x:VC):VC:=Lp N k x
noncomputable def vc (P:Program) (T:Tys) (N k:Nat) (c:Code):VC :=
 Code.rec (motive:=fun _=>VC)
  (fun σ Q=>Q .normal σ)
  (fun _ ops draw σ Q=>fN (hdN σ.ids) fun id=>QdB P T N id ops.toList draw σ fun σ=>Q .normal σ)
  (fun _ _ x y=>QG2 x y)
  (fun c _ _ x y=>Qka c x y)
  (fun id _ x=>QzH id x)
  (fun _ x=>QC0 N k x)
  (fun _ _ _ _ _ _ _ _=>False)
  (fun id σ Q=>Q (.exit id) σ)
  (fun _ x=>QzI x)
  (fun _ σ Q=>Q .normal σ)
  (fun _ _ _=>False)
  (fun σ Q=>Q .ret σ)
  (fun _ _ _=>False)
  c
def QFY (G:Gm) (F:Fr) (N:Nat) (Q:Exit->St->Prop):Exit->Act->World->Prop:=fun e a w=>∃ σ ρ,Rel G F N σ ρ a w/\Q e σ
theorem QuT {P:Program} (hm:P.follows .mixedOrders=true) {T:Tys} (hT:QaT P T) {G:Gm} {F:Fr} {N k:Nat} (YF:G.k=k):∀ (c:Code) (σ:St) (Q:Exit->St->Prop) (ρ:Nm) (a:Act) (w:World),vc P T N k c σ Q->Rel G F N σ ρ a w->c.wp P (QFY G F N Q) a w:=by
 intro c
 induction c with
 | skip=>intro σ Q ρ a w h hr;exact wp_skip ⟨σ,ρ,hr,h⟩
 | region id ops draw=>intro σ Q ρ a w h hr;exact QjL hm hT hr ((Qcp (hdN σ.ids) fun id=>QdB P T N id ops.toList draw σ fun σ=>Q .normal σ).1 h) fun σ' ρ' a' w' hk hr'=>⟨σ',ρ',hr',hk⟩
 | seq x y ihx ihy =>
  intro σ Q ρ a w h hr;refine wp_seq (wp_mono (ihx σ _ ρ a w h hr) fun e a' w' hq=>?_);obtain ⟨σ',ρ',hr',hq⟩:=hq
  cases e with
  | normal=>exact ihy σ' Q ρ' a' w' hq hr'
  | exit i=>exact ⟨σ',ρ',hr',hq⟩
  | goto i=>exact ⟨σ',ρ',hr',hq⟩
  | ret=>exact ⟨σ',ρ',hr',hq⟩
  | panic c=>exact ⟨σ',ρ',hr',hq⟩
  | outgrown=>exact ⟨σ',ρ',hr',hq⟩
 | cond c x y ihx ihy =>
  intro σ Q ρ a w h hr;change Qka c _ _ σ Q at h;unfold Qka at h;split at h
  .rename_i b hb
   have hv:=Qxg (a:=a) (tm:=tmG σ.tm) c (fun t _=>hr.vals t);rw [hb] at hv;have hv:a.eval c= .bool b:=hv;obtain ⟨h1,h2⟩:=h;exact wp_cond_split hv (fun e=>ihx σ Q ρ a w (h1 e) hr) (fun e=>ihy σ Q ρ a w (h2 e) hr)
  .exact h.elim
 | block id x ih =>
  intro σ Q ρ a w h hr;refine wp_block (wp_mono (ih σ _ ρ a w h hr) fun e a' w' hq=>?_);obtain ⟨σ',ρ',hr',hq⟩:=hq
  cases e with
  | exit i =>
   simp only [] at hq;show if i=id then QFY G F N Q .normal a' w' else QFY G F N Q (.exit i) a' w'
   cases hb:Nat.beq i id with
   | true=>rw [hb] at hq;rw [if_pos (Nat.eq_of_beq_eq_true hb)];exact ⟨σ',ρ',hr',hq⟩
   | false=>rw [hb] at hq;rw [if_neg (Nat.ne_of_beq_eq_false hb)];exact ⟨σ',ρ',hr',hq⟩
  | normal=>exact ⟨σ',ρ',hr',hq⟩
  | goto i=>exact ⟨σ',ρ',hr',hq⟩
  | ret=>exact ⟨σ',ρ',hr',hq⟩
  | panic c=>exact ⟨σ',ρ',hr',hq⟩
  | outgrown=>exact ⟨σ',ρ',hr',hq⟩
 | loop x ih =>
  intro σ Q ρ a w h hr;rcases h with ⟨I,⟨n0,σ0,hw0,FB⟩,gV⟩|⟨n,h⟩|⟨I,⟨n0,σ0,hw0,FB⟩,gV⟩
  .obtain ⟨ρ0,hr0⟩:=hw0 G F ρ a w YF hr
   refine wp_loop_ghost (fun n a w=>∃ σ ρ,Rel G F N σ ρ a w/\I n σ) n0 ⟨σ0,ρ0,hr0,FB⟩ fun n a w hI=>?_
   obtain ⟨σ1,ρ1,zA,hI1⟩:=hI;refine wp_mono (ih σ1 _ ρ1 a w (gV n σ1 hI1) zA) fun e a' w' hq=>?_
   obtain ⟨σ',ρ',hr',hq⟩:=hq
   cases e with
   | normal =>
    obtain ⟨m,σ'',gT,FS,UR⟩:=hq;obtain ⟨ρ'',GQ⟩:=FS G F ρ' a' w' YF hr';exact ⟨m,gT,σ'',ρ'',GQ,UR⟩
   | exit i=>exact ⟨σ',ρ',hr',hq⟩
   | goto i=>exact ⟨σ',ρ',hr',hq⟩
   | ret=>exact ⟨σ',ρ',hr',hq⟩
   | panic c=>exact ⟨σ',ρ',hr',hq⟩
   | outgrown=>exact ⟨σ',ρ',hr',hq⟩
  .refine wp_loop_ghost (fun n a w=>∃ σ ρ,Rel G F N σ ρ a w/\lpU (vc P T N k x) Q n σ) n ⟨σ,ρ,hr,h⟩ fun n a w hI=>?_
   obtain ⟨σ1,ρ1,zA,hI1⟩:=hI
   cases n with
   | zero=>exact hI1.elim
   | succ n =>
    refine wp_mono (ih σ1 _ ρ1 a w hI1 zA) fun e a' w' hq=>?_
    obtain ⟨σ',ρ',hr',hq⟩:=hq
    cases e with
    | normal=>exact ⟨n,Nat.lt_succ_self n,σ',ρ',hr',hq⟩
    | exit i=>exact ⟨σ',ρ',hr',hq⟩
    | goto i=>exact ⟨σ',ρ',hr',hq⟩
    | ret=>exact ⟨σ',ρ',hr',hq⟩
    | panic c=>exact ⟨σ',ρ',hr',hq⟩
    | outgrown=>exact ⟨σ',ρ',hr',hq⟩
  .obtain ⟨ρ0,hr0⟩:=hw0 G F ρ a w YF hr
   refine wp_loop_ghost (fun n a w=>∃ σ ρ,Rel G F N σ ρ a w/\I n σ) n0 ⟨σ0,ρ0,hr0,FB⟩ fun n a w hI=>?_
   obtain ⟨σ1,ρ1,zA,hI1⟩:=hI;refine wp_mono (ih σ1 _ ρ1 a w (gV n σ1 hI1) zA) fun e a' w' hq=>?_
   obtain ⟨σ',ρ',hr',hq⟩:=hq
   have ex:∀ {e:Exit},(∃ σ'',Wk N k σ' σ''/\Q e σ'')->∃ σ ρ,Rel G F N σ ρ a' w'/\Q e σ:=fun ⟨σ'',FS,hq⟩=>by
    obtain ⟨ρ'',GQ⟩:=FS G F ρ' a' w' YF hr';exact ⟨σ'',ρ'',GQ,hq⟩
   cases e with
   | normal =>
    obtain ⟨m,σ'',gT,FS,UR⟩:=hq;obtain ⟨ρ'',GQ⟩:=FS G F ρ' a' w' YF hr';exact ⟨m,gT,σ'',ρ'',GQ,UR⟩
   | exit i=>exact ex hq
   | goto i=>exact ex hq
   | ret=>exact ex hq
   | panic c=>exact ex hq
   | outgrown=>exact ex hq
 | exit id=>intro σ Q ρ a w h hr;exact wp_exit ⟨σ,ρ,hr,h⟩
 | ret=>intro σ Q ρ a w h hr;exact wp_ret ⟨σ,ρ,hr,h⟩
 | scope x ih =>
  intro σ Q ρ a w h hr;refine wp_scope_straight (wp_mono (ih σ _ ρ a w h hr) fun e a' w' hq=>?_);obtain ⟨σ',ρ',hr',hq⟩:=hq
  cases e with
  | goto i=>exact hq.elim
  | exit i=>exact ⟨σ',ρ',hr',hq⟩
  | normal=>exact ⟨σ',ρ',hr',hq⟩
  | ret=>exact ⟨σ',ρ',hr',hq⟩
  | panic c=>exact ⟨σ',ρ',hr',hq⟩
  | outgrown=>exact ⟨σ',ρ',hr',hq⟩
 | label l=>intro σ Q ρ a w h hr;exact wp_label ⟨σ,ρ,hr,h⟩
 | goto l=>intro σ Q ρ a w h hr;exact h.elim
 | rangeFunc f p x y _ _=>intro σ Q ρ a w h hr;exact h.elim
 | refuse s=>intro σ Q ρ a w h hr;exact h.elim
abbrev Rn:=List (Nat × Option Nat)
def QgG (m:Rn) (ρ:Nm):Nm:=⟨fun n=>match QaW m n with
 | some (some c)=>ρ c
 | some none=>some .empty
 | none=>none,ρ.fr⟩
theorem Qa7 (m:Rn) (ρ:Nm) (n:Nat):QgG m ρ n=match QaW m n with
 | some (some c)=>ρ c
 | some none=>some .empty
 | none=>none:=rfl
def SVm (m:Rn) (cur:SV):SV->Prop
 | .unk=>True
 | .ptr n o=>∃ c,QaW m n=some (some c)/\cur= .ptr c o
 | .sl n o k=>(∃ c,QaW m n=some (some c)/\cur= .sl c o k)\/(QaW m n=some none/\k=0/\cur= .nilsl)
 | .fn f cap=>∃ cap0,cur= .fn f cap0/\cap0.length=cap.length/\∀ (j:Nat) (p:Nat × Nat),cap[j]?=some p->∃ c,QaW m p.1=some (some c)/\cap0[j]?=some (c,p.2)
 | .fz es n cells=>cur= .fz es n cells\/(n=0/\cells= []/\cur= .nilsl)
 | s=>cur=s
theorem Qr3 {m:Rn} {ρ:Nm} {s s':SV} {v:Value} (h:VS ρ s v) (hm:SVm m s s'):VS (QgG m ρ) s' v:=by
 cases s'<;>simp only [SVm] at hm
 case unk=>exact trivial
 case ptr n o =>
  obtain ⟨c,h1,rfl⟩:=hm;obtain ⟨L,h2,h3⟩:=h;exact ⟨L,by rw [Qa7];rw [h1];exact h2,h3⟩
 case sl n o k =>
  rcases hm with ⟨c,h1,rfl⟩|⟨h1,rfl,rfl⟩
  .obtain ⟨A,cc,h2,h3,h4⟩:=h
   have e:QgG m ρ n=ρ c:=by rw [Qa7];rw [h1]
   exact ⟨A,cc,h2,h3,by rw [e];exact h4⟩
  .have h:v= .slice none 0 0:=h
   exact ⟨none,0,h,Nat.le_refl _,.inr ⟨by rw [Qa7];rw [h1],rfl⟩⟩
 case fn f cap =>
  obtain ⟨_,rfl,h1,h2⟩:=hm;obtain ⟨vs,h3,h4,h5⟩:=h;refine ⟨vs,h3,h4.trans h1,fun j p hp=>?_⟩;obtain ⟨c,h6,h7⟩:=h2 j p hp;obtain ⟨L,h8,h9⟩:=h5 j _ h7;exact ⟨L,by rw [Qa7];rw [h6];exact h8,h9⟩
 case fz es n cells =>
  rcases hm with rfl|⟨rfl,rfl,rfl⟩
  .exact h
  .have h:v= .slice none 0 0:=h
   exact ⟨none,0,h,Nat.le_refl _,.inr ⟨rfl,rfl⟩⟩
 all_goals (subst hm;exact h)
def SVsM (m:Rn) (l l':List SV):Prop:=l.length=l'.length/\∀ (k:Nat) s',l'[k]?=some s'->∃ s,l[k]?=some s/\SVm m s s'
theorem SVsM.nil {m:Rn}:SVsM m [] []:=⟨rfl,fun k s h=>by cases h⟩
theorem SVsM.cons {m:Rn} {s s':SV} {l l':List SV} (h:SVm m s s') (hl:SVsM m l l'):SVsM m (s::l) (s'::l') :=
 ⟨by simp [hl.1],fun k x hx=>by
  cases k with
  | zero=>injection hx with hx;subst hx;exact ⟨s,rfl,h⟩
  | succ k=>exact hl.2 k x hx⟩
theorem SVsM.append {m:Rn} {a a' b b':List SV} (h:SVsM m a a') (hl:SVsM m b b'):SVsM m (a++b) (a'++b') :=
 ⟨by simp [hl.1,h.1],fun k x hx=>by
  by_cases hk:k<a'.length
  .rw [List.getElem?_append_left hk] at hx
   rw [List.getElem?_append_left (by rw [h.1];exact hk)];exact h.2 k x hx
  .rw [List.getElem?_append_right (by omega)] at hx
   rw [List.getElem?_append_right (by rw [h.1];omega),h.1];exact hl.2 _ x hx⟩
def SV.scal:SV->Bool
 | .ptr _ _| .sl _ _ _| .fn _ _=>false
 | _=>true
def Qad:List SV->Bool
 | []=>true
 | s::l=>match s.scal with
  | true=>Qad l
  | false=>false
theorem Qgd {m:Rn} {s:SV} (h:s.scal=true):SVm m s s:=by
 cases s<;>simp [SVm,SV.scal] at h |-
theorem QcT {l:List SV} (h:Qad l=true):∀ s∈l,s.scal=true:=by
 induction l with
 | nil=>intro s hs;cases hs
 | cons a l ih =>
  unfold Qad at h
  cases e:a.scal with
  | false=>rw [e] at h;cases h
  | true =>
   rw [e] at h;intro s hs;rcases List.mem_cons.1 hs with rfl|hs
   .exact e
   .exact ih h s hs
theorem SVsM.scal {m:Rn} {l:List SV} (h:Qad l=true):SVsM m l l:=⟨rfl,fun _ s hs=>⟨s,hs,Qgd (QcT h s (List.mem_of_getElem? hs))⟩⟩
theorem QC1 {m:Rn} {ρ:Nm} {l l':List SV} {vs:List Value} (h:VSs ρ l vs) (hm:SVsM m l l'):VSs (QgG m ρ) l' vs :=
 ⟨hm.1.symm.trans h.1,fun k s' hs=>by
  obtain ⟨s,h1,h2⟩:=hm.2 k s' hs;obtain ⟨v,h3,h4⟩:=h.2 k s h1
  exact ⟨v,h3,Qr3 h4 h2⟩⟩
def AVm (m:Rn):AV->AV->Prop
 | .s x,.s y=>SVm m x y
 | .agg l,.agg l'=>SVsM m l l'
 | _,_=>False
theorem Qvi {m:Rn} {ρ:Nm} {x y:AV} {v:Value} (h:VA ρ x v) (hm:AVm m x y):VA (QgG m ρ) y v:=by
 cases x<;>cases y
 .exact Qr3 h hm
 .exact hm.elim
 .exact hm.elim
 .obtain ⟨cs,rfl,h1⟩:=h;exact ⟨cs,rfl,QC1 h1 hm⟩
def QsM (m:Rn):List AV->List AV->Prop
 | [],[]=>True
 | x::l,y::l'=>AVm m x y/\QsM m l l'
 | _,_=>False
theorem Qoz {m:Rn} {ρ:Nm}:∀ {l l':List AV} {vs:List Value},VAs ρ l vs->QsM m l l'->VAs (QgG m ρ) l' vs
 | [],[],vs,h,_=>⟨h.1,fun _ s e=>by cases e⟩
 | x::l,y::l',vs,h,hm=>by
  cases vs with
  | nil=>have:=h.1;simp at this
  | cons v vs =>
   obtain ⟨_,h1,h2⟩:=h.2 0 x rfl;injection h1 with h1;subst h1
   have:=Qoz (l:=l) (l':=l') (vs:=vs) ⟨by have:=h.1;simpa using this,fun k s e=>h.2 (k+1) s e⟩ hm.2;refine ⟨by simp [this.1],fun k s e=>?_⟩
   cases k with
   | zero=>injection e with e;subst e;exact ⟨v,rfl,Qvi h2 hm.1⟩
   | succ k=>exact this.2 k s e
 | [],_::_,_,_,h=>h.elim
 | _::_,[],_,_,h=>h.elim
def TVm (m:Rn) (x:TV):TV->Prop
 | .unk=>True
 | .a y=>∃ z,x= .a z/\AVm m z y
 | .tup l'=>∃ l,x= .tup l/\QsM m l l'
theorem Qg4 {m:Rn} {ρ:Nm} {x y:TV} {v:Value} (h:VT ρ x v) (hm:TVm m x y):VT (QgG m ρ) y v:=by
 cases y with
 | unk=>exact trivial
 | a y=>obtain ⟨_,rfl,h1⟩:=hm;exact Qvi h h1
 | tup l' =>
  obtain ⟨_,rfl,h1⟩:=hm;obtain ⟨vs,rfl,h2⟩:=h;exact ⟨vs,rfl,Qoz h2 h1⟩
def QAu (m:Rn) (n c:Nat):Bool:=m.all fun p=>Nat.beq p.1 n||(match p.2 with|some x=> !Nat.beq x c|none=>true)
def RowMt (m:Rn) (hp:Hp) (n:Nat) (r':Row):Prop :=
 (∃ c r,QaW m n=some (some c)/\hp c=some r/\r.es=r'.es/\(r'.own=true->r.own=true/\QAu m n c=true)/\SVsM m r.cells r'.cells)\/(QaW m n=some none/\r'.cells= [])
def QEO (m:Rn) (fY:Hp) (n c:Nat):Bool:=m.all fun p=>Nat.beq p.1 n||(match fY p.1 with|some _=>false|none=>true)||(match p.2 with|some x=> !Nat.beq x c|none=>true)
theorem QxR {m:Rn} {fY:Hp} {n c:Nat} (h:QEO m fY n c=true) {n' c':Nat} {s:Row} (hl2:fY n'=some s) (hl:QaW m n'=some (some c')) (fJ:n'≠n):c'≠c:=by
 have:=List.all_eq_true.1 h _ (QbE hl);simp only [Bool.or_eq_true,hl2] at this;rcases this with (h1|h1)|h1
 .exact absurd (Nat.eq_of_beq_eq_true h1) fJ
 .cases h1
 .rintro rfl;rw [Nat.beq_refl] at h1;cases h1
theorem QxQ {m:Rn} {fY:Hp} {n c:Nat} (h:QAu m n c=true):QEO m fY n c=true:=List.all_eq_true.2 fun p hp=>by
 have:=List.all_eq_true.1 h p hp;simp only [Bool.or_eq_true] at this |-;rcases this with h1|h1
 .exact .inl (.inl h1)
 .exact .inr h1
def Qve (m:Rn) (hp fY:Hp) (n:Nat) (r':Row):Prop :=
 (∃ c r,QaW m n=some (some c)/\hp c=some r/\r.es=r'.es/\(r'.own=true->r.own=true/\QEO m fY n c=true)/\SVsM m r.cells r'.cells)\/(QaW m n=some none/\r'.cells= [])
theorem RowMt.v {m:Rn} {hp fY:Hp} {n:Nat} {r':Row} (h:RowMt m hp n r'):Qve m hp fY n r':=by
 rcases h with ⟨c,r,h1,h2,h3,h4,h5⟩|h
 .exact .inl ⟨c,r,h1,h2,h3,fun e=>⟨(h4 e).1,QxQ (h4 e).2⟩,h5⟩
 .exact .inr h
theorem QeF {F:Fr} {m:Rn} {ρ:Nm} {hp fY:Hp} {w:World} (hc:Conc F ρ hp w) (h:∀ n r',fY n=some r'->Qve m hp fY n r'):Conc F (QgG m ρ) fY w:=by
 refine ⟨fun n r' hn=>?_,fun n r' k s' Ln Lk h1 h2 h3 h4 h5 h6=>?_,fun n r' L h1 h2 h3=>?_,hc.os,hc.tape,hc.output,hc.size,hc.block,fun L c hf=>?_⟩
 .rcases h n r' hn with ⟨c,r,h1,h2,h3,h4,h5⟩|⟨h1,h2⟩
  .have:=hc.rows c r h2
   unfold RowOk at this |-;have e:QgG m ρ n=ρ c:=by rw [Qa7];rw [h1]
   rw [e]
   cases e2:ρ c with
   | none=>rw [e2] at this;exact this.elim
   | some p =>
    rw [e2] at this
    cases p with
    | empty =>
     have this:r.cells= []:=this;have:=h5.1;rw [‹r.cells= []›] at this;exact List.eq_nil_of_length_eq_zero this.symm
    | «at» L =>
     obtain ⟨g1,g2,cs,t,fz,g3,g4,g5,g6⟩:=this;refine ⟨g1.trans h3,by rw [<- h5.1];exact g2,cs,t,fz,g3,g4,fun ho=>g5 (h4 ho).1,fun k s' hs=>?_⟩;obtain ⟨s,q1,q2⟩:=h5.2 k s' hs;obtain ⟨v,q3,q4⟩:=g6 k s q1;exact ⟨v,q3,Qr3 q4 q2⟩
  .unfold RowOk
   have e:QgG m ρ n=some .empty:=by rw [Qa7];rw [h1]
   rw [e];exact h2
 .rcases h n r' h1 with ⟨c,r,a1,a2,a3,a4,a5⟩|⟨a1,_⟩
  .have e:QgG m ρ n=ρ c:=by rw [Qa7];rw [a1]
   rw [e] at h5;rcases h k s' h3 with ⟨c',r2,b1,b2,_⟩|⟨b1,_⟩
   .have e2:QgG m ρ k=ρ c':=by rw [Qa7];rw [b1]
    rw [e2] at h6;exact hc.apart c r c' r2 Ln Lk a2 (a4 h2).1 b2 (fun e=>QxR (a4 h2).2 h3 b1 (fun e=>h4 e.symm) e.symm) h5 h6
   .rw [Qa7] at h6;rw [b1] at h6;cases h6
  .rw [Qa7] at h5;rw [a1] at h5;cases h5
 .rcases h n r' h1 with ⟨c,r,a1,a2,a3,a4,a5⟩|⟨a1,_⟩
  .have e:QgG m ρ n=ρ c:=by rw [Qa7];rw [a1]
   rw [e] at h3;exact hc.mine c r L a2 (a4 h2).1 h3
  .rw [Qa7] at h3;rw [a1] at h3;cases h3
 .obtain ⟨f1,f2,f3⟩:=hc.frz L c hf
  refine ⟨f1,fun n r' Ln h1 h2 h3=>?_,f3⟩;rcases h n r' h1 with ⟨c',r,a1,a2,a3,a4,a5⟩|⟨a1,_⟩
  .have e:QgG m ρ n=ρ c':=by rw [Qa7];rw [a1]
   rw [e] at h3;exact f2 c' r Ln a2 (a4 h2).1 h3
  .rw [Qa7] at h3;rw [a1] at h3;cases h3
theorem QfX {F:Fr} {m:Rn} {ρ:Nm} {hp fY:Hp} {w:World} (hc:Conc F ρ hp w) (h:∀ n r',fY n=some r'->RowMt m hp n r'):Conc F (QgG m ρ) fY w:=QeF hc fun n r' hn=>(h n r' hn).v
def HlS (m:Rn) (hp:Hp):List Nat->Hl->Prop
 | _,[]=>True
 | s,p::l=>(match QcY p.1 s with|true=>True|false=>match p.2 with|some r=>RowMt m hp p.1 r|none=>True)/\HlS m hp (p.1::s) l
def HlL (m:Rn) (hp:Hp) (l:Hl):Prop:=HlS m hp [] l
theorem QvP {m:Rn} {hp:Hp}:∀ {l:Hl} {s:List Nat},HlS m hp s l->∀ n r',QcY n s=false->hpG l n=some r'->RowMt m hp n r'
 | [],_,_,n,r',_,h=>by cases h
 | p::l,s,hl,n,r',hs,h=>by
  obtain ⟨k,_⟩:=p;rw [Qbu] at h;unfold Hp.set at h;split at h
  .rename_i e;subst e;subst h
   have:=hl.1;simp only [hs] at this;exact this
  .rename_i e
   refine QvP hl.2 n r' ?_ h;unfold QcY
   cases hb:Nat.beq n k with
   | true=>exact absurd (Nat.eq_of_beq_eq_true hb) e
   | false=>exact hs
theorem Qmb {m:Rn} {hp:Hp} {l:Hl} (h:HlL m hp l) (n:Nat) (r':Row) (hn:hpG l n=some r'):RowMt m hp n r':=QvP h n r' rfl hn
def QcL (m:Rn) (hp fY:Hp):List Nat->Hl->Prop
 | _,[]=>True
 | s,p::l=>(match QcY p.1 s with|true=>True|false=>match p.2 with|some r=>Qve m hp fY p.1 r|none=>True)/\QcL m hp fY (p.1::s) l
def HlV (m:Rn) (hp:Hp) (l:Hl):Prop:=QcL m hp (hpG l) [] l
theorem Qqk {m:Rn} {hp fY:Hp}:∀ {l:Hl} {s:List Nat},QcL m hp fY s l->∀ n r',QcY n s=false->hpG l n=some r'->Qve m hp fY n r'
 | [],_,_,n,r',_,h=>by cases h
 | p::l,s,hl,n,r',hs,h=>by
  obtain ⟨k,_⟩:=p;rw [Qbu] at h;unfold Hp.set at h;split at h
  .rename_i e;subst e;subst h
   have:=hl.1;simp only [hs] at this;exact this
  .rename_i e
   refine Qqk hl.2 n r' ?_ h;unfold QcY
   cases hb:Nat.beq n k with
   | true=>exact absurd (Nat.eq_of_beq_eq_true hb) e
   | false=>exact hs
theorem Qqj {m:Rn} {hp:Hp} {l:Hl} (h:HlV m hp l) (n:Nat) (r':Row) (hn:hpG l n=some r'):Qve m hp (hpG l) n r':=Qqk h n r' rfl hn
def TmL (m:Rn) (tm:Nat->TV):Tm->Prop
 | []=>True
 | p::l=>TVm m (tm p.1) p.2/\TmL m tm l
theorem Qr8 {m:Rn} {tm:Nat->TV}:∀ {l:Tm},TmL m tm l->∀ t,TVm m (tm t) (tmG l t)
 | [],_,t=>trivial
 | p::l,hl,t=>by
  obtain ⟨_,_⟩:=p;rw [Qcd];split
  .rename_i e;subst e;exact hl.1
  .exact Qr8 hl.2 t
def QAt (m:Rn) (ids:List Nat):Bool:=m.all fun p=>QcY (p.1 / Qew) ids
theorem Qf7 {n:Nat}:∀ {l:List Nat},QcY n l=true->n∈l
 | [],h=>by cases h
 | m::l,h=>by
  unfold QcY at h
  cases e:Nat.beq n m with
  | true=>rw [Nat.eq_of_beq_eq_true e];simp
  | false=>rw [e] at h;exact List.mem_cons_of_mem _ (Qf7 h)
def idn (m:Rn):Nat->Bool
 | 0=>true
 | k+1=>(match QaW m k with|some (some c)=>Nat.beq c k|_=>false)&&idn m k
theorem Qfw {m:Rn}:∀ {k:Nat},idn m k=true->∀ n,n<k->QaW m n=some (some n)
 | 0,_,n,h=>by omega
 | k+1,h,n,hn=>by
  unfold idn at h;rw [Bool.and_eq_true] at h
  by_cases e:n=k
  .subst e
   have h1:=h.1;split at h1
   .rename_i c hc;rw [hc,Nat.eq_of_beq_eq_true h1]
   .cases h1
  .exact Qfw h.2 n (by omega)
theorem Qen {m:Rn} {k:Nat} (h:idn m k=true) {G:Gm} (hk:G.k=k) {ρ:Nm} (hd:∀ n,G.k<=n->G.ρ0 n=none) (hx:Ext G.ρ0 ρ):Ext G.ρ0 (QgG m ρ):=⟨fun n p hn=>by
 have:n<k:=by
  rcases Nat.lt_or_ge n k with h|h
  .exact h
  .rw [hd n (by omega)] at hn;cases hn
 rw [Qa7];rw [Qfw h n this]
 exact hx n p hn,hx.fr⟩
theorem Qce (m:Rn) {N k:Nat} {σ σ':St} (h1:TmL m (tmG σ.tm) σ'.tm) (h2:HlL m (hpG σ.h) σ'.h) (h3:(QAt m σ'.ids&&idn m k)=true):Wk N k σ σ':=fun G F ρ a w hk hr =>
 ⟨QgG m ρ,hr.defers,hr.tmps,fun t=>Qg4 (hr.vals t) (Qr8 h1 t),QfX hr.conc (Qmb h2),fun n hn=>by
  have:(QaW m n).isSome=true:=by
   rw [Qa7] at hn
   cases e:QaW m n with
   | none=>rw [e] at hn;exact absurd rfl hn
   | some x=>rfl
  obtain ⟨x,hx⟩:=Option.isSome_iff_exists.1 this
  exact Qf7 (List.all_eq_true.1 (Bool.and_eq_true _ _ ▸ h3:QAt m σ'.ids=true/\_).1 _ (QbE hx)),Qen ((Bool.and_eq_true _ _ ▸ h3:_/\idn m k=true).2) hk hr.dom hr.ext,hr.dom⟩
theorem QG4 (m:Rn) {N k:Nat} {σ σ':St} (h1:TmL m (tmG σ.tm) σ'.tm) (h2:HlV m (hpG σ.h) σ'.h) (h3:(QAt m σ'.ids&&idn m k)=true):Wk N k σ σ':=fun G F ρ a w hk hr =>
 ⟨QgG m ρ,hr.defers,hr.tmps,fun t=>Qg4 (hr.vals t) (Qr8 h1 t),QeF hr.conc (Qqj h2),fun n hn=>by
  have:(QaW m n).isSome=true:=by
   rw [Qa7] at hn
   cases e:QaW m n with
   | none=>rw [e] at hn;exact absurd rfl hn
   | some x=>rfl
  obtain ⟨x,hx⟩:=Option.isSome_iff_exists.1 this
  exact Qf7 (List.all_eq_true.1 (Bool.and_eq_true _ _ ▸ h3:QAt m σ'.ids=true/\_).1 _ (QbE hx)),Qen ((Bool.and_eq_true _ _ ▸ h3:_/\idn m k=true).2) hk hr.dom hr.ext,hr.dom⟩
def Qok (T:Tys) (σ:St):List ResultVar->(List AV->Prop)->Prop
 | [],K=>K []
 | .tmp t::l,K=>(match tmG σ.tm t with
  | .a x=>Qok T σ l fun r=>K (x::r)
  | _=>False)
 | .cell p ty::l,K=>(match tmG σ.tm p with
  | .a (.s (.ptr i k))=>(match T ty with
   | some y=>(match y.kind.agg with
    | false=>Ge (hpG σ.h i) fun r=>Ge (r.cells[k]?) fun s=>Qok T σ l fun q=>K (.s s::q)
    | true=>Ge (hpG σ.h i) fun r=>Sg r.cells k y.size fun c=>Qok T σ l fun q=>K (.agg c::q))
   | none=>False)
  | _=>False)
def Qbc:List AV->TV
 | [x]=> .a x
 | l=> .tup l
def QjM (tmps:Array Value):ResultVar->Sem Value
 | .tmp t=>pure (tmps.getD t undef)
 | .cell p t=>do loadVar t (<- asAddr (tmps.getD p undef))
theorem QnA (fn:Func) (tmps:Array Value):results fn tmps=(do let vs <- fn.results.mapM (QjM tmps);pure (if h:vs.size=1 then vs[0] else .tuple vs)):=by
 unfold results;rfl
theorem Qmx {P:Program} {T:Tys} (hT:QaT P T) {G:Gm} {F:Fr} {N:Nat} {σ:St} {ρ:Nm} {a:Act} {w:World} (hr:Rel G F N σ ρ a w):∀ (l:List ResultVar) (K:List AV->Prop),Qok T σ l K ->
  ∃ r vs,K r/\VAs ρ r vs/\r.length=l.length/\(l.mapM (QjM a.tmps)).run P w= .ok vs w
 | [],K,h=>⟨[],[],h,⟨rfl,fun _ s e=>by cases e⟩,rfl,by simp⟩
 | .tmp t::l,K,h=>by
  unfold Qok at h;split at h
  .rename_i x hx
   obtain ⟨r,vs,h1,h2,h3,h4⟩:=Qmx hT hr l _ h;have hv:=hr.vals t;rw [hx] at hv;refine ⟨x::r,a.tmps.getD t undef::vs,h1,⟨by simp [h2.1],fun k s e=>?_⟩,by simp [h3],by rw [List.mapM_cons];simp only [QjM,Sem.run_bind,Sem.run_pure,Result.andThen_ok,h4]⟩
   cases k with
   | zero=>injection e with e;subst e;exact ⟨_,rfl,hv⟩
   | succ k=>exact h2.2 k s e
  .exact h.elim
 | .cell p ty::l,K,h=>by
  unfold Qok at h;split at h
  .rename_i i k hx
   have hv:=hr.vals p;rw [hx] at hv;obtain ⟨_,hL,hp⟩:=hv;have qL:∀ r,hpG σ.h i=some r->_:=fun r hr'=>QhD hr.conc hr' hL
   split at h
   .rename_i y hy
    split at h
    .rename_i hk
     obtain ⟨r,h1,s,h2,h3⟩:=h;obtain ⟨q,vs,g1,g2,g3,g4⟩:=Qmx hT hr l _ h3;obtain ⟨v,h5,h6⟩:=Qga hr.conc h1 hL h2;refine ⟨.s s::q,v::vs,g1,⟨by simp [g2.1],fun k s e=>?_⟩,by simp [g3],?_⟩
     .cases k with
      | zero=>injection e with e;subst e;exact ⟨_,rfl,h6⟩
      | succ k=>exact g2.2 k s e
     .rw [List.mapM_cons]
      have hl:(do loadVar ty (<- asAddr (a.tmps.getD p undef)):Sem Value).run P w= .ok v w:=by
       rw [hp];simp [asAddr,loadVar,(hT ty y hy).agg w,hk,load,Sem.run,h5,pure]
      simp only [Sem.run_bind] at hl;simp only [QjM,Sem.run_bind,Sem.run_pure];rw [hl];simp only [Result.andThen_ok,g4]
    .rename_i hk
     obtain ⟨r,h1,c,⟨h2,h2'⟩,h3⟩:=h;obtain ⟨q,vs,g1,g2,g3,g4⟩:=Qmx hT hr l _ h3;obtain ⟨us,h5,h6⟩:=QgS (P:=P) hr.conc h1 hL k c h2';rw [h2] at h6;refine ⟨.agg c::q,.agg us.toArray::vs,g1,⟨by simp [g2.1],fun k s e=>?_⟩,by simp [g3],?_⟩
     .cases k with
      | zero=>injection e with e;subst e;exact ⟨_,rfl,⟨_,rfl,h5⟩⟩
      | succ k=>exact g2.2 k s e
     .rw [List.mapM_cons]
      have hl:(do loadVar ty (<- asAddr (a.tmps.getD p undef)):Sem Value).run P w= .ok (.agg us.toArray) w:=by
       rw [hp];simp [asAddr,loadVar,(hT ty y hy).agg w,hk,(hT ty y hy).sizeOf w,h6]
      simp only [Sem.run_bind] at hl;simp only [QjM,Sem.run_bind,Sem.run_pure];rw [hl];simp only [Result.andThen_ok,g4]
   .exact h.elim
  .exact h.elim
def Qks:Nat->List AV->Tm
 | _,[]=> []
 | i,x::l=>(i,.a x)::Qks (i+1) l
def Qc9:Nat->List Row->Hl
 | _,[]=> []
 | i,x::l=>(i,some x)::Qc9 (i+1) l
theorem QiZ:∀ (l:List AV) (i t:Nat),tmG (Qks i l) t=match (if i<=t then l[t-i]? else none) with|some x=> .a x|none=> .unk
 | [],i,t=>by
  show TV.unk=_;split
  .rename_i h;split at h<;>simp at h
  .rfl
 | x::l,i,t=>by
  show tmG ((i,.a x)::Qks (i+1) l) t=_;rw [Qcd,QiZ l (i+1) t]
  by_cases h1:t=i
  .subst h1;simp
  .rw [if_neg h1]
   by_cases h2:i<=t
   .rw [if_pos (by omega),if_pos h2,show t-i=(t-(i+1))+1 by omega];rfl
   .rw [if_neg (by omega),if_neg h2]
theorem Qdk:∀ (l:List Row) (i n:Nat),hpG (Qc9 i l) n=if i<=n then l[n-i]? else none
 | [],i,n=>by show none=_;split<;>simp
 | x::l,i,n=>by
  show hpG ((i,some x)::Qc9 (i+1) l) n=_;rw [Qbu];unfold Hp.set;rw [Qdk l (i+1) n]
  by_cases h1:n=i
  .subst h1;simp
  .rw [if_neg h1]
   by_cases h2:i<=n
   .rw [if_pos (by omega),if_pos h2,show n-i=(n-(i+1))+1 by omega];rfl
   .rw [if_neg (by omega),if_neg h2]
def Qxz (R:Res) (H:List Row):Hl:=Qc9 H.length R.nw++(upL R.up (Qc9 0 H))
theorem QkY {α:Type} (l m:List (Nat × α)) (n:Nat):QaW (l++m) n=match QaW l n with|some x=>some x|none=>QaW m n:=by
 induction l with
 | nil=>rfl
 | cons p l ih =>
  obtain ⟨k,x⟩:=p;show QaW ((k,x)::(l++m)) n=_;rw [QaZ,QaZ]
  by_cases h:n=k
  .rw [if_pos h,if_pos h]
  .rw [if_neg h,if_neg h,ih]
theorem Qmi:∀ (l:List Row) (i n:Nat),QaW (Qc9 i l) n=if i<=n then (l[n-i]?).map some else none
 | [],i,n=>by show none=_;split<;>simp
 | x::l,i,n=>by
  show QaW ((i,some x)::Qc9 (i+1) l) n=_;rw [QaZ,Qmi l (i+1) n]
  by_cases h1:n=i
  .subst h1;simp
  .rw [if_neg h1]
   by_cases h2:i<=n
   .rw [if_pos (by omega),if_pos h2,show n-i=(n-(i+1))+1 by omega];rfl
   .rw [if_neg (by omega),if_neg h2]
theorem Qef (R:Res) (H:List Row) (vY:∀ p∈R.up,p.1<H.length):hpG (Qxz R H)=R.app H:=by
 funext n
 have e:hpG (Qxz R H) n=match QaW (Qc9 H.length R.nw) n with|some r=>r|none=>hpG (upL R.up (Qc9 0 H)) n:=by
  unfold Qxz;show (match QaW (Qc9 H.length R.nw++upL R.up (Qc9 0 H)) n with|some r=>r|none=>none)=_;rw [QkY];cases QaW (Qc9 H.length R.nw) n<;>rfl
 rw [e,Qmi];unfold Res.app
 by_cases h:H.length<=n
 .rw [if_pos h,Nat.ble_eq_true_of_le h]
  simp only []
  cases e2:R.nw[n-H.length]? with
  | some r=>rfl
  | none =>
   show hpG (upL R.up (Qc9 0 H)) n=none;rw [Qqo,Qdk]
   cases e3:QaW R.up n with
   | some x=>exact absurd (vY _ (QbE e3)) (by simp;omega)
   | none=>first|(simp;done)|(simp;omega)
 .rw [if_neg h,Qgl (by omega)]
  show hpG (upL R.up (Qc9 0 H)) n=_;rw [Qqo,Qdk];rw [if_pos (Nat.zero_le _),Nat.sub_zero]
  all_goals (cases QaW R.up n<;>rfl)
def QzD (H:List Row):List (Nat × Option Row)->Bool
 | []=>true
 | p::l=>(match H[p.1]? with|some r=>r.own|none=>false)&&(match p.2 with|some r=>r.own|none=>true)&&QzD H l
def Qye:List Row->Bool
 | []=>true
 | r::l=>r.own&&Qye l
def ltB (m:Rn) (k:Nat):Bool:=m.all fun p=>Nat.blt p.1 k
def QcX:List SV->Bool
 | []=>true
 | s::l=>match s.flat with
  | true=>QcX l
  | false=>false
theorem Qp7:∀ {l:List SV} {k:Nat} {s:SV},QcX l=true->l[k]?=some s->s.flat=true
 | a::l,0,s,h,e=>by
  injection e with e;subst e
  unfold QcX at h;split at h
  .assumption
  .cases h
 | a::l,k+1,s,h,e=>by
  unfold QcX at h;split at h
  .exact Qp7 (l:=l) (k:=k) h (by simpa using e)
  .cases h
def frS (c es:Nat) (cells:List SV) (s:SV):SV:=match s with
 | .sl i o n=>(match Nat.beq i c with
  | true=>(match Nat.beq o 0 with
   | true=> .fz es n cells
   | false=> .sl i o n)
  | false=> .sl i o n)
 | s=>s
def frA (c es:Nat) (cells:List SV) (x:AV):AV:=match x with
 | .s x=> .s (frS c es cells x)
 | .agg l=> .agg (l.map (frS c es cells))
def frT (c es:Nat) (cells:List SV) (x:TV):TV:=match x with
 | .unk=> .unk
 | .a x=> .a (frA c es cells x)
 | .tup l=> .tup (l.map (frA c es cells))
def QBQ (c es:Nat) (cells:List SV):Tm->Tm
 | []=> []
 | p::l=>(p.1,frT c es cells p.2)::QBQ c es cells l
def frR (c es:Nat) (cells:List SV) (r:Option Row):Option Row:=match r with
 | some r=>some ⟨r.own,r.es,r.cells.map (frS c es cells)⟩
 | none=>none
def QAs (c es:Nat) (cells:List SV):Hl->Hl
 | []=> []
 | p::l=>(p.1,frR c es cells p.2)::QAs c es cells l
def QHJ (c es:Nat) (cells:List SV) (σ:St):St:=⟨QBQ c es cells σ.tm,(c,none)::QAs c es cells σ.h,σ.ids⟩
def frN (ρ:Nm) (c:Nat) (cells:List SV):Nm:=⟨ρ.nm,fun L k=>ρ.fr L k\/(ρ c=some (.at L)/\k=cells)⟩
theorem QkT (ρ:Nm) (c:Nat) (cells:List SV):Ext ρ (frN ρ c cells):=⟨fun _ _ h=>h,fun _ _ h=> .inl h⟩
theorem QzJ {ρ:Nm} {c es:Nat} {cells:List SV} (wF:∀ L,ρ c=some (.at L)->L.es=es) (h0:ρ c=some .empty->cells= []) {s:SV} {v:Value} (h:VS ρ s v):VS (frN ρ c cells) (frS c es cells s) v:=by
 have hx:=h.ext (QkT ρ c cells);unfold frS;split
 .rename_i i o n
  split
  .rename_i e1
   split
   .rename_i e2
    obtain rfl:=Nat.eq_of_beq_eq_true e1;obtain rfl:=Nat.eq_of_beq_eq_true e2;obtain ⟨A,cc,g1,g2,g3⟩:=h;refine ⟨A,cc,g1,g2,?_⟩;rcases g3 with ⟨L,g4,g5⟩|⟨g4,g5⟩
    .refine .inl ⟨L,.inr ⟨g4,rfl⟩,wF L g4,?_⟩
     rcases g5 with ⟨rfl,g6⟩|g5
     .exact .inl ⟨rfl,by simpa using g6⟩
     .exact .inr g5
    .exact .inr ⟨h0 g4,g5⟩
   .exact hx
  .exact hx
 .exact hx
theorem QCY {ρ:Nm} {c es:Nat} {cells:List SV} (wF:∀ L,ρ c=some (.at L)->L.es=es) (h0:ρ c=some .empty->cells= []) {x:AV} {v:Value} (h:VA ρ x v):VA (frN ρ c cells) (frA c es cells x) v:=by
 cases x with
 | s x=>exact QzJ wF h0 h
 | agg l =>
  obtain ⟨cs,rfl,h3⟩:=h
  exact ⟨cs,rfl,by simpa using h3.1,fun q s e=>by
   rw [List.getElem?_map] at e
   cases e0:l[q]? with
   | none=>rw [e0] at e;cases e
   | some s0 =>
    rw [e0] at e;injection e with e;subst e
    obtain ⟨v,h4,h5⟩:=h3.2 q _ e0
    exact ⟨v,h4,QzJ wF h0 h5⟩⟩
theorem QzK {ρ:Nm} {c es:Nat} {cells:List SV} (wF:∀ L,ρ c=some (.at L)->L.es=es) (h0:ρ c=some .empty->cells= []) {x:TV} {v:Value} (h:VT ρ x v):VT (frN ρ c cells) (frT c es cells x) v:=by
 cases x with
 | unk=>exact trivial
 | a x=>exact QCY wF h0 h
 | tup l =>
  obtain ⟨cs,rfl,h3⟩:=h
  exact ⟨cs,rfl,by simpa using h3.1,fun q s e=>by
   rw [List.getElem?_map] at e
   cases e0:l[q]? with
   | none=>rw [e0] at e;cases e
   | some s0 =>
    rw [e0] at e;injection e with e;subst e
    obtain ⟨v,h4,h5⟩:=h3.2 q _ e0
    exact ⟨v,h4,QCY wF h0 h5⟩⟩
theorem Qjv (c es:Nat) (cells:List SV) (t:Nat):∀ l:Tm,tmG (QBQ c es cells l) t=frT c es cells (tmG l t)
 | []=>rfl
 | p::l=>by
  obtain ⟨k,x⟩:=p;show tmG ((k,frT c es cells x)::QBQ c es cells l) t=_;rw [Qcd,Qcd];split
  .rfl
  .exact Qjv c es cells t l
theorem Qmc (c es:Nat) (cells:List SV) (n:Nat):∀ l:Hl,hpG (QAs c es cells l) n=frR c es cells (hpG l n)
 | []=>rfl
 | p::l=>by
  obtain ⟨k,x⟩:=p;show hpG ((k,frR c es cells x)::QAs c es cells l) n=_;rw [Qbu,Qbu];unfold Hp.set;split
  .rfl
  .exact Qmc c es cells n l
theorem QkH {F:Fr} {ρ:Nm} {h:Hl} {w:World} (hc:Conc F ρ (hpG h) w) {c es:Nat} {cells:List SV} (hn:hpG h c=some ⟨true,es,cells⟩) (hf:QcX cells=true) :
  (∀ L,ρ c=some (.at L)->L.es=es)/\(ρ c=some .empty->cells= [])/\Conc F (frN ρ c cells) (hpG ((c,none)::QAs c es cells h)) w:=by
 have qL:=hc.rows c _ hn;have wF:∀ L,ρ c=some (.at L)->L.es=es:=fun L hL=>by unfold RowOk at qL;rw [hL] at qL;exact qL.1
 have h0:ρ c=some .empty->cells= []:=fun hL=>by unfold RowOk at qL;rw [hL] at qL;exact qL
 have key:∀ n r,hpG ((c,none)::QAs c es cells h) n=some r->n≠c/\∃ r0,hpG h n=some r0/\r=⟨r0.own,r0.es,r0.cells.map (frS c es cells)⟩:=fun n r hr=>by
  rw [Qbu] at hr;unfold Hp.set at hr;split at hr
  .cases hr
  .rename_i fJ
   rw [Qmc] at hr
   cases e:hpG h n with
   | none=>rw [e] at hr;cases hr
   | some r0=>rw [e] at hr;injection hr with hr;exact ⟨fJ,r0,rfl,hr.symm⟩
 refine ⟨wF,h0,fun n r hr=>?_,fun n r m s Ln Lm h1 h2 h3 h4 h5 h6=>?_,fun n r L h1 h2 h3=>?_,hc.os,hc.tape,hc.output,hc.size,hc.block,fun L k hk=>?_⟩
 .obtain ⟨_,r0,g1,rfl⟩:=key n r hr
  exact QdQ (ρ':=frN ρ c cells) (f:=frS c es cells) (hc.rows n r0 g1) rfl (fun s v=>QzJ wF h0) ⟨r0.own,r0.es,r0.cells.map (frS c es cells)⟩ rfl (fun x=>x) (fun k s hk=>QgH _ _ k s hk) (by simp)
 .obtain ⟨_,r0,g1,rfl⟩:=key n r h1
  obtain ⟨_,s0,g2,rfl⟩:=key m s h3;exact hc.apart n r0 m s0 Ln Lm g1 h2 g2 h4 h5 h6
 .obtain ⟨_,r0,g1,rfl⟩:=key n r h1
  exact hc.mine n r0 L g1 h2 h3
 .rcases hk with hk|⟨hk,rfl⟩
  .obtain ⟨f1,f2,f3⟩:=hc.frz L k hk
   refine ⟨f1,fun n r Ln h1 h2 h3=>?_,f3⟩;obtain ⟨_,r0,g1,rfl⟩:=key n r h1;exact f2 n r0 Ln g1 h2 h3
  .refine ⟨?_,fun n r Ln h1 h2 h3=>?_,.inr (hc.mine c _ L hn rfl hk)⟩
   .unfold RowOk at qL
    rw [hk] at qL;obtain ⟨g1,g2,cs,t,fz,g3,g4,_,g6⟩:=qL;refine ⟨g2,cs,t,fz,g3,g4,fun j s hs=>?_⟩;obtain ⟨v,q1,q2⟩:=g6 j s hs;exact ⟨v,q1,q2.vf (Qp7 hf hs)⟩
   .obtain ⟨fJ,r0,g1,rfl⟩:=key n r h1
    exact hc.apart n r0 c _ Ln L g1 h2 hn fJ h3 hk
theorem QCu {G:Gm} {F:Fr} {N:Nat} {σ:St} {ρ:Nm} {a:Act} {w:World} (hr:Rel G F N σ ρ a w) {c es:Nat} {cells:List SV} (hn:hpG σ.h c=some ⟨true,es,cells⟩) (hf:QcX cells=true):Rel G F N (QHJ c es cells σ) (frN ρ c cells) a w:=by
 obtain ⟨wF,h0,hc⟩:=QkH hr.conc hn hf;exact ⟨hr.defers,hr.tmps,fun t=>by show VT _ (tmG (QBQ c es cells σ.tm) t) _;rw [Qjv];exact QzK wF h0 (hr.vals t),hc,hr.ids,hr.ext.trans (QkT ρ c cells),hr.dom⟩
inductive Fin (H:List Row) (Post:Res->Prop):St->TV->Prop
 | mk {σ:St} {v:TV} (R:Res) (m:Rn) (h1:Post R) (h2:TVm m v R.v) (h3:HlL m (hpG σ.h) (Qxz R H)) (h4:(QzD H R.up&&Qye R.nw&&idn m H.length&&ltB m (H.length+R.nw.length))=true):Fin H Post σ v
 | mv {σ:St} {v:TV} (R:Res) (m:Rn) (h1:Post R) (h2:TVm m v R.v) (h3:HlV m (hpG σ.h) (Qxz R H)) (h4:(QzD H R.up&&Qye R.nw&&idn m H.length&&ltB m (H.length+R.nw.length))=true):Fin H Post σ v
 | fr {σ:St} {v:TV} {c es:Nat} {cells:List SV} (hn:hpG σ.h c=some ⟨true,es,cells⟩) (hf:QcX cells=true) (h:Fin H Post (QHJ c es cells σ) (frT c es cells v)):Fin H Post σ v
def QHI (T:Tys) (H:List Row) (Post:Res->Prop) (res:List ResultVar):Exit->St->Prop
 | .normal,σ=>Qok T σ res fun l=>Fin H Post σ (Qbc l)
 | .ret,σ=>Qok T σ res fun l=>Fin H Post σ (Qbc l)
 | _,_=>False
theorem Qfm {H:List Row}:∀ {l:List (Nat × Option Row)},QzD H l=true->∀ p∈l,(∃ r,H[p.1]?=some r/\r.own=true)/\∀ r,p.2=some r->r.own=true
 | [],_,p,hp=>by cases hp
 | q::l,h,p,hp=>by
  unfold QzD at h;rw [Bool.and_eq_true,Bool.and_eq_true] at h;rcases List.mem_cons.1 hp with rfl|hp
  .refine ⟨?_,fun r hr=>?_⟩
   .have:=h.1.1
    split at this
    .rename_i r hr;exact ⟨r,hr,this⟩
    .cases this
   .have:=h.1.2;rw [hr] at this;exact this
  .exact Qfm h.2 p hp
theorem Qfa:∀ {l:List Row},Qye l=true->∀ r∈l,r.own=true
 | [],_,r,hr=>by cases hr
 | q::l,h,r,hr=>by
  unfold Qye at h;rw [Bool.and_eq_true] at h;rcases List.mem_cons.1 hr with rfl|hr
  .exact h.1
  .exact Qfa h.2 r hr
theorem QxA {H:List Row} {Post:Res->Prop} {σ:St} {x:TV} (h:Fin H Post σ x):∀ {G:Gm} {F:Fr} {N:Nat} {ρ1:Nm} {a:Act} {w:World} {v:Value},G.k=H.length->Rel G F N σ ρ1 a w->VT ρ1 x v ->
  ∃ (R:Res) (ρ':Nm),Post R/\Ext G.ρ0 ρ'/\(∀ n,H.length+R.nw.length<=n->ρ' n=none)/\VT ρ' R.v v/\Conc F ρ' (R.app H) w /\
   (∀ p∈R.up,∃ r,H[p.1]?=some r/\r.own=true)/\(∀ r∈R.nw,r.own=true)/\(∀ p∈R.up,∀ r,p.2=some r->r.own=true):=by
 induction h with
 | mk R m g1 g2 g3 g4 =>
  intro G F N ρ1 a w v hk hr hv;rw [Bool.and_eq_true,Bool.and_eq_true,Bool.and_eq_true] at g4;obtain ⟨⟨⟨g5,g6⟩,g7⟩,g8⟩:=g4;have vY:=Qfm g5;refine ⟨R,QgG m ρ1,g1,Qen g7 hk hr.dom hr.ext,fun n hn=>?_,Qg4 hv g2,?_,fun p hp=>(vY p hp).1,Qfa g6,fun p hp=>(vY p hp).2⟩
  .rw [Qa7]
   cases e:QaW m n with
   | none=>rfl
   | some x =>
    have:=List.all_eq_true.1 g8 _ (QbE e);simp at this;omega
  .rw [<- Qef R H (fun p hp=>by obtain ⟨r,hr,_⟩:=(vY p hp).1;exact (List.getElem?_eq_some_iff.1 hr).1)]
   exact QfX hr.conc (Qmb g3)
 | mv R m g1 g2 g3 g4 =>
  intro G F N ρ1 a w v hk hr hv;rw [Bool.and_eq_true,Bool.and_eq_true,Bool.and_eq_true] at g4;obtain ⟨⟨⟨g5,g6⟩,g7⟩,g8⟩:=g4;have vY:=Qfm g5;refine ⟨R,QgG m ρ1,g1,Qen g7 hk hr.dom hr.ext,fun n hn=>?_,Qg4 hv g2,?_,fun p hp=>(vY p hp).1,Qfa g6,fun p hp=>(vY p hp).2⟩
  .rw [Qa7]
   cases e:QaW m n with
   | none=>rfl
   | some x =>
    have:=List.all_eq_true.1 g8 _ (QbE e);simp at this;omega
  .rw [<- Qef R H (fun p hp=>by obtain ⟨r,hr,_⟩:=(vY p hp).1;exact (List.getElem?_eq_some_iff.1 hr).1)]
   exact QeF hr.conc (Qqj g3)
 | fr hn hf h ih =>
  intro G F N ρ1 a w v hk hr hv;obtain ⟨wF,h0,_⟩:=QkH hr.conc hn hf;exact ih hk (QCu hr hn hf) (QzK wF h0 hv)
theorem Ql7 {P : Program} (hm : P.follows .mixedOrders = true) {T : Tys} (hT : QaT P T) {f : FuncId} {fn : Func} {c : Code} {args : List AV} {H : List Row} {Post : Res -> Prop} (N : Nat) (res : List ResultVar) (hf : P.funcs[f]? = some fn) (hn : (fn.name == "runtime.NumGoroutine") = false)
  (hb:fn.body=some c) (hN:fn.ntmps=N) (hres:fn.results.toList=res) (gG:(Nat.ble args.length N&&Nat.ble H.length 1000)=true) (h:vc P T N H.length c ⟨Qks 0 args,Qc9 0 H,[0]⟩ (QHI T H Post res)):Fn P f args H Post:=by
 rw [Bool.and_eq_true] at gG;have FJ:=Nat.le_of_ble_eq_true gG.1;have hl2:=Nat.le_of_ble_eq_true gG.2;refine ⟨⟨fn,hf,hn,by rw [hb];rfl⟩,fun ρ w vs hdom hargs hc=>?_⟩;have hvl:vs.size=args.length:=by have:=hargs.1;simpa using this.symm
 refine calls_of_wp hf hb (wp_mono (QuT hm hT (G:=⟨ρ,H.length⟩) (F:=⟨w,Qha H ρ,ρ.fr⟩) (N:=N) rfl c _ _ ρ _ w h ⟨rfl,by simp [hN];omega,fun t=>?_,?_,fun n hn=>?_,Ext.refl _,hdom⟩) fun e a' w' hq=>?_)
 .rw [QiZ]
  by_cases ht:t<args.length
  .rw [if_pos (Nat.zero_le _),Nat.sub_zero]
   obtain ⟨v,h1,h2⟩:=hargs.2 t _ (List.getElem?_eq_getElem ht);rw [List.getElem?_eq_getElem ht];have VR:vs[t]?=some v:=by simpa using h1
   have:(vs++Array.replicate (fn.ntmps-vs.size) undef).getD t undef=v:=by
    rw [Array.getD_eq_getD_getElem?,Array.getElem?_append_left (by omega),VR];rfl
   rw [this];exact h2
  .rw [if_pos (Nat.zero_le _),Nat.sub_zero,List.getElem?_eq_none (by omega)];exact trivial
 .have:hpG (Qc9 0 H)=Hs H:=by funext n;rw [Qdk];simp [Hs]
  rw [this];exact hc
 .have:n<H.length:=by
   rcases Nat.lt_or_ge n H.length with h|h
   .exact h
   .exact absurd (hdom n h) hn
  have:n / Qew=0:=Nat.div_eq_of_lt (by unfold Qew;omega);rw [this];simp
 .obtain ⟨σ,ρ1,hr,hq⟩:=hq
  have done:Qok T σ res (fun l=>Fin H Post σ (Qbc l))->bodyPost P fn (fun e w'=>∃ R v ρ',Post R/\e= .returned v/\Ext ρ ρ'/\(∀ n,H.length+R.nw.length<=n->ρ' n=none)/\VT ρ' R.v v/\Conc ⟨w,Qha H ρ,ρ.fr⟩ ρ' (R.app H) w' /\
    (∀ p∈R.up,∃ r,H[p.1]?=some r/\r.own=true)/\(∀ r∈R.nw,r.own=true)/\(∀ p∈R.up,∀ r,p.2=some r->r.own=true)) .ret a' w':=by
   intro hq;obtain ⟨l,vs',h1,h2,_,h4⟩:=Qmx hT hr res _ hq
   have hrun:(results fn a'.tmps).run P w'= .ok (if h:vs'.toArray.size=1 then vs'.toArray[0] else .tuple vs'.toArray) w':=by
    rw [<- hres] at h4;rw [QnA,Array.mapM_eq_mapM_toList];simp only [Sem.run_bind,Sem.run_map,h4,Result.andThen_ok,Sem.run_pure]
   have hvt:VT ρ1 (Qbc l) (if h:vs'.toArray.size=1 then vs'.toArray[0] else .tuple vs'.toArray):=by
    rcases l with _|⟨x,_|⟨y,l⟩⟩
    .have:vs'= []:=by have:=h2.1;simpa using this.symm
     subst this;exact ⟨#[],rfl,h2⟩
    .obtain ⟨v,q1,q2⟩:=h2.2 0 x rfl
     have hl:vs'.length=1:=h2.1.symm;obtain ⟨_,rfl⟩:=List.length_eq_one_iff.1 hl;injection q1 with q1;subst q1
     exact q2
    .have hl:vs'.length=l.length+2:=h2.1.symm
     rw [dif_neg (by simp;omega)];exact ⟨vs'.toArray,rfl,h2⟩
   obtain ⟨R,ρ',g1,g2,g3,g4,g5,g6,g7,g8⟩:=QxA h1 (G:=⟨ρ,H.length⟩) rfl hr hvt;exact ⟨hr.defers,_,hrun,R,_,ρ',g1,rfl,g2,g3,g4,g5,g6,g7,g8⟩
  cases e with
  | normal=>exact done hq
  | ret=>exact done hq
  | exit i=>exact hq.elim
  | goto i=>exact hq.elim
  | panic c=>exact hq.elim
  | outgrown=>exact hq.elim
end Go.Proofs.YtpgkkfajljekpaaGreat
