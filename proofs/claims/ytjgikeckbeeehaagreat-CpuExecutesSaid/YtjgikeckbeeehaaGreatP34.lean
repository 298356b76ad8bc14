import Derived.Test.YtjgikeckbeeehaaGreatP30
import Derived.Test.YtjgikeckbeeehaaGreatP32
import Derived.Deep.Slices
set_option linter.unusedSimpArgs false
set_option linter.unusedVariables false
set_option maxHeartbeats 100000000
set_option maxRecDepth 100000
namespace Go.Proofs.YtjgikeckbeeehaaGreat
open Go.Joins Go.ChangeShapes Go.WideShapes Go.RowKit Go.Deep
section
variable {H:Type} {enc:TypeId × Value→H} {P:Program} {w:World} {base:Nat} {spare:Nat→Bool} {held:Bool}
theorem Qkv {k:IntKind} {n fuel:Nat} {e t:TypeId} {cs:List Value} {x:DataW H × List MemPlace} (ht:P.underlying t=some (.array n e)) (he:P.underlying e=some (.int k)) (hce:P.cellsOf e=1) (hct:P.cellsOf t=n)
  (h:DataW.trod enc P w base spare held fuel t cs=some x):∃ ns:List Int,ns.length=n∧cs=ns.map (Value.int k)∧∀ m∈ns,(Lit.int k m).wf=true:=by
 obtain ⟨_,m,_,_,hl,_,hg⟩:=DataW.trod_array ht h
 rw [hct] at hl
 rw [hce] at hg
 have key:∀ i,∃ z:Int,i<n→cs[i]?=some (.int k z)∧(Lit.int k z).wf=true:=fun i=>by
  by_cases hi:i<n
  ·have h1:=hg i hi
   rw [List.getElem?_eq_getElem (by omega)] at h1
   have e1:(cs.drop (i*1)).take 1= [cs[i]'(by omega)]:=by
    rw [Nat.mul_one,List.drop_eq_getElem_cons (by omega)];rfl
   rw [e1] at h1
   obtain ⟨z,h2,h3⟩:=QaP he h1
   exact ⟨z,fun _=>⟨by rw [List.getElem?_eq_getElem (by omega),h2],h3⟩⟩
  ·exact ⟨0,fun h=>absurd h hi⟩
 obtain ⟨f,hf⟩:=Classical.axiomOfChoice key
 refine ⟨(List.range n).map f,by simp,?_,fun z hz=>?_⟩
 ·apply List.ext_getElem?
  intro i
  by_cases hi:i<n
  ·rw [(hf i hi).1];simp [hi]
  ·rw [List.getElem?_eq_none (by omega),List.getElem?_eq_none (by simp;omega)]
 ·obtain ⟨i,hi,rfl⟩:=List.mem_map.1 hz
  exact (hf i (by simpa using hi)).2
theorem Qe9 {ns:List Int} (h:∀ m∈ns,(Lit.int .u32 m).wf=true):∃ xs:List Nat,xs.length=ns.length∧ns.map (Value.int .u32)=xs.map (fun (y:Nat)=>Value.int .u32 y)∧∀ y∈xs,y<4294967296:=by
 have hb:∀ n∈ns,0≤n∧n<4294967296:=fun n hn=>by
  obtain ⟨m,rfl,hm⟩:=wf_u32 (h n hn)
  omega
 refine ⟨ns.map Int.toNat,by simp,?_,fun y hy=>?_⟩
 ·rw [List.map_map]
  refine List.map_congr_left fun n hn=>?_
  have:=hb n hn
  simp only [Function.comp]
  rw [Int.toNat_of_nonneg this.1]
 ·obtain ⟨n,hn,rfl⟩:=List.mem_map.1 hy
  have:=hb n hn;omega
end
end Go.Proofs.YtjgikeckbeeehaaGreat
namespace Go.Proofs.YtjgikeckbeeehaaGreat
open Go.Joins Go.ChangeShapes Go.WideShapes Go.RowKit Go.Deep
section
variable {H:Type} {enc:TypeId × Value→H} {P:Program} {w:World} {base:Nat} {spare:Nat→Bool} {held:Bool}
end
def LRowR (w:World) (v:Value) (len:Nat) (r:Row):Prop :=
 r.own=false∧∃ p:PL,∀ (ρ:Nm) (n:Nat),ρ n=some p→RowOk ρ w n r∧VS ρ (.sl n 0 len) v
theorem LRow.r {w:World} {v:Value} {len:Nat} {cells:List SV} (h:LRow w v len cells):LRowR w v len ⟨false,1,cells⟩:=⟨rfl,h⟩
def Qkb (w:World):List (Value × Nat × Row)→List PL→Prop
 | [],[]=>True
 | q::l,p::ps=>(∀ (ρ:Nm) (n:Nat),ρ n=some p→RowOk ρ w n q.2.2∧VS ρ (.sl n 0 q.2.1) q.1)∧Qkb w l ps
 | _,_=>False
theorem QgW {w:World}:∀ {l:List (Value × Nat × Row)} {ps:List PL},Qkb w l ps→l.length=ps.length∧∀ (i:Nat) q p,l[i]?=some q→ps[i]?=some p→∀ (ρ:Nm) (n:Nat),ρ n=some p→RowOk ρ w n q.2.2∧VS ρ (.sl n 0 q.2.1) q.1
 | [],[],_=>⟨rfl,fun i q p h=>by simp at h⟩
 | q::l,p::ps,h=>by
  obtain ⟨h1,h2⟩:=QgW h.2
  refine ⟨by simp [h1],fun i q' p' hq hp=>?_⟩
  cases i with
  | zero=>injection hq with hq;injection hp with hp;subst hq hp;exact h.1
  | succ i=>exact h2 i q' p' hq hp
 | [],_::_,h=>h.elim
 | _::_,[],h=>h.elim
theorem law_of_fnR {P:Program} {f:FuncId} {args:List AV} {H:List Row} {vs:Array Value} {w:World} (q:List (Value × Nat × Row)) (hq:∀ x∈q,LRowR w x.1 x.2.1 x.2.2) (hH:H=q.map fun x=>x.2.2) (hF:Fn P f args H (· =⟨.a (.s (.bool true)),[],[]⟩))
  (ha:∀ ρ:Nm,(∀ (i:Nat) x,q[i]?=some x→VS ρ (.sl i 0 x.2.1) x.1)→VAs ρ args vs.toList):Calls P f vs w fun e w'=>e= .returned (.bool true)∧Below w.heap.size w w':=by
 obtain ⟨ps,hps⟩:∃ ps:List PL,Qkb w q ps:=by
  clear hH ha
  induction q with
  | nil=>exact ⟨[],trivial⟩
  | cons x q ih =>
   obtain ⟨ps,h⟩:=ih fun y hy=>hq y (by simp [hy])
   obtain ⟨_,p,hp⟩:=hq x (by simp)
   exact ⟨p::ps,hp,h⟩
 obtain ⟨hlen,hat⟩:=QgW hps
 have hHl:H.length=ps.length:=by rw [hH];simp [hlen]
 have hrow:∀ (i:Nat) r,H[i]?=some r→∃ x p,q[i]?=some x∧ps[i]?=some p∧r=x.2.2:=fun i r hr=>by
  rw [hH,List.getElem?_map] at hr
  cases e:q[i]? with
  | none=>rw [e] at hr;cases hr
  | some x =>
   rw [e] at hr
   injection hr with hr
   have hi:i<ps.length:=by rw [← hlen];exact (List.getElem?_eq_some_iff.1 e).1
   exact ⟨x,ps[i],rfl,List.getElem?_eq_getElem hi,hr.symm⟩
 have hown:∀ (i:Nat) r,H[i]?=some r→r.own=false:=fun i r hr=>by
  obtain ⟨x,p,h1,_,rfl⟩:=hrow i r hr
  exact (hq x (List.mem_of_getElem? h1)).1
 refine (hF.2 ⟨fun n=>ps[n]?,fun _ _=>False⟩ w vs (fun n hn=>List.getElem?_eq_none (by omega)) (ha _ fun i x hx=>?_) ⟨fun n r hn=>?_,fun n r m s Ln Lm h1 h2=>?_,fun n r L h1 h2=>?_,rfl,rfl,rfl,Nat.le_refl _,fun _ _ _=>rfl,fun _ _ h=>h.elim⟩).mono fun e w' he=>?_
 ·have hi:i<ps.length:=by rw [← hlen];exact (List.getElem?_eq_some_iff.1 hx).1
  exact (hat i x ps[i] hx (List.getElem?_eq_getElem hi) _ i (List.getElem?_eq_getElem hi)).2
 ·obtain ⟨x,p,h1,h2,rfl⟩:=hrow n r hn
  exact (hat n x p h1 h2 _ n h2).1
 ·rw [hown n r h1] at h2;cases h2
 ·rw [hown n r h1] at h2;cases h2
 ·obtain ⟨_,v,_,rfl,rfl,_,_,hv,hc,_⟩:=he
  have hv:v= .bool true:=hv
  refine ⟨by rw [hv],hc.os,hc.tape,hc.output,hc.size,fun b hb=>hc.block b hb ?_⟩
  rintro ⟨n,r,L,h1,h2,_⟩
  rw [hown n r h1] at h2;cases h2
end Go.Proofs.YtjgikeckbeeehaaGreat
namespace Go.Proofs.YtjgikeckbeeehaaGreat
open Go.Joins Go.ChangeShapes Go.WideShapes Go.RowKit Go.Deep
section
variable {H:Type} {enc:TypeId × Value→H} {P:Program} {w:World} {base:Nat} {spare:Nat→Bool} {held:Bool}
theorem QyX {fuel:Nat} {t:TypeId} {f0:Field} {cs:List Value} {x:DataW H × List MemPlace} (hs:P.underlying t=some (.struct #[f0])) (hone:oneCellFields P #[f0]=true) (hC:P.cellsOf t=1) (h:DataW.trod enc P w base spare held fuel t cs=some x) :
  ∃ (c0:Value) (y0:DataW H × List MemPlace) (n:Nat),cs= [c0]∧DataW.trod enc P w base spare held n f0.type [c0]=some y0:=by
 obtain ⟨xs,n,_,_,hl,hlen,hg⟩:=DataW.trod_struct hs h
 rw [hC] at hl
 obtain ⟨o0,k0⟩:=hone_of hone 0 f0 rfl
 match cs,hl,xs,hlen with
 | [c0],_,[y0],_ =>
  exact ⟨c0,y0,n,rfl,by simpa [o0,k0] using hg 0 f0 rfl⟩
theorem QAb {fuel:Nat} {t:TypeId} {f0 f1:Field} {cs:List Value} {x:DataW H × List MemPlace} (hs:P.underlying t=some (.struct #[f0,f1])) (hone:oneCellFields P #[f0,f1]=true) (hC:P.cellsOf t=2) (h:DataW.trod enc P w base spare held fuel t cs=some x) :
  ∃ (c0 c1:Value) (y0 y1:DataW H × List MemPlace) (n:Nat),cs= [c0,c1]∧DataW.trod enc P w base spare held n f0.type [c0]=some y0∧DataW.trod enc P w base spare held n f1.type [c1]=some y1:=by
 obtain ⟨xs,n,_,_,hl,hlen,hg⟩:=DataW.trod_struct hs h
 rw [hC] at hl
 obtain ⟨o0,k0⟩:=hone_of hone 0 f0 rfl
 obtain ⟨o1,k1⟩:=hone_of hone 1 f1 rfl
 match cs,hl,xs,hlen with
 | [c0,c1],_,[y0,y1],_ =>
  exact ⟨c0,c1,y0,y1,n,rfl,by simpa [o0,k0] using hg 0 f0 rfl,by simpa [o1,k1] using hg 1 f1 rfl⟩
theorem QxL {fuel:Nat} {t:TypeId} {f0 f1 f2:Field} {cs:List Value} {x:DataW H × List MemPlace} (hs:P.underlying t=some (.struct #[f0,f1,f2])) (hone:oneCellFields P #[f0,f1,f2]=true) (hC:P.cellsOf t=3) (h:DataW.trod enc P w base spare held fuel t cs=some x) :
  ∃ (c0 c1 c2:Value) (y0 y1 y2:DataW H × List MemPlace) (n:Nat),cs= [c0,c1,c2]∧DataW.trod enc P w base spare held n f0.type [c0]=some y0∧DataW.trod enc P w base spare held n f1.type [c1]=some y1∧DataW.trod enc P w base spare held n f2.type [c2]=some y2:=by
 obtain ⟨xs,n,_,_,hl,hlen,hg⟩:=DataW.trod_struct hs h
 rw [hC] at hl
 obtain ⟨o0,k0⟩:=hone_of hone 0 f0 rfl
 obtain ⟨o1,k1⟩:=hone_of hone 1 f1 rfl
 obtain ⟨o2,k2⟩:=hone_of hone 2 f2 rfl
 match cs,hl,xs,hlen with
 | [c0,c1,c2],_,[y0,y1,y2],_ =>
  exact ⟨c0,c1,c2,y0,y1,y2,n,rfl,by simpa [o0,k0] using hg 0 f0 rfl,by simpa [o1,k1] using hg 1 f1 rfl,by simpa [o2,k2] using hg 2 f2 rfl⟩
theorem QxR {fuel:Nat} {t:TypeId} {f0 f1 f2 f3 f4 f5:Field} {cs:List Value} {x:DataW H × List MemPlace} (hs:P.underlying t=some (.struct #[f0,f1,f2,f3,f4,f5])) (hone:oneCellFields P #[f0,f1,f2,f3,f4,f5]=true) (hC:P.cellsOf t=6) (h:DataW.trod enc P w base spare held fuel t cs=some x) :
  ∃ (c0 c1 c2 c3 c4 c5:Value) (y0 y1 y2 y3 y4 y5:DataW H × List MemPlace) (n:Nat),cs= [c0,c1,c2,c3,c4,c5]∧DataW.trod enc P w base spare held n f0.type [c0]=some y0∧DataW.trod enc P w base spare held n f1.type [c1]=some y1∧DataW.trod enc P w base spare held n f2.type [c2]=some y2∧DataW.trod enc P w base spare held n f3.type [c3]=some y3∧DataW.trod enc P w base spare held n f4.type [c4]=some y4∧DataW.trod enc P w base spare held n f5.type [c5]=some y5:=by
 obtain ⟨xs,n,_,_,hl,hlen,hg⟩:=DataW.trod_struct hs h
 rw [hC] at hl
 obtain ⟨o0,k0⟩:=hone_of hone 0 f0 rfl
 obtain ⟨o1,k1⟩:=hone_of hone 1 f1 rfl
 obtain ⟨o2,k2⟩:=hone_of hone 2 f2 rfl
 obtain ⟨o3,k3⟩:=hone_of hone 3 f3 rfl
 obtain ⟨o4,k4⟩:=hone_of hone 4 f4 rfl
 obtain ⟨o5,k5⟩:=hone_of hone 5 f5 rfl
 match cs,hl,xs,hlen with
 | [c0,c1,c2,c3,c4,c5],_,[y0,y1,y2,y3,y4,y5],_ =>
  exact ⟨c0,c1,c2,c3,c4,c5,y0,y1,y2,y3,y4,y5,n,rfl,by simpa [o0,k0] using hg 0 f0 rfl,by simpa [o1,k1] using hg 1 f1 rfl,by simpa [o2,k2] using hg 2 f2 rfl,by simpa [o3,k3] using hg 3 f3 rfl,by simpa [o4,k4] using hg 4 f4 rfl,by simpa [o5,k5] using hg 5 f5 rfl⟩
theorem Qxy {fuel:Nat} {t:TypeId} {f0 f1 f2 f3 f4 f5 f6 f7:Field} {cs:List Value} {x:DataW H × List MemPlace} (hs:P.underlying t=some (.struct #[f0,f1,f2,f3,f4,f5,f6,f7])) (hone:oneCellFields P #[f0,f1,f2,f3,f4,f5,f6,f7]=true) (hC:P.cellsOf t=8) (h:DataW.trod enc P w base spare held fuel t cs=some x) :
  ∃ (c0 c1 c2 c3 c4 c5 c6 c7:Value) (y0 y1 y2 y3 y4 y5 y6 y7:DataW H × List MemPlace) (n:Nat),cs= [c0,c1,c2,c3,c4,c5,c6,c7]∧DataW.trod enc P w base spare held n f0.type [c0]=some y0∧DataW.trod enc P w base spare held n f1.type [c1]=some y1∧DataW.trod enc P w base spare held n f2.type [c2]=some y2∧DataW.trod enc P w base spare held n f3.type [c3]=some y3∧DataW.trod enc P w base spare held n f4.type [c4]=some y4∧DataW.trod enc P w base spare held n f5.type [c5]=some y5∧DataW.trod enc P w base spare held n f6.type [c6]=some y6∧DataW.trod enc P w base spare held n f7.type [c7]=some y7:=by
 obtain ⟨xs,n,_,_,hl,hlen,hg⟩:=DataW.trod_struct hs h
 rw [hC] at hl
 obtain ⟨o0,k0⟩:=hone_of hone 0 f0 rfl
 obtain ⟨o1,k1⟩:=hone_of hone 1 f1 rfl
 obtain ⟨o2,k2⟩:=hone_of hone 2 f2 rfl
 obtain ⟨o3,k3⟩:=hone_of hone 3 f3 rfl
 obtain ⟨o4,k4⟩:=hone_of hone 4 f4 rfl
 obtain ⟨o5,k5⟩:=hone_of hone 5 f5 rfl
 obtain ⟨o6,k6⟩:=hone_of hone 6 f6 rfl
 obtain ⟨o7,k7⟩:=hone_of hone 7 f7 rfl
 match cs,hl,xs,hlen with
 | [c0,c1,c2,c3,c4,c5,c6,c7],_,[y0,y1,y2,y3,y4,y5,y6,y7],_ =>
  exact ⟨c0,c1,c2,c3,c4,c5,c6,c7,y0,y1,y2,y3,y4,y5,y6,y7,n,rfl,by simpa [o0,k0] using hg 0 f0 rfl,by simpa [o1,k1] using hg 1 f1 rfl,by simpa [o2,k2] using hg 2 f2 rfl,by simpa [o3,k3] using hg 3 f3 rfl,by simpa [o4,k4] using hg 4 f4 rfl,by simpa [o5,k5] using hg 5 f5 rfl,by simpa [o6,k6] using hg 6 f6 rfl,by simpa [o7,k7] using hg 7 f7 rfl⟩
theorem QBI {fuel:Nat} {t e0 e2:TypeId} {f0 f1 f2:Field} {cs:List Value} {x:DataW H × List MemPlace} (hs:P.underlying t=some (.struct #[f0,f1,f2])) (o0:f0.offset=0) (o1:f1.offset=16) (o2:f2.offset=17)
  (t0:P.underlying f0.type=some (.array 16 e0)) (t1:P.underlying f1.type=some (.int .u32)) (t2:P.underlying f2.type=some (.array 8 e2)) (u0:P.underlying e0=some (.int .u32)) (u2:P.underlying e2=some (.int .u32))
  (hc:P.cellsOf t=25∧P.cellsOf f0.type=16∧P.cellsOf f1.type=1∧P.cellsOf f2.type=8∧P.cellsOf e0=1∧P.cellsOf e2=1) (hf:DataW.trod enc P w base spare held fuel t cs=some x) :
  ∃ (x:List Nat) (pc:Nat) (c:List Nat),cs=x.map (fun (y:Nat)=>Value.int .u32 y)++(Value.int .u32 pc::c.map (fun (y:Nat)=>Value.int .u32 y))∧x.length=16∧c.length=8∧(∀ y∈x,y<4294967296)∧pc<4294967296∧∀ y∈c,y<4294967296:=by
 obtain ⟨c1,c2,c3,c4,c5,c6⟩:=hc
 obtain ⟨xs,_,_,_,hl,hlen,hg⟩:=DataW.trod_struct hs hf
 rw [c1] at hl
 have hlen:xs.length=3:=hlen
 have g0:=hg 0 f0 rfl
 have g1:=hg 1 f1 rfl
 have g2:=hg 2 f2 rfl
 rw [List.getElem?_eq_getElem (by omega),o0,c2] at g0
 rw [List.getElem?_eq_getElem (by omega),o1,c3] at g1
 rw [List.getElem?_eq_getElem (by omega),o2,c4] at g2
 obtain ⟨n0,l0,e0',w0⟩:=Qkv t0 u0 c5 c2 g0
 obtain ⟨n2,l2,e2',w2⟩:=Qkv t2 u2 c6 c4 g2
 have hlt:16<cs.length:=by omega
 have e1:(cs.drop 16).take 1= [cs[16]]:=by rw [List.drop_eq_getElem_cons hlt];rfl
 rw [e1] at g1
 obtain ⟨z,z1,z2⟩:=QaP t1 g1
 obtain ⟨pc,rfl,hpc⟩:=wf_u32 z2
 obtain ⟨x,x1,x2,x3⟩:=Qe9 w0
 obtain ⟨c,y1,y2,y3⟩:=Qe9 w2
 refine ⟨x,pc,c,?_,by omega,by omega,x3,hpc,y3⟩
 have a0:cs.take 16=x.map (fun (y:Nat)=>Value.int .u32 y):=by rw [← x2,← e0'];rfl
 have a2:cs.drop 17=c.map (fun (y:Nat)=>Value.int .u32 y):=by rw [← y2,← e2',List.take_of_length_le (by simp;omega)]
 rw [← a0,← a2,← z1,← List.drop_eq_getElem_cons hlt,List.take_append_drop]
def machV (M:Mc) (o:Value):Array Value:=(M.x.map (fun (y:Nat)=>Value.int .u32 y)++(Value.int .u32 M.pc::M.c.map (fun (y:Nat)=>Value.int .u32 y))++ [o,.string M.ks,.bool M.ta,.int .u32 M.td,.bool M.tf,.int .u32 M.d.bs,.int .u32 M.d.bl,.int .u32 M.d.fr,.int .i64 M.d.st,.int .i64 M.d.cmd,.int .u32 M.d.ob,.int .u32 M.d.of_,.string M.d.od,.int .u32 M.n.fr,.int .u32 M.n.ln,.bool M.n.po,.int .u32 M.n.bu,.bool M.n.re,.int .u32 M.n.go_,.int .u32 M.bt,.int .u32 M.bg,.int .u64 M.ct,.bool M.wt,.bool M.ht]).toArray
structure Mc.inn (M:Mc):Prop where
 (x:M.x.length=16) (c:M.c.length=8) (xr:∀ y∈M.x,y<4294967296) (cr:∀ y∈M.c,y<4294967296) (pr:M.pc<4294967296) (mr:∀ y∈M.m,y<4294967296) (dk:M.d.od.size≤1000000→M.d.ok) (nk:M.n.ok) (dv:M.td<4294967296∧M.bt<4294967296∧M.bg<4294967296∧M.ct<18446744073709551616) (sz:M.ks.size≤maxLen∧M.d.od.size≤maxLen∧M.m.length≤maxLen)
theorem Qaz {α:Type} {l:List α} {n:Nat} (h:l.length=n+1):∃ a t,l=a::t∧t.length=n:=by
 cases l with
 | nil=>cases h
 | cons a t=>exact ⟨a,t,rfl,by simpa using h⟩
theorem QyK {α:Type} {l:List α} (h:l.length=49):∃ c0 c1 c2 c3 c4 c5 c6 c7 c8 c9 c10 c11 c12 c13 c14 c15 c16 c17 c18 c19 c20 c21 c22 c23 c24 c25 c26 c27 c28 c29 c30 c31 c32 c33 c34 c35 c36 c37 c38 c39 c40 c41 c42 c43 c44 c45 c46 c47 c48,l= [c0,c1,c2,c3,c4,c5,c6,c7,c8,c9,c10,c11,c12,c13,c14,c15,c16,c17,c18,c19,c20,c21,c22,c23,c24,c25,c26,c27,c28,c29,c30,c31,c32,c33,c34,c35,c36,c37,c38,c39,c40,c41,c42,c43,c44,c45,c46,c47,c48]:=by
 obtain ⟨c0,t0,rfl,h0⟩:=Qaz h
 obtain ⟨c1,t1,rfl,h1⟩:=Qaz h0
 obtain ⟨c2,t2,rfl,h2⟩:=Qaz h1
 obtain ⟨c3,t3,rfl,h3⟩:=Qaz h2
 obtain ⟨c4,t4,rfl,h4⟩:=Qaz h3
 obtain ⟨c5,t5,rfl,h5⟩:=Qaz h4
 obtain ⟨c6,t6,rfl,h6⟩:=Qaz h5
 obtain ⟨c7,t7,rfl,h7⟩:=Qaz h6
 obtain ⟨c8,t8,rfl,h8⟩:=Qaz h7
 obtain ⟨c9,t9,rfl,h9⟩:=Qaz h8
 obtain ⟨c10,t10,rfl,h10⟩:=Qaz h9
 obtain ⟨c11,t11,rfl,h11⟩:=Qaz h10
 obtain ⟨c12,t12,rfl,h12⟩:=Qaz h11
 obtain ⟨c13,t13,rfl,h13⟩:=Qaz h12
 obtain ⟨c14,t14,rfl,h14⟩:=Qaz h13
 obtain ⟨c15,t15,rfl,h15⟩:=Qaz h14
 obtain ⟨c16,t16,rfl,h16⟩:=Qaz h15
 obtain ⟨c17,t17,rfl,h17⟩:=Qaz h16
 obtain ⟨c18,t18,rfl,h18⟩:=Qaz h17
 obtain ⟨c19,t19,rfl,h19⟩:=Qaz h18
 obtain ⟨c20,t20,rfl,h20⟩:=Qaz h19
 obtain ⟨c21,t21,rfl,h21⟩:=Qaz h20
 obtain ⟨c22,t22,rfl,h22⟩:=Qaz h21
 obtain ⟨c23,t23,rfl,h23⟩:=Qaz h22
 obtain ⟨c24,t24,rfl,h24⟩:=Qaz h23
 obtain ⟨c25,t25,rfl,h25⟩:=Qaz h24
 obtain ⟨c26,t26,rfl,h26⟩:=Qaz h25
 obtain ⟨c27,t27,rfl,h27⟩:=Qaz h26
 obtain ⟨c28,t28,rfl,h28⟩:=Qaz h27
 obtain ⟨c29,t29,rfl,h29⟩:=Qaz h28
 obtain ⟨c30,t30,rfl,h30⟩:=Qaz h29
 obtain ⟨c31,t31,rfl,h31⟩:=Qaz h30
 obtain ⟨c32,t32,rfl,h32⟩:=Qaz h31
 obtain ⟨c33,t33,rfl,h33⟩:=Qaz h32
 obtain ⟨c34,t34,rfl,h34⟩:=Qaz h33
 obtain ⟨c35,t35,rfl,h35⟩:=Qaz h34
 obtain ⟨c36,t36,rfl,h36⟩:=Qaz h35
 obtain ⟨c37,t37,rfl,h37⟩:=Qaz h36
 obtain ⟨c38,t38,rfl,h38⟩:=Qaz h37
 obtain ⟨c39,t39,rfl,h39⟩:=Qaz h38
 obtain ⟨c40,t40,rfl,h40⟩:=Qaz h39
 obtain ⟨c41,t41,rfl,h41⟩:=Qaz h40
 obtain ⟨c42,t42,rfl,h42⟩:=Qaz h41
 obtain ⟨c43,t43,rfl,h43⟩:=Qaz h42
 obtain ⟨c44,t44,rfl,h44⟩:=Qaz h43
 obtain ⟨c45,t45,rfl,h45⟩:=Qaz h44
 obtain ⟨c46,t46,rfl,h46⟩:=Qaz h45
 obtain ⟨c47,t47,rfl,h47⟩:=Qaz h46
 obtain ⟨c48,t48,rfl,h48⟩:=Qaz h47
 obtain rfl:=List.length_eq_zero_iff.1 h48
 exact ⟨c0,c1,c2,c3,c4,c5,c6,c7,c8,c9,c10,c11,c12,c13,c14,c15,c16,c17,c18,c19,c20,c21,c22,c23,c24,c25,c26,c27,c28,c29,c30,c31,c32,c33,c34,c35,c36,c37,c38,c39,c40,c41,c42,c43,c44,c45,c46,c47,c48,rfl⟩
theorem openMach {r:Reach} {b0:Nat} {t em e0 e2:TypeId} {f0 f1 f2 g0 g1 g2 g3 g4 g5 g6 g7 g8 g9 s2_0 s3_0 s3_1 s3_2 s4_0 s4_1 s4_2 s4_3 s4_4 s4_5 s4_6 s4_7 s5_0 s5_1 s5_2 s5_3 s5_4 s5_5 s6_0 s6_1:Field} {v:Value} {d:DataW H} {p:List MemPlace} (hs:P.underlying t=some (.struct #[g0,g1,g2,g3,g4,g5,g6,g7,g8,g9])) (hC:P.cellsOf t=49)
  (o0:g0.offset=0) (k0:P.cellsOf g0.type=25) (o1:g1.offset=25) (k1:P.cellsOf g1.type=1) (o2:g2.offset=26) (k2:P.cellsOf g2.type=1) (o3:g3.offset=27) (k3:P.cellsOf g3.type=3) (o4:g4.offset=30) (k4:P.cellsOf g4.type=8) (o5:g5.offset=38) (k5:P.cellsOf g5.type=6) (o6:g6.offset=44) (k6:P.cellsOf g6.type=2) (o7:g7.offset=46) (k7:P.cellsOf g7.type=1) (o8:g8.offset=47) (k8:P.cellsOf g8.type=1) (o9:g9.offset=48) (k9:P.cellsOf g9.type=1)
  (q0:P.underlying g0.type=some (.struct #[f0,f1,f2])) (p0:f0.offset=0) (p1:f1.offset=16) (p2:f2.offset=17) (t0:P.underlying f0.type=some (.array 16 e0)) (t1:P.underlying f1.type=some (.int .u32)) (t2:P.underlying f2.type=some (.array 8 e2)) (u0:P.underlying e0=some (.int .u32)) (u2:P.underlying e2=some (.int .u32)) (hc:P.cellsOf g0.type=25∧P.cellsOf f0.type=16∧P.cellsOf f1.type=1∧P.cellsOf f2.type=8∧P.cellsOf e0=1∧P.cellsOf e2=1)
  (q1:P.underlying g1.type=some (.slice em)) (q11:P.underlying em=some (.int .u32)) (q12:P.cellsOf em=1)
  (q2:P.underlying g2.type=some (.struct #[s2_0])) (q21:oneCellFields P #[s2_0]=true) (q2_0:P.underlying s2_0.type=some (.string))
  (q3:P.underlying g3.type=some (.struct #[s3_0,s3_1,s3_2])) (q31:oneCellFields P #[s3_0,s3_1,s3_2]=true) (q3_0:P.underlying s3_0.type=some (.bool)) (q3_1:P.underlying s3_1.type=some (.int .u32)) (q3_2:P.underlying s3_2.type=some (.bool))
  (q4:P.underlying g4.type=some (.struct #[s4_0,s4_1,s4_2,s4_3,s4_4,s4_5,s4_6,s4_7])) (q41:oneCellFields P #[s4_0,s4_1,s4_2,s4_3,s4_4,s4_5,s4_6,s4_7]=true) (q4_0:P.underlying s4_0.type=some (.int .u32)) (q4_1:P.underlying s4_1.type=some (.int .u32)) (q4_2:P.underlying s4_2.type=some (.int .u32)) (q4_3:P.underlying s4_3.type=some (.int .i64)) (q4_4:P.underlying s4_4.type=some (.int .i64)) (q4_5:P.underlying s4_5.type=some (.int .u32)) (q4_6:P.underlying s4_6.type=some (.int .u32)) (q4_7:P.underlying s4_7.type=some (.string))
  (q5:P.underlying g5.type=some (.struct #[s5_0,s5_1,s5_2,s5_3,s5_4,s5_5])) (q51:oneCellFields P #[s5_0,s5_1,s5_2,s5_3,s5_4,s5_5]=true) (q5_0:P.underlying s5_0.type=some (.int .u32)) (q5_1:P.underlying s5_1.type=some (.int .u32)) (q5_2:P.underlying s5_2.type=some (.bool)) (q5_3:P.underlying s5_3.type=some (.int .u32)) (q5_4:P.underlying s5_4.type=some (.bool)) (q5_5:P.underlying s5_5.type=some (.int .u32))
  (q6:P.underlying g6.type=some (.struct #[s6_0,s6_1])) (q61:oneCellFields P #[s6_0,s6_1]=true) (q6_0:P.underlying s6_0.type=some (.int .u32)) (q6_1:P.underlying s6_1.type=some (.int .u32))
  (q7:P.underlying g7.type=some (.int .u64)) (q8:P.underlying g8.type=some .bool) (q9:P.underlying g9.type=some .bool)
  (hv:Value.okWide P w r b0 t v) (h:DataW.Trod enc P w base (fun _=>true) held t v d p) :
  ∃ (M:Mc) (o:Value),v= .agg (machV M o)∧M.inn∧LRowR w o M.m.length ⟨false,1,wsv M.m⟩:=by
 obtain ⟨cs,rfl,hsz⟩:=okWide_struct hs hv
 obtain ⟨fuel,hf⟩:=h
 obtain ⟨xs,n,_,_,hl,hlen,hg⟩:=DataW.trod_struct hs hf
 rw [hC] at hl
 have hlen:xs.length=10:=hlen
 have h0:=hg 0 g0 rfl
 rw [List.getElem?_eq_getElem (by omega),o0,k0] at h0
 have h1:=hg 1 g1 rfl
 rw [List.getElem?_eq_getElem (by omega),o1,k1] at h1
 have h2:=hg 2 g2 rfl
 rw [List.getElem?_eq_getElem (by omega),o2,k2] at h2
 have h3:=hg 3 g3 rfl
 rw [List.getElem?_eq_getElem (by omega),o3,k3] at h3
 have h4:=hg 4 g4 rfl
 rw [List.getElem?_eq_getElem (by omega),o4,k4] at h4
 have h5:=hg 5 g5 rfl
 rw [List.getElem?_eq_getElem (by omega),o5,k5] at h5
 have h6:=hg 6 g6 rfl
 rw [List.getElem?_eq_getElem (by omega),o6,k6] at h6
 have h7:=hg 7 g7 rfl
 rw [List.getElem?_eq_getElem (by omega),o7,k7] at h7
 have h8:=hg 8 g8 rfl
 rw [List.getElem?_eq_getElem (by omega),o8,k8] at h8
 have h9:=hg 9 g9 rfl
 rw [List.getElem?_eq_getElem (by omega),o9,k9] at h9
 have hcl:(Value.agg cs).cells.toList=cs.toList:=rfl
 rw [hcl] at hl h0 h1 h2 h3 h4 h5 h6 h7 h8 h9
 generalize hcs:cs.toList=l at *
 obtain ⟨c0,c1,c2,c3,c4,c5,c6,c7,c8,c9,c10,c11,c12,c13,c14,c15,c16,c17,c18,c19,c20,c21,c22,c23,c24,c25,c26,c27,c28,c29,c30,c31,c32,c33,c34,c35,c36,c37,c38,c39,c40,c41,c42,c43,c44,c45,c46,c47,c48,rfl⟩:=QyK hl
 replace h0:DataW.trod enc P w base (fun _=>true) held n g0.type [c0,c1,c2,c3,c4,c5,c6,c7,c8,c9,c10,c11,c12,c13,c14,c15,c16,c17,c18,c19,c20,c21,c22,c23,c24]=_:=h0
 replace h1:DataW.trod enc P w base (fun _=>true) held n g1.type [c25]=_:=h1
 replace h2:DataW.trod enc P w base (fun _=>true) held n g2.type [c26]=_:=h2
 replace h3:DataW.trod enc P w base (fun _=>true) held n g3.type [c27,c28,c29]=_:=h3
 replace h4:DataW.trod enc P w base (fun _=>true) held n g4.type [c30,c31,c32,c33,c34,c35,c36,c37]=_:=h4
 replace h5:DataW.trod enc P w base (fun _=>true) held n g5.type [c38,c39,c40,c41,c42,c43]=_:=h5
 replace h6:DataW.trod enc P w base (fun _=>true) held n g6.type [c44,c45]=_:=h6
 replace h7:DataW.trod enc P w base (fun _=>true) held n g7.type [c46]=_:=h7
 replace h8:DataW.trod enc P w base (fun _=>true) held n g8.type [c47]=_:=h8
 replace h9:DataW.trod enc P w base (fun _=>true) held n g9.type [c48]=_:=h9
 obtain ⟨x,pc,c,ex,hx1,hx2,hx3,hx4,hx5⟩:=QBI q0 p0 p1 p2 t0 t1 t2 u0 u2 hc h0
 obtain ⟨v2_0,_,n2,e2,r2_0⟩:=QyX q2 q21 k2 h2
 simp only [List.cons.injEq,and_true] at e2
 obtain rfl:=e2
 obtain ⟨ks,rfl,bks⟩:=QdX q2_0 r2_0
 obtain ⟨_,_,_,_,_,_,_,e3,r3_0,r3_1,r3_2⟩:=QxL q3 q31 k3 h3
 simp only [List.cons.injEq,and_true] at e3
 obtain ⟨rfl,rfl,rfl⟩:=e3
 obtain ⟨ta,rfl⟩:=QbO q3_0 r3_0
 obtain ⟨ztd,rfl,wtd⟩:=QaP q3_1 r3_1
 obtain ⟨td,rfl,btd⟩:=wf_u32 wtd
 obtain ⟨tf,rfl⟩:=QbO q3_2 r3_2
 obtain ⟨_,_,_,_,_,_,_,_,_,_,_,_,_,_,_,_,_,e4,r4_0,r4_1,r4_2,r4_3,r4_4,r4_5,r4_6,r4_7⟩:=Qxy q4 q41 k4 h4
 simp only [List.cons.injEq,and_true] at e4
 obtain ⟨rfl,rfl,rfl,rfl,rfl,rfl,rfl,rfl⟩:=e4
 obtain ⟨zbs,rfl,wbs⟩:=QaP q4_0 r4_0
 obtain ⟨bs,rfl,bbs⟩:=wf_u32 wbs
 obtain ⟨zbl,rfl,wbl⟩:=QaP q4_1 r4_1
 obtain ⟨bl,rfl,bbl⟩:=wf_u32 wbl
 obtain ⟨zfr,rfl,wfr⟩:=QaP q4_2 r4_2
 obtain ⟨fr,rfl,bfr⟩:=wf_u32 wfr
 obtain ⟨zst,rfl,wst⟩:=QaP q4_3 r4_3
 obtain ⟨zcmd,rfl,wcmd⟩:=QaP q4_4 r4_4
 obtain ⟨zob,rfl,wob⟩:=QaP q4_5 r4_5
 obtain ⟨ob,rfl,bob⟩:=wf_u32 wob
 obtain ⟨zof_,rfl,wof_⟩:=QaP q4_6 r4_6
 obtain ⟨of_,rfl,bof_⟩:=wf_u32 wof_
 obtain ⟨od,rfl,bod⟩:=QdX q4_7 r4_7
 obtain ⟨_,_,_,_,_,_,_,_,_,_,_,_,_,e5,r5_0,r5_1,r5_2,r5_3,r5_4,r5_5⟩:=QxR q5 q51 k5 h5
 simp only [List.cons.injEq,and_true] at e5
 obtain ⟨rfl,rfl,rfl,rfl,rfl,rfl⟩:=e5
 obtain ⟨znfr,rfl,wnfr⟩:=QaP q5_0 r5_0
 obtain ⟨nfr,rfl,bnfr⟩:=wf_u32 wnfr
 obtain ⟨zln,rfl,wln⟩:=QaP q5_1 r5_1
 obtain ⟨ln,rfl,bln⟩:=wf_u32 wln
 obtain ⟨po,rfl⟩:=QbO q5_2 r5_2
 obtain ⟨zbu,rfl,wbu⟩:=QaP q5_3 r5_3
 obtain ⟨bu,rfl,bbu⟩:=wf_u32 wbu
 obtain ⟨re,rfl⟩:=QbO q5_4 r5_4
 obtain ⟨zgo_,rfl,wgo_⟩:=QaP q5_5 r5_5
 obtain ⟨go_,rfl,bgo_⟩:=wf_u32 wgo_
 obtain ⟨_,_,_,_,_,e6,r6_0,r6_1⟩:=QAb q6 q61 k6 h6
 simp only [List.cons.injEq,and_true] at e6
 obtain ⟨rfl,rfl⟩:=e6
 obtain ⟨zbt,rfl,wbt⟩:=QaP q6_0 r6_0
 obtain ⟨bt,rfl,bbt⟩:=wf_u32 wbt
 obtain ⟨zbg,rfl,wbg⟩:=QaP q6_1 r6_1
 obtain ⟨bg,rfl,bbg⟩:=wf_u32 wbg
 obtain ⟨zct,rfl,wct⟩:=QaP q7 h7
 obtain ⟨ct,rfl,bct⟩:∃ c:Nat,zct=(c:Int)∧c<18446744073709551616:=by
  have wct:=wct
  simp [Lit.wf,IntKind.min,IntKind.max,IntKind.signed,IntKind.bits] at wct
  exact ⟨zct.toNat,by omega,by omega⟩
 obtain ⟨wt,rfl⟩:=QbO q8 h8
 obtain ⟨ht,rfl⟩:=QbO q9 h9
 obtain ⟨m,hml,hmr,hmx,hrow⟩:∃ m:List Nat,(∃ k,m.length=k∧k≤maxLen)∧(∀ y∈m,y<4294967296)∧True∧LRowR w c25 m.length ⟨false,1,wsv m⟩:=by
  obtain ⟨a,len,cap,zs,hro,hlen,hc25⟩:∃ a len cap zs,RowIn .u32 w a len cap zs∧len≤maxLen∧c25= .slice a len cap:=by
   rcases open_ints q1 q11 q12 h1 with ⟨e,_⟩|⟨a,len,cap,zs,e,_,hl,hm,hz,_,hcell,hwz⟩
   ·simp only [List.cons.injEq,and_true] at e
    exact ⟨none,0,0,[],.inl ⟨rfl,rfl,rfl,rfl⟩,Nat.zero_le _,e⟩
   ·simp only [List.cons.injEq,and_true] at e
    exact ⟨some a,len,cap,zs,.inr ⟨_,rfl,hl,hm,by simpa using hz,hcell,hwz⟩,by omega,e⟩
  subst hc25
  obtain ⟨m,m1,m2,m3⟩:=Qjx hro
  refine ⟨m,⟨len,m1,hlen⟩,m2,trivial,?_⟩
  have e:isv .u32 (m.map fun (x:Nat)=>(x:Int))=wsv m:=by unfold isv wsv;rw [List.map_map];rfl
  rw [e] at m3
  rw [m1]
  exact m3.r
 obtain ⟨k,hk,hk2⟩:=hml
 refine ⟨⟨x,pc,c,m,ks,ta,td,tf,⟨bs,bl,fr,zst,zcmd,ob,of_,od⟩,⟨nfr,ln,po,bu,re,go_⟩,bt,bg,ct,wt,ht⟩,c25,?_,⟨hx1,hx2,hx3,hx5,hx4,hmr,fun h=>⟨bbs,bbl,bfr,bob,bof_,h,wst,wcmd⟩,⟨bnfr,bln,bbu,bgo_⟩,⟨btd,bbt,bbg,bct⟩,⟨bks,bod,by dsimp only;omega⟩⟩,hrow⟩
 congr 1
 apply Array.ext'
 unfold machV
 rw [hcs]
 dsimp only
 rw [← ex]
 rfl
end
theorem va_mach {ρ:Nm} {M:Mc} {i:Nat} {o:Value} (h:VS ρ (.sl i 0 M.m.length) o):VA ρ (.agg (M.C i)) (.agg (machV M o)):=by
 have hw:∀ l:List Nat,VSs ρ (wsv l) (l.map (fun (y:Nat)=>Value.int .u32 y)):=fun l=>⟨by simp,fun k s hs=>by
  unfold wsv at hs
  rw [List.getElem?_map] at hs
  cases e:l[k]? with
  | none=>rw [e] at hs;cases hs
  | some y =>
   rw [e] at hs
   injection hs with hs;subst hs
   exact ⟨_,by rw [List.getElem?_map,e];rfl,rfl⟩⟩
 have happ:∀ (a a':List SV) (b b':List Value),VSs ρ a b→VSs ρ a' b'→VSs ρ (a++a') (b++b'):=fun a a' b b' h h'=>⟨by simp [h.1,h'.1],fun k s hs=>by
  by_cases hk:k<a.length
  ·rw [List.getElem?_append_left hk] at hs
   rw [List.getElem?_append_left (by rw [← h.1];exact hk)];exact h.2 k s hs
  ·rw [List.getElem?_append_right (by omega)] at hs
   rw [List.getElem?_append_right (by rw [← h.1];omega),← h.1];exact h'.2 _ s hs⟩
 have hcons:∀ (s:SV) (v:Value) (l:List SV) (l':List Value),VS ρ s v→VSs ρ l l'→VSs ρ (s::l) (v::l'):=fun s v l l' h h'=>⟨by simp [h'.1],fun k s' hs=>by
  cases k with
  | zero=>injection hs with hs;subst hs;exact ⟨v,rfl,h⟩
  | succ k=>exact h'.2 k s' hs⟩
 have hnil:VSs ρ [] []:=⟨rfl,fun k s hs=>by simp at hs⟩
 refine ⟨machV M o,rfl,?_⟩
 unfold Mc.C Mc.D Dk.C Nk.C Qao
 show VSs ρ _ (M.x.map (fun (y:Nat)=>Value.int .u32 y)++(Value.int .u32 M.pc::M.c.map (fun (y:Nat)=>Value.int .u32 y))++_)
 refine happ _ _ _ _ (happ _ _ _ _ (hw M.x) (hcons _ _ _ _ rfl (hw M.c))) ?_
 repeat' first|exact hnil|exact h|exact rfl|apply hcons
end Go.Proofs.YtjgikeckbeeehaaGreat
namespace Go.Proofs.YtjgikeckbeeehaaGreat
open Go Go.RowKit
theorem Mc.inn.ok {M:Mc} (h:M.inn) (h1:M.m.length≤300) (h2:M.ks.size≤40) (h3:M.d.od.size≤300):M.ok:=by
 obtain ⟨a1,a2,a3,a4,a5,a6,a7,a8,⟨b1,b2,b3,b4⟩,_⟩:=h
 exact ⟨a1,a2,a3,a4,a5,a6,by omega,a7 (by omega),a8,b1,b2,b3,b4,by omega⟩
def rwQ (R:Res):Prop:=∃ (M:Mc) (z:List Nat),M.ok∧R=⟨.a (.agg (M.C 3)),[],[⟨true,1,wsv (M.m++z)⟩]⟩
theorem Qqn (M:Mc) (hM:M.inn) (kind w a:Int) (ls acts:List Int) (n k:Nat) (h1:M.m.length≤300) (h2:M.ks.size≤40) (h3:M.d.od.size≤300):Fn Tryz.prog 7 [.agg (M.C 0),.s (.bool true),.s (.int .i64 kind),.s (.sl 1 0 n),.s (.sl 2 0 k),.s (.int .i64 w),.s (.int .i64 a)] [⟨false,1,wsv M.m⟩,⟨false,1,isv .i64 ls⟩,⟨false,1,isv .i64 acts⟩]
  (· =⟨.a (.agg (M.C 0)),[],[]⟩):=by
 have hsA:=QaH .i64 ls
 have hsB:=QaH .i64 acts
 have hsM:=Qaa M.m
 have hx:=hM.x
 have hc:=hM.c
 generalize isv .i64 ls=A0 at *
 generalize isv .i64 acts=A1 at *
 clear hM
 obtain ⟨_,_,_,me,kse,_,_,_,de,ne,_,_,_,_,_⟩:=M
 dsimp only at *
 obtain ⟨_,_,_,_,_,_,_,_,_,_,_,_,_,_,_,_,rfl⟩:=Qaq hx
 obtain ⟨_,_,_,_,_,_,_,_,rfl⟩:=QaJ hc
 obtain ⟨_,_,_,_,_,_,_,de_7⟩:=de
 obtain ⟨_,_,_,_,_,_⟩:=ne
 simp only [Qaf,List.cons_append,List.nil_append,Mc.C,Mc.D,Dk.C,Nk.C] at *
 generalize hX:wsv me=X at *
 generalize me.length=nn at *
 have g1:((nn:Nat):Int)≤300:=by omega
 have g2:((kse.size:Nat):Int)≤40:=by omega
 have g3:((de_7.size:Nat):Int)≤300:=by omega
 refine fnW Tryz.func7 ?_
 (repeat' ((conv=>whnf);first|(intro hb;first|exact zk4 hb|(try (replace hb:=zn4 hb)))|refine zst ?_|refine zbx ?_ ?_|refine zgx ?_ ?_|refine eqR ?_));(all_goals (try (conv=>whnf)))
 all_goals exact QeH
theorem Qly (M:Mc) (hM:M.inn) (raw:Bool) (kind w a:Int) (ls acts:List Int) (n k:Nat) (h:¬ (raw=true∧M.m.length≤300∧M.ks.size≤40∧M.d.od.size≤300)) (hn:ls.length=n) (hk:acts.length=k) (hk2:k≤30) (hMc:Fn Tryz.prog 43 [.s (.int .i64 kind),.s (.sl 0 0 n)] [⟨false,1,isv .i64 ls⟩] mcQ):Fn Tryz.prog 7 [.agg (M.C 0),.s (.bool raw),.s (.int .i64 kind),.s (.sl 1 0 n),.s (.sl 2 0 k),.s (.int .i64 w),.s (.int .i64 a)] [⟨false,1,wsv M.m⟩,⟨false,1,isv .i64 ls⟩,⟨false,1,isv .i64 acts⟩] rwQ:=by
 have qR:=Qfh kind ls acts n k hn hk hk2 hMc
 have hsA:=QaH .i64 ls
 have hsB:=QaH .i64 acts
 have hsM:=Qaa M.m
 have hx:=hM.x
 have hc:=hM.c
 generalize isv .i64 ls=A0 at *
 generalize isv .i64 acts=A1 at *
 clear hM hMc hn hk
 obtain ⟨_,_,_,me,kse,_,_,_,de,ne,_,_,_,_,_⟩:=M
 dsimp only at *
 obtain ⟨_,_,_,_,_,_,_,_,_,_,_,_,_,_,_,_,rfl⟩:=Qaq hx
 obtain ⟨_,_,_,_,_,_,_,_,rfl⟩:=QaJ hc
 obtain ⟨_,_,_,_,_,_,_,de_7⟩:=de
 obtain ⟨_,_,_,_,_,_⟩:=ne
 simp only [Qaf,List.cons_append,List.nil_append,Mc.C,Mc.D,Dk.C,Nk.C] at *
 generalize hX:wsv me=X at *
 generalize me.length=nn at *
 have e:raw=false∨(raw=true∧¬ ((nn:Nat):Int)≤300)∨(raw=true∧((nn:Nat):Int)≤300∧¬ ((kse.size:Nat):Int)≤40)∨(raw=true∧((nn:Nat):Int)≤300∧((kse.size:Nat):Int)≤40∧¬ ((de_7.size:Nat):Int)≤300):=by
  cases raw
  ·exact .inl rfl
  ·simp at h ⊢
   omega
 clear h
 rcases e with rfl|⟨rfl,g1⟩|⟨rfl,g1,g2⟩|⟨rfl,g1,g2,g3⟩
 all_goals
  refine fnW Tryz.func7 ?_
  (repeat' ((conv=>whnf);first|(intro hb;first|exact zk4 hb|(try (replace hb:=zn4 hb)))|(refine QbK qR [⟨_,0⟩,⟨_,0⟩] [(_,_),(_,_)] aRn ⟨rfl,rfl,trivial⟩ ⟨rfl,Qaw (by assumption),rfl,Qaw (by assumption),trivial⟩ ?_ ?_;(focus (rintro R ⟨M3,_,_,rfl⟩;exact ⟨(by show 1≤Qam;decide),fun p h=>by cases h⟩));rintro R ⟨M1,hok1,hl1,rfl⟩;have qB:=Qk6 M1 hok1 hl1 w a;have hx1:=hok1.x;have hc1:=hok1.c;have hs3:=Qaa M1.m;clear hok1;generalize hX1:wsv M1.m=X1 at *;obtain ⟨_,_,_,mg,_,_,_,_,dg,ng,_,_,_,_,_⟩:=M1;dsimp only at *;obtain ⟨_,_,_,_,_,_,_,_,_,_,_,_,_,_,_,_,rfl⟩:=Qaq hx1;obtain ⟨_,_,_,_,_,_,_,_,rfl⟩:=QaJ hc1;obtain ⟨_,_,_,_,_,_,_,_⟩:=dg;obtain ⟨_,_,_,_,_,_⟩:=ng;simp only [Qaf,List.cons_append,List.nil_append,Mc.C,Mc.D,Dk.C,Nk.C] at *;generalize mg.length=nv at *)|(refine QbK qB [⟨_,0⟩] [(_,_)] aRn ⟨rfl,trivial⟩ ⟨rfl,Qaw (by assumption),trivial⟩ ?_ ?_;(focus (rintro R ⟨M3,z3,_,rfl⟩;exact ⟨(by show 1≤Qam;decide),fun p h=>by cases h⟩));rintro R ⟨M2,z,hok2,rfl⟩;have hx2:=hok2.x;have hc2:=hok2.c;have hs2:=Qaa (M2.m++z);have hfinQ:rwQ ⟨.a (.agg (M2.C 3)),[],[⟨true,1,wsv (M2.m++z)⟩]⟩:=⟨M2,z,hok2,rfl⟩;clear hok2;obtain ⟨_,_,_,mf,_,_,_,_,df,nf,_,_,_,_,_⟩:=M2;dsimp only at *;obtain ⟨_,_,_,_,_,_,_,_,_,_,_,_,_,_,_,_,rfl⟩:=Qaq hx2;obtain ⟨_,_,_,_,_,_,_,_,rfl⟩:=QaJ hc2;obtain ⟨_,_,_,_,_,_,_,_⟩:=df;obtain ⟨_,_,_,_,_,_⟩:=nf;generalize hXz:wsv (mf++z)=Xz at *;simp only [Qaf,List.cons_append,List.nil_append,Mc.C,Mc.D,Dk.C,Nk.C] at *;generalize hnf:mf.length=nf at *)|refine zst ?_|refine zbx ?_ ?_|refine zgx ?_ ?_|refine eqR ?_));(all_goals (try (conv=>whnf)))
  all_goals first|(exfalso;omega)|(exfalso;simp at hb;done)|(refine QaS hfinQ ?_;(exact QeE))
end Go.Proofs.YtjgikeckbeeehaaGreat
