import Derived.Test.YtflaceijiphfdaaGreatP37
import Derived.Test.YtflaceijiphfdaaGreatP45
set_option linter.unusedSimpArgs false
set_option linter.unusedVariables false
set_option maxHeartbeats 0
set_option maxRecDepth 100000
namespace Go.Proofs.YtflaceijiphfdaaGreat
open Go Go.RowKit
theorem QeJ (xs:List Nat) (n s r va:Nat) (sz ac:Int):rsK xs n s r va sz ac=0↔rsO xs n s r va sz ac=true:=by grind [rsK,rsO,Qcs]
theorem QG4 (pc:Nat) (h:ZU pc):lpc pc 1=pc:=by
 unfold lpc w32;omega
theorem QE3 (w:Nat) (hd:dOk w=true):(bM w).o=dOp w/\(bM w).a=nA w/\(bM w).b=nB w/\(bM w).c=nC w/\(bM w).n=1:=by
 obtain ⟨h1,_,h2,_,_,_⟩:=QhV w hd;exact ⟨rfl,by show (dA w).toNat=_;rw [h1];rfl,by show (dB w).toNat=_;rw [h2];rfl,rfl,rfl⟩
theorem QAC (w:Nat) (h:dOp w=24):(bM w).k=w32 ((w32 (dM w):Nat)*65536):=by grind [trK,dOp,dM,w32,bM]
theorem QAD (w:Nat) (h:40<=dOp w/\dOp w<=45\/dOp w=48):(bM w).k=w32 (4*(w32 (dM w):Nat)):=by
 show (trK (dOp w) (dM w)).toNat=_;unfold trK w32;rw [zN (by omega),zP h];omega
theorem Qsy (w:Nat) (h:dOp w≠24) (h2:¬ (40<=dOp w/\dOp w<=45\/dOp w=48)):(bM w).k=w32 (dM w):=by grind [trK,dOp,dM,w32,bM]
theorem QCJ (o:Int):wd o=((szO o:Nat):Int):=by unfold wd szO;split<;>rfl
theorem Qpx (x:List Nat) (o:Int) (A:Nat) (m:Int) (h:o<=59):eK (exE x o A m)=0:=by
 unfold exE;rw [zN (by omega),zN (by omega),zN (by omega),zN (by omega),zN (by omega)];rfl
theorem QAq (M:Mc) (hM:M.ok) (hi:QcQ M=false) (zU:M.wt=false) (hf:mO M M.pc 4 1=true) (hk:mM M M.pc 4 1=M.m) (w:Nat) (hw:M.m.getD (mA M M.pc 4 1 / 4) 0=w) (hd:dOk w=true) (M':Mc) (h:opM M (bM w)=some M') :
  Qbi M 0=(Qdk M',none):=by
 have hP:Qdm M=M.pc:=by unfold Qdm;rw [hi,zN (by decide)]
 have hC:Qdl M=M.c:=by unfold Qdl;rw [hi,zN (by decide)]
 have YP:rsK M.m M.m.length (M.c.getD 0 0) (M.c.getD 6 0) M.pc 4 1=0:=(QeJ _ _ _ _ _ _ _).2 hf
 have yE:ftW M.m M.m.length (M.c.getD 0 0) (M.c.getD 6 0) M.pc=w:=by
  unfold ftW;rw [zP YP];change (mM M M.pc 4 1).getD (mA M M.pc 4 1 / 4) 0=w;rw [hk];exact hw
 have UF:rsM M.m M.m.length (M.c.getD 0 0) (M.c.getD 6 0) M.pc 4 1=M.m:=hk;obtain ⟨b1,b2,b3,b4,b5⟩:=QE3 w hd;have hl:=QG4 M.pc hM.pr;have hrng:=(QhV w hd).2.2.2.2.2.2.2.2
 have key:∀ (Q:Ex),exS M.x M.pc M.c M.m M.m.length=Q->eK Q.e=0->Q.c=M.c->M'= { M with x:=Q.x,pc:=Q.pc,m:=Q.m }->Qbi M 0=(Qdk M',none):=fun Q h1 h2 h3 h4=>by
  have hq:QaI M=Q:=by unfold QaI;rw [hP,hC];exact h1
  unfold Qbi QaF;rw [hq,h2,zN (by decide),zN (by decide),zN (by decide),zN (by decide),h4,h3];obtain ⟨x,pc,c,m,_,_,_,_,_,_,_,_,_,wt⟩:=M;dsimp only at zU |-;subst zU;rfl
 unfold opM at h;rw [b1,b2,b3,b4,b5,hl] at h
 have vT:∀ (qE:¬ (57<=dOp w/\M.c.getD 0 0%2=0)),exS M.x M.pc M.c M.m M.m.length =
   if 32<=dOp w/\dOp w<=34 then
    ⟨ldX M.x M.m M.m.length (M.c.getD 0 0) (M.c.getD 6 0) (vaO M.x (nB w) (dM w)) (dOp w) (nA w),
     trP M.pc M.c (rsK M.m M.m.length (M.c.getD 0 0) (M.c.getD 6 0) (vaO M.x (nB w) (dM w)) (wd (dOp w)) 2),
     trC M.pc M.c (rsK M.m M.m.length (M.c.getD 0 0) (M.c.getD 6 0) (vaO M.x (nB w) (dM w)) (wd (dOp w)) 2) (vaO M.x (nB w) (dM w)),
     rsM M.m M.m.length (M.c.getD 0 0) (M.c.getD 6 0) (vaO M.x (nB w) (dM w)) (wd (dOp w)) 2,E0⟩
   else if 35<=dOp w/\dOp w<=36 then
    ⟨M.x,trP M.pc M.c (rsK M.m M.m.length (M.c.getD 0 0) (M.c.getD 6 0) (vaO M.x (nB w) (dM w)) (wd (dOp w)) 3),
     trC M.pc M.c (rsK M.m M.m.length (M.c.getD 0 0) (M.c.getD 6 0) (vaO M.x (nB w) (dM w)) (wd (dOp w)) 3) (vaO M.x (nB w) (dM w)),
     stX M.m M.m.length (M.c.getD 0 0) (M.c.getD 6 0) (vaO M.x (nB w) (dM w)) (M.x.getD (nA w) 0) (dOp w),E0⟩
   else ⟨exX M.x M.pc M.c (dOp w) (nA w) (nB w) (nC w) (dM w),exP M.x M.pc M.c (dOp w) (nA w) (nB w) (dM w),exC M.x M.pc M.c (dOp w) (nA w) (dM w),M.m,exE M.x (dOp w) (nA w) (dM w)⟩:=fun qE=>by
  unfold exS;rw [zN (by rw [YP];decide),yE,zN (by rw [hd];decide),zN qE,UF]
 by_cases jZ:dOp w=24
 .rw [zP jZ] at h
  injection h with h
  refine key _ (vT (by omega)) ?_ ?_ ?_
  .grind [Qpx,QcQ,mO,mM,mA,dOk,opM,bM]
  .grind [exC,QcQ,mO,mM,mA,dOk,opM,bM]
  .grind [QAC,fnM,exX,exP,QcQ,mO,mM,mA]
 rw [zN jZ] at h
 by_cases h32:32<=dOp w/\dOp w<=34
 .rw [zP h32] at h
  have gV:vaM M (bM w)=vaO M.x (nB w) (dM w):=by unfold vaM vaO;rw [b3,Qsy w jZ (by omega)]
  rw [gV] at h;unfold mO mA mM cR at h;rw [<- QCJ] at h;split at h
  .rename_i ho
   injection h with h
   have hz:=(QeJ _ _ _ _ _ _ _).2 ho;refine key _ (vT (by omega)) ?_ ?_ ?_
   .rw [zP h32];rfl
   .grind [trC,QcQ,mO,mM,mA,dOk,opM,bM]
   .grind [fnM,ldX,trP,QcQ,mO,mM,mA,dOk]
  .cases h
 rw [zN h32] at h
 by_cases vD:dOp w=35\/dOp w=36
 .rw [zP vD] at h
  have gV:vaM M (bM w)=vaO M.x (nB w) (dM w):=by unfold vaM vaO;rw [b3,Qsy w jZ (by omega)]
  rw [gV] at h;unfold mO mA mM cR at h;rw [<- QCJ] at h;split at h
  .rename_i ho
   injection h with h
   have hz:=(QeJ _ _ _ _ _ _ _).2 ho;refine key _ (vT (by omega)) ?_ ?_ ?_
   .rw [zN h32,zP (by omega)];rfl
   .grind [trC,QcQ,mO,mM,mA,dOk,opM,bM]
   .rw [zN h32,zP (by omega),<- h]
    unfold fnM stX trP;dsimp only;rw [hz,zP rfl,zP rfl];rfl
  .cases h
 rw [zN vD] at h;have hexc:dOp w≠56->dOp w≠57->dOp w≠59->exC M.x M.pc M.c (dOp w) (nA w) (dM w)=M.c:=fun q1 q2 q3=>by unfold exC;rw [zN q1,zN q2,zN q3]
 by_cases h40:40<=dOp w/\dOp w<=45
 .rw [zP h40] at h
  injection h with h
  refine key _ (vT (by omega)) ?_ ?_ ?_
  .grind [Qpx,QcQ,mO,mM,mA,dOk,opM,bM]
  .grind
  .rw [zN h32,zN (by omega),<- h,QAD w (.inl h40)]
   have e1:exX M.x M.pc M.c (dOp w) (nA w) (nB w) (nC w) (dM w)=M.x:=Qhb;have e2:exP M.x M.pc M.c (dOp w) (nA w) (nB w) (dM w)=if Qc7 (dOp w) (M.x.getD (nA w) 0) (M.x.getD (nB w) 0)=true then w32 ((M.pc:Int)+w32 (4*(w32 (dM w):Nat))) else w32 ((M.pc:Int)+4):=by unfold exP;rw [zP h40]
   dsimp only;rw [e1,e2];rfl
 rw [zN h40] at h
 by_cases h48:dOp w=48
 .grind [Qpx,QAD,fnM,exX,exP,QcQ,mO,mM]
 rw [zN h48] at h
 by_cases h49:dOp w=49
 .grind [Qpx,Qsy,fnM,exX,exP,QcQ,mO,mM]
 rw [zN h49] at h
 by_cases gZ:QbS (dOp w)=true
 .grind [dOp,QbS,Qpx,Qsy,fnM,exX,exP,QcQ]
 rw [zN gZ] at h;cases h
theorem Qf7 (o:Int):QbS o=true↔(1<=o/\o<=13\/16<=o/\o<=23):=by unfold QbS;rw [zde]
theorem QeX (o:Int) (h:Qd6 o≠0):o=1\/o=2\/o=3\/o=4\/o=5\/o=6\/o=7\/o=8\/o=12:=by grind [Qd6]
theorem Qtp (o:Int) (h:Qd6 o≠0) (p q:Nat) (hp:ZU p) (hq:ZU q):Qbr (Qd6 o) p (if o=2 then (4294967296-q)%4294967296 else q)=Qbr o p q:=by
 rcases QeX o h with e|e|e|e|e|e|e|e|e<;>subst e
 .rfl
 .grind [Qhd,Qd6,Qbr]
 all_goals (rw [zN (by omega)];rfl)
theorem Qxl (o:Int) (h:Qd6 o≠0):16<=Qd6 o/\Qd6 o<=23:=by
 rcases QeX o h with e|e|e|e|e|e|e|e|e<;>subst e<;>decide
theorem QCx (o:Int) (a b:Nat) (ha:ZU a) (hb:ZU b):QAf o a b=Qc7 o a b:=by
 unfold QAf Qc7;rw [QbU a ha,QbU b hb]
 by_cases h0:o=40
 .rw [zP h0,zP h0,zbi];simp;omega
 rw [zN h0,zN h0]
 by_cases h1:o=41
 .rw [zP h1,zP h1,zbi];simp;omega
 rw [zN h1,zN h1]
 by_cases h2:o=42
 .grind
 rw [zN h2,zN h2]
 by_cases h3:o=43
 .grind
 rw [zN h3,zN h3]
 by_cases h4:o=44
 .simp_all
 rw [zN h4,zN h4,zbi];simp
def opT (x c m:List Nat) (P:Nat) (o:Mi):Option (List Nat × Nat × List Nat) :=
 if o.o=24 then some (QaC x o.a o.k,w32 ((P:Nat)+4),m)
 else if 32<=o.o/\o.o<=34 then
  (if rsO m m.length (c.getD 0 0) (c.getD 6 0) (w32 ((x.getD o.b 0:Nat)+(o.k:Nat))) (szO o.o) 2=true then some (QaC x o.a (ldV o.o (rsM m m.length (c.getD 0 0) (c.getD 6 0) (w32 ((x.getD o.b 0:Nat)+(o.k:Nat))) (szO o.o) 2) (rsA m m.length (c.getD 0 0) (c.getD 6 0) (w32 ((x.getD o.b 0:Nat)+(o.k:Nat))) (szO o.o) 2)),w32 ((P:Nat)+4),rsM m m.length (c.getD 0 0) (c.getD 6 0) (w32 ((x.getD o.b 0:Nat)+(o.k:Nat))) (szO o.o) 2) else none)
 else if o.o=35\/o.o=36 then
  (if rsO m m.length (c.getD 0 0) (c.getD 6 0) (w32 ((x.getD o.b 0:Nat)+(o.k:Nat))) (szO o.o) 3=true then some (x,w32 ((P:Nat)+4),stM o.o (rsM m m.length (c.getD 0 0) (c.getD 6 0) (w32 ((x.getD o.b 0:Nat)+(o.k:Nat))) (szO o.o) 3) (rsA m m.length (c.getD 0 0) (c.getD 6 0) (w32 ((x.getD o.b 0:Nat)+(o.k:Nat))) (szO o.o) 3) (x.getD o.a 0)) else none)
 else if 40<=o.o/\o.o<=45 then
  some (x,(if Qc7 o.o (x.getD o.a 0) (x.getD o.b 0)=true then w32 ((P:Nat)+(o.k:Nat)) else w32 ((P:Nat)+4)),m)
 else if o.o=48 then some (QaC x o.a (w32 ((P:Nat)+4)),w32 ((P:Nat)+(o.k:Nat)),m)
 else if o.o=49 then some (QaC x o.a (w32 ((P:Nat)+4)),w32 ((x.getD o.b 0:Nat)+(o.k:Nat)),m)
 else if QbS o.o=true then some (QaC x o.a (Qbr o.o (x.getD o.b 0) (if o.o<=13 then x.getD o.c 0 else o.k)),w32 ((P:Nat)+4),m)
 else none
def pvT (M:Mc) (r:List Nat × Nat × List Nat):Mc:= { M with x:=r.1,pc:=r.2.1,m:=r.2.2 }
theorem QCk (x:List Nat) (v:Nat):QaC x 0 v=x:=zP rfl
theorem QBN (M:Mc) (o:Mi):opM M o=(opT M.x M.c M.m (lpc M.pc o.n) o).map (pvT M):=by
 unfold opM opT
 repeat' split
 all_goals first|rfl|contradiction
theorem QBS {x c m:List Nat} {P:Nat} {o:Mi} {r:List Nat × Nat × List Nat} (h:opT x c m P o=some r):∃ v,r.1=QaC x (if Qlt o.o=true then o.a else 0) v/\(o.o=24->v=o.k):=by
 unfold opT at h;have hT:(Qlt o.o=true)->∀ v,r.1=QaC x o.a v->(o.o=24->v=o.k)->∃ v,r.1=QaC x (if Qlt o.o=true then o.a else 0) v/\(o.o=24->v=o.k):=fun hb v h1 h2=>⟨v,by rw [zP hb];exact h1,h2⟩
 have hF:(Qlt o.o=false)->o.o≠24->r.1=x->∃ v,r.1=QaC x (if Qlt o.o=true then o.a else 0) v/\(o.o=24->v=o.k):=fun hb h2 h1=>⟨0,by rw [hb,zN (by decide)];exact h1,fun h=>absurd h h2⟩
 have hW:Qlt o.o=(decide (o.o=24\/32<=o.o/\o.o<=34\/o.o=48\/o.o=49\/o.o=58\/o.o=60)||QbS o.o):=rfl;have hA:QbS o.o=decide (1<=o.o/\o.o<=13\/16<=o.o/\o.o<=23):=rfl
 by_cases jZ:o.o=24
 .grind
 rw [zN jZ] at h
 by_cases h32:32<=o.o/\o.o<=34
 .grind
 rw [zN h32] at h
 by_cases vD:o.o=35\/o.o=36
 .grind
 rw [zN vD] at h
 by_cases h40:40<=o.o/\o.o<=45
 .grind
 rw [zN h40] at h
 by_cases h48:o.o=48
 .grind
 rw [zN h48] at h
 by_cases h49:o.o=49
 .grind
 rw [zN h49] at h
 by_cases gZ:QbS o.o=true
 .grind
 rw [zN gZ] at h;cases h
theorem QBQ {x c m:List Nat} {P:Nat} {o:Mi} {r:List Nat × Nat × List Nat} (h:opT x c m P o=some r) (he:Qcl o.o=false):r.2.1=w32 ((P:Nat)+4):=by grind [opT,QbS,Qcl,w32]
def Qkd (is:List Bool) (v x:List Nat):Prop:=∀ r,r<16->is.getD r false=true->x.getD r 0=v.getD r 0
theorem Qez {α:Type} (l:List α) (i j:Nat) (x d:α) (h:i<l.length):(l.set i x).getD j d=if j=i then x else l.getD j d:=by grind
theorem QiX {is:List Bool} {v x c m:List Nat} {P:Nat} {o:Mi} {r:List Nat × Nat × List Nat} (hi:is.length=16) (hv:v.length=16) (hx:x.length=16) (ha:o.a<16) (hc:Qkd is v x) (h:opT x c m P o=some r):Qkd (Qfz o.o o.a is) (QeV o.o o.a o.k v) r.1:=by grind [QBS,Qfz,QeV,Qlt,QCk,QaC,Qez,Qkd,opT]
theorem QBR (x c m:List Nat) (P:Nat) (o:Mi) (is:List Bool) (v:List Nat) (hok:Qbn o) (hx:ZL x) (h0:x.getD 0 0=0) (hc:Qkd is v x):opT x c m P (Qa3 o is v)=opT x c m P o:=by
 have g:=Qgo hx;have gb:=g o.b;have gc:=g o.c;have ga:=g o.a;unfold Qa3
 by_cases hm:32<=o.o/\o.o<=36
 .rw [zP hm]
  split
  .rename_i hk
   have hb:=hc o.b hok.2.1 hk.1
   have gV:w32 ((x.getD 0 0:Nat)+(((o.k+v.getD o.b 0)%4294967296:Nat):Int))=w32 ((x.getD o.b 0:Nat)+(o.k:Nat)):=by
    rw [h0,hb];unfold w32;omega
   unfold opT;dsimp only;rw [gV]
   by_cases h34:o.o<=34
   .grind
   .grind
  .rfl
 rw [zN hm]
 by_cases hbr:40<=o.o/\o.o<=45
 .rw [zP hbr]
  split
  .rename_i hk
   have e1:=hc o.a hok.1 hk.1;have e2:=hc o.b hok.2.1 hk.2;rw [<- e1,<- e2,QCx _ _ _ ga gb];have hL:∀ k,opT x c m P ⟨48,0,0,0,k,o.n⟩=some (x,w32 ((P:Nat)+(k:Nat)),m):=fun k=>rfl
   have hR:opT x c m P o=some (x,(if Qc7 o.o (x.getD o.a 0) (x.getD o.b 0)=true then w32 ((P:Nat)+(o.k:Nat)) else w32 ((P:Nat)+4)),m):=by
    unfold opT;rw [zN (show ¬ o.o=24 by omega),zN (show ¬ (32<=o.o/\o.o<=34) by omega),zN (show ¬ (o.o=35\/o.o=36) by omega),zP hbr]
   rw [hL,hR];cases Qc7 o.o (x.getD o.a 0) (x.getD o.b 0)<;>rfl
  .rfl
 rw [zN hbr]
 by_cases gZ:QbS o.o=false
 .grind
 rw [zN gZ];have gZ:QbS o.o=true:=by cases h:QbS o.o with|true=>rfl|false=>exact absurd h gZ
 have vK:=(Qf7 _).1 gZ
 have hR:opT x c m P o=some (QaC x o.a (Qbr o.o (x.getD o.b 0) (if o.o<=13 then x.getD o.c 0 else o.k)),w32 ((P:Nat)+4),m):=by
  unfold opT;rw [zN (by omega),zN (by omega),zN (by omega),zN (by omega),zN (by omega),zN (by omega),zP gZ]
 have ht:(Qkb o.o=true)=(o.o<=13):=by unfold Qkb;rw [zde];exact propext ⟨fun h=>h.2,fun h=>⟨by omega,h⟩⟩
 split
 .rename_i hk
  rw [hR];have e1:=hc o.b hok.2.1 hk.1;have hL:∀ k,opT x c m P ⟨24,o.a,0,0,k,o.n⟩=some (QaC x o.a k,w32 ((P:Nat)+4),m):=fun k=>rfl
  show opT x c m P ⟨24,o.a,0,0,_,o.n⟩=_;rw [hL,<- e1]
  by_cases h3:o.o<=13
  .simp_all [Qkb,Qbn,h0,Qkd,opT,Qa3]
  .grind
 .split
  .rename_i hi
   have zB:=Qxl o.o hi.1;have h3:o.o<=13:=by have:=QeX o.o hi.1;omega
   rw [hR,zP h3];have e1:=hc o.c hok.2.2.1 hi.2;rw [<- e1]
   have hL:∀ k,opT x c m P ⟨Qd6 o.o,o.a,o.b,0,k,o.n⟩=some (QaC x o.a (Qbr (Qd6 o.o) (x.getD o.b 0) k),w32 ((P:Nat)+4),m):=fun k=>by
    unfold opT;dsimp only;rw [zN (by omega),zN (by omega),zN (by omega),zN (by omega),zN (by omega),zN (by omega),zP ((Qf7 _).2 (.inr zB)),zN (show ¬ Qd6 o.o<=13 by omega)]
   show opT x c m P ⟨Qd6 o.o,o.a,o.b,0,_,o.n⟩=_;rw [hL,Qtp o.o hi.1 _ _ gb gc]
  .rfl
structure Ftc (M:Mc) (pc q:Nat):Prop where
 (o:mO M pc 4 1=true) (a:mA M pc 4 1=4*q) (k:mM M pc 4 1=M.m)
theorem Qh0 {M:Mc} {pc q:Nat} (hn:mpg M.m.length*32=M.m.length) (hp:ZU pc) (h:Ftc M pc q) (hq:q%32<31) (gH:M.m.length<=1000000):Ftc M (pc+4) (q+1)/\pc+4<4294967296:=by
 obtain ⟨o,a,k⟩:=h;unfold mO at o;unfold mA rsA at a;rw [zP o] at a;unfold mM rsM at k;have o0:=o;unfold rsO at o;simp only [zba,zde] at o;obtain ⟨⟨⟨o1,o2⟩,_⟩,o4⟩:=o;have h4:pc%4=0:=by omega
 have h4':((pc+4:Nat):Int)%((4:Nat):Int)=0:=by omega
 by_cases fZ:Qc5 (M.c.getD 0 0)=true
 .rw [zP fZ] at o4 a
  rw [zP ⟨o0,fZ⟩] at k;have e1:(pc+4) / 128=pc / 128:=by omega
  have hW:QaR M.m (cR M) (pc+4)=QaR M.m (cR M) pc:=by unfold QaR;rw [e1]
  have hE:Qa6 (cR M) (pc+4)=Qa6 (cR M) pc:=by unfold Qa6;rw [e1]
  have o5:=o4;unfold Qbl at o4;simp only [zba,zde] at o4;have gO:=o4.1.1.1.2
  have o6:Qbl M.m M.m.length (cR M) (pc+4) 1=true:=by
   unfold Qbl at o5 |-;rw [hW];simp only [zba,zde] at o5 |-;exact ⟨⟨⟨⟨o5.1.1.1.1,by omega⟩,o5.1.1.2⟩,o5.1.2⟩,o5.2⟩
  have o7:rsO M.m M.m.length (M.c.getD 0 0) (cR M) (pc+4) ((4:Nat):Int) 1=true:=by
   unfold rsO;rw [o1,o2,zdt h4',zP fZ,o6];rfl
  refine ⟨⟨o7,?_,?_⟩,by omega⟩
  .unfold mA rsA
   rw [zP o7,zP fZ,hW];omega
  .unfold mM rsM
   rw [zP ⟨o7,fZ⟩,hE];exact k
 .rw [zN fZ] at o4 a
  unfold acB at o4;rw [zP (by omega)] at o4
  have h5:(pc+4)<4*M.m.length:=by
   unfold ld4 at o4;simp only [zba,zde] at o4;omega
  have o6:ld4 M.m.length (pc+4)=true:=by
   unfold ld4;simp only [zba,zde];omega
  have o7:rsO M.m M.m.length (M.c.getD 0 0) (cR M) (pc+4) ((4:Nat):Int) 1=true:=by
   unfold rsO acB;rw [o1,o2,zdt h4',zN fZ,zP (by omega),o6];rfl
  refine ⟨⟨o7,?_,?_⟩,by omega⟩
  .unfold mA rsA
   rw [zP o7,zN fZ];omega
  .unfold mM rsM
   rw [zN (fun h=>fZ h.2)]
theorem or8 (p:Nat):(p ||| 8) ||| 8=p ||| 8:=by rw [Nat.or_assoc];rfl
theorem QrM (p:Nat) (ac:Int):QbG (QbG p ac) 1=QbG p ac:=by grind [QbG,or8]
theorem QFN (p k b:Nat) (h:k &&& b=0):(p ||| k) &&& b=p &&& b:=by grind
theorem Qvw (p:Nat) (ac a:Int):pmW (QbG p ac) a=pmW p a:=by grind [pmW,QbG,QFN]
theorem Qrv (l:List Nat) (j:Nat):l.set j (l.getD j 0)=l:=by
 apply List.ext_getElem?;intro i;rw [List.getElem?_set];split
 .grind
 .rfl
theorem Qxg {M:Mc} {pc q:Nat} {m1:List Nat} (hn:mpg M.m.length*32=M.m.length) (hl:m1.length=M.m.length) (hp:∀ j,j / 32=cR M->QEb (M.m.getD j 0) (m1.getD j 0)) (h:Ftc M pc q):Ftc { M with m:=m1 } pc q:=by
 obtain ⟨o,a,k⟩:=h;unfold mO at o;unfold mA rsA at a;rw [zP o] at a;unfold mM rsM at k;have o0:=o;unfold rsO at o;simp only [zba,zde] at o;obtain ⟨⟨⟨o1,o2⟩,o3⟩,o4⟩:=o
 by_cases fZ:Qc5 (M.c.getD 0 0)=true
 .rw [zP fZ] at o4 a
  rw [zP ⟨o0,fZ⟩] at k;unfold Qbl at o4;simp only [zba,zde] at o4;obtain ⟨⟨⟨⟨_,w2⟩,w3⟩,w4⟩,w5⟩:=o4;have hj:=hp (cR M*32+pc / 128) (by omega);have yB:cR M*32+pc / 128<M.m.length:=by omega
  have e4:Qa6 (cR M) pc / 4=cR M*32+pc / 128:=by unfold Qa6;omega
  rw [e4] at k;have kt:QbG (M.m.getD (cR M*32+pc / 128) 0) 1=M.m.getD (cR M*32+pc / 128) 0:=by grind
  have hq:pmW (m1.getD (cR M*32+pc / 128) 0) 1=pmW (M.m.getD (cR M*32+pc / 128) 0) 1/\frW (m1.getD (cR M*32+pc / 128) 0)=frW (M.m.getD (cR M*32+pc / 128) 0)/\QbG (m1.getD (cR M*32+pc / 128) 0) 1=m1.getD (cR M*32+pc / 128) 0:=by
   rcases hj with hj|⟨ac,hj⟩
   .grind
   .rw [hj];exact ⟨Qvw _ _ _,QhZ _ _,QrM _ _⟩
  obtain ⟨q1,q2,q3⟩:=hq
  have o7:rsO m1 m1.length (M.c.getD 0 0) (cR M) pc ((4:Nat):Int) 1=true:=by
   unfold rsO Qbl QaR;rw [o1,o2,zdt o3,zP fZ,q1,q2,hl,zdt w2,zdt w3];unfold QaR at w4 w5;rw [w4,zdt w5];rfl
  refine ⟨o7,?_,?_⟩
  .show rsA m1 m1.length (M.c.getD 0 0) (cR M) pc ((4:Nat):Int) 1=_
   unfold rsA;rw [zP o7,zP fZ];unfold QaR at a |-;rw [q2];exact a
  .show rsM m1 m1.length (M.c.getD 0 0) (cR M) pc ((4:Nat):Int) 1=m1
   unfold rsM;rw [zP ⟨o7,fZ⟩,e4,q3];exact Qrv _ _
 .rw [zN fZ] at o4 a
  have o7:rsO m1 m1.length (M.c.getD 0 0) (cR M) pc ((4:Nat):Int) 1=true:=by
   unfold rsO;rw [o1,o2,zdt o3,zN fZ,hl,o4];rfl
  refine ⟨o7,?_,?_⟩
  .show rsA m1 m1.length (M.c.getD 0 0) (cR M) pc ((4:Nat):Int) 1=_
   unfold rsA;rw [zP o7,zN fZ];exact a
  .show rsM m1 m1.length (M.c.getD 0 0) (cR M) pc ((4:Nat):Int) 1=m1
   unfold rsM;rw [zN (fun h=>fZ h.2)]
def QgW:Nat->Mc->Mc->Prop
 | 0,M,M'=>M=M'
 | k+1,M,M'=>∃ M1,Qch M=false/\Qe3 M=false/\Qbi M 0=(M1,none)/\QgW k M1 M'
theorem QdI:∀ {k:Nat} {j:Nat} {M M1 M2:Mc},QgW k M M1->QgW j M1 M2->QgW (k+j) M M2
 | 0,j,M,M1,M2,h,g=>by
  have h:M=M1:=h;subst h;rw [Nat.zero_add];exact g
 | k+1,j,M,M1,M2,h,g=>by
  obtain ⟨N,h1,h2,h3,h4⟩:=h;rw [show k+1+j=(k+j)+1 by omega];exact ⟨N,h1,h2,h3,QdI h4 g⟩
theorem Qt9 {M M1:Mc} (h1:Qch M=false) (h2:Qe3 M=false) (h3:Qbi M 0=(M1,none)):QgW 1 M M1:=⟨M1,h1,h2,h3,rfl⟩
theorem Qqq (M:Mc) (x m:List Nat) (pc ct:Nat) (h:Qb0 M=true) (hx:x.getD 0 0=0) (hl:m.length=M.m.length) (hc:ct<=1152921504606846976):Qb0 { M with x:=x,pc:=pc,m:=m,ct:=ct }=true:=by
 unfold Qb0 at h |-;rw [zde] at h |-;obtain ⟨h1,_,h3,h4,h5,h6,h7,h8,h9,jL,yC,_,VJ⟩:=h;dsimp only;rw [hl];exact ⟨h1,hx,h3,h4,h5,h6,h7,h8,h9,jL,yC,hc,VJ⟩
theorem Qru (x:List Nat) (a v:Nat) (h:x.getD 0 0=0):(QaC x a v).getD 0 0=0:=by grind [QaC,QeA]
theorem QF8 {M:Mc} (h1:Qb0 M=true) (h2:M.ht=false) (h3:M.wt=false) (h4:M.ct<1152921504606846976):Qch M=false:=by grind [Qch,Qm5,Qb0]
theorem QBP (x c m:List Nat) (P:Nat) (o:Mi) (h:o.o=60):opT x c m P o=none:=by grind [opT,QbS]
theorem QFC {M:Mc} (hM:M.ok) (h1:Qb0 M=true) (h2:M.ht=false) (h3:M.wt=false) (h4:M.ct<1152921504606846976) (hi:QcQ M=false) {q w:Nat} (F:Ftc M M.pc q) (hw:M.m.getD q 0=w) (hd:dOk w=true) {r:List Nat × Nat × List Nat} (h:opT M.x M.c M.m M.pc (bM w)=some r) :
  Qch M=false/\Qe3 M=false/\Qbi M 0=(Qdk (pvT M r),none):=by
 obtain ⟨o,a,k⟩:=F;refine ⟨QF8 h1 h2 h3 h4,?_,?_⟩
 .unfold Qe3
  have:QtP M=false:=by
   unfold QtP Qsm;have hC:Qdl M=M.c:=by unfold Qdl;rw [hi,zN (by decide)]
   have hP:Qdm M=M.pc:=by unfold Qdm;rw [hi,zN (by decide)]
   rw [hC,hP]
   by_cases hk:M.c.getD 0 0%2=1
   .grind [Qc5,mO,mA,rsA,dOp,QBP,bM,Qb0]
   .grind
  rw [this,Bool.and_false]
 .refine QAq M hM hi h3 o k w (by rw [a,show 4*q / 4=q by omega];exact hw) hd _ ?_
  rw [QBN,(QE3 w hd).2.2.2.2,QG4 M.pc hM.pr,h];rfl
theorem QBT (m:Mi) (l:List Mi) (lim d:Nat) (E:Eg):QfB (m::l) lim d E=if lim-d<m.n.toNat then (E,d) else if (exO E m).2=false then (E,d) else if (exO E m).1.s=true then (ctE m.n.toNat (exO E m).1,d+m.n.toNat) else QfB l lim (d+m.n.toNat) (ctE m.n.toNat (exO E m).1):=rfl
def Qn0 (M:Mc) (x:List Nat) (p:Nat):Mc:= { M with x:=x,pc:=M.pc+4*p,ct:=M.ct+p }
structure Bs (X:List Nat) (f q p:Nat) (x:List Nat) (E:Eg):Prop where
 (ok:E.ok) (coh:Coh E) (s:E.s=false) (fr:E.f=f) (may:Qb0 E.M=true) (ht:E.M.ht=false) (wt:E.M.wt=false) (int:QcQ E.M=false)
 (wd:∀ j,j / 32=f->E.M.m.getD j 0=X.getD j 0) (pc:E.M.pc+4*p<4294967296) (ft:Ftc E.M (E.M.pc+4*p) q)
 (x16:x.length=16) (xr:ZL x) (x0:x.getD 0 0=0)
structure Dn (lim d:Nat) (E:Eg) (R:Eg × Nat):Prop where
 (le:d<=R.2) (li:R.2<=lim) (run:QgW (R.2-d) E.M R.1.M) (ok:R.1.ok) (coh:Coh R.1) (o:R.1.o=E.o)
theorem QoW {lim d:Nat} {E:Eg} (h:d<=lim) (hE:E.ok) (hC:Coh E):Dn lim d E (E,d):=⟨Nat.le_refl _,h,by show QgW (d-d) _ _;rw [Nat.sub_self];rfl,hE,hC,rfl⟩
theorem Qot {X:List Nat} {f q p:Nat} {x:List Nat} {E:Eg} (h:Bs X f q p x E) (hq:q / 32=f) (qN:E.M.ct+p<1152921504606846976) (hd:dOk (X.getD q 0)=true) {r:List Nat × Nat × List Nat} (hr:opT x E.M.c E.M.m (E.M.pc+4*p) (bM (X.getD q 0))=some r) :
  QgW 1 (Qn0 E.M x p) { E.M with x:=r.1,pc:=r.2.1,m:=r.2.2,ct:=E.M.ct+p+1 }:=by
 have hok:(Qn0 E.M x p).ok:=by
  obtain ⟨_,a2,_,a4,_,a6,a7,a8,a9,b1,b2,b3,_,b5⟩:=h.ok.M;exact ⟨h.x16,a2,h.xr,a4,h.pc,a6,a7,a8,a9,b1,b2,b3,by show E.M.ct+p<_;omega,b5⟩
 have jF:Qb0 (Qn0 E.M x p)=true:=Qqq E.M x E.M.m _ _ h.may h.x0 rfl (by omega);obtain ⟨g1,g2,g3⟩:=QFC (M:=Qn0 E.M x p) hok jF h.ht h.wt qN h.int (q:=q) (w:=X.getD q 0) ⟨h.ft.o,h.ft.a,h.ft.k⟩ (h.wd q hq) hd hr;refine Qt9 g1 g2 ?_;rw [g3];unfold Qdk pvT Qn0;dsimp only;rw [Nat.mod_eq_of_lt (show E.M.ct+p+1<18446744073709551616 by omega)]
theorem Qmo (x:List Nat) (a u v:Nat):QaC (QaC x a u) a v=QaC x a v:=by grind [QaC,List.set_set]
theorem Qvu {x c m:List Nat} {P:Nat} {o:Mi} (h:o.o=24):opT x c m P o=some (QaC x o.a o.k,w32 ((P:Nat)+4),m):=by
 unfold opT;rw [zP h]
theorem Qwd {X:List Nat} {f q p n:Nat} {x:List Nat} {E E1:Eg} (h:Bs X f q p x E) (hq:q / 32=f) (GF:q%32<31) (hK:Keep E E1) (hs:E1.s=false) {r:List Nat × Nat × List Nat} (hM:E1.M=pvT E.M r) (gQ:r.2.1=E.M.pc+4*p+4) (hr0:r.1.getD 0 0=0) (qN:(E1.M.ct+n)<=1152921504606846976) :
  Bs X f (q+1) 0 r.1 (ctE n E1):=by
 obtain ⟨_,k2,k3⟩:=hK.s0 hs;have gH:=h.ok.M.ml;obtain ⟨F,_⟩:=Qh0 h.coh.n h.pc h.ft GF (by omega);have hm:E1.M.m=r.2.2:=by rw [hM];rfl
 have hl:r.2.2.length=E.M.m.length:=by rw [<- hm];exact hK.l
 have F2:=Qxg (m1:=r.2.2) h.coh.n hl (by rw [<- hm];exact k3) F;have hX:E1.M.x=r.1:=by rw [hM];rfl
 have hP:E1.M.pc=r.2.1:=by rw [hM];rfl
 have hC:E1.M.ct=E.M.ct:=by rw [hM];rfl
 refine ⟨Qhi hK.ok n,Qgg hK.coh n,hs,hK.f.trans h.fr,?_,?_,?_,?_,fun j hj=>?_,?_,?_,?_,?_,hr0⟩
 .show Qb0 { E1.M with ct:=(E1.M.ct+n)%18446744073709551616 }=true
  rw [Nat.mod_eq_of_lt (by omega),hC,hM];exact Qqq E.M r.1 r.2.2 r.2.1 _ h.may hr0 hl (by omega)
 .show E1.M.ht=false;rw [hM];exact h.ht
 .show E1.M.wt=false;rw [hM];exact h.wt
 .show QcQ { E1.M with ct:=_ }=false
  rw [hM];exact h.int
 .show E1.M.m.getD j 0=_
  rw [k2 j (by rw [h.fr];exact hj)];exact h.wd j hj
 .grind [pvT,ctE]
 .have e:Ftc (ctE n E1).M (E.M.pc+4*p+4) (q+1):=by
   have e2:∀ N:Mc,N.c=E.M.c->N.m=r.2.2->Ftc N (E.M.pc+4*p+4) (q+1):=fun N n1 n2=>by
    obtain ⟨f1,f2,f3⟩:=F2;unfold mO at f1;unfold mA at f2;unfold mM at f3;refine ⟨?_,?_,?_⟩
    .grind [mO,cR,pvT,ctE]
    .grind [mA,cR,pvT,ctE]
    .grind [mM,cR,pvT,ctE]
   exact e2 _ hK.c hm
  show Ftc _ ((ctE n E1).M.pc+4*0) _;rw [show (ctE n E1).M.pc+4*0=E.M.pc+4*p+4 by show E1.M.pc+4*0=_;rw [hP,gQ]];exact e
 .show r.1.length=16
  rw [<- hX];exact hK.ok.M.x
 .rw [<- hX];exact hK.ok.M.xr
theorem QHY (pc p:Nat) (h:pc+4*p<4294967296):lpc pc ((1:Int)+(p:Int))=pc+4*p:=by
 unfold lpc w32;omega
theorem Qua (m:Mi) (l:List Mi) (is:List Bool) (v:List Nat):rwL (m::l) is v=Qa3 m is v::rwL l (Qfz (Qa3 m is v).o (Qa3 m is v).a is) (QeV (Qa3 m is v).o (Qa3 m is v).a (Qa3 m is v).k v):=rfl
theorem QxP (X:List Nat) (hXr:ZL X) (f lim:Nat):∀ (cnt q:Nat) (is:List Bool) (v:List Nat) (p d:Nat) (E:Eg) (x:List Nat),
  is.length=16->v.length=16->(ZL v)->q / 32=f->q%32+cnt<=32->bl X cnt q≠ []->Bs X f q p x E->d<=lim->E.M.ct+(lim-d)<=1152921504606846976->Qkd is v x ->
  (x=E.M.x\/∃ m l z,rwL (bl X cnt q) is v=m::l/\m.o=24/\x=QaC E.M.x m.a z)->(p<=lim-d->QgW p E.M (Qn0 E.M x p)) ->
  Dn lim d E (QfB (mrg (rwL (bl X cnt q) is v) p) lim d E):=by
 intro cnt
 induction cnt with
 | zero=>intro q is v p d E x _ _ _ _ _ h;exact absurd rfl h
 | succ cnt ih =>
  intro q is v p d E x YL hv qV hq GF fY hB zL qN KI hx gX;have VZ:bl X (cnt+1) q=if dOk (X.getD q 0)=true then (if Qcl (dOp (X.getD q 0))=true then [bM (X.getD q 0)] else bM (X.getD q 0)::bl X cnt (q+1)) else []:=rfl
  have hd:dOk (X.getD q 0)=true:=by grind
  rw [zP hd] at VZ;obtain ⟨T,hT,hTe⟩:∃ T,bl X (cnt+1) q=bM (X.getD q 0)::T/\(T≠ []->Qcl (dOp (X.getD q 0))=false/\T=bl X cnt (q+1)):=by grind
  clear VZ;rw [hT] at hx |-;rw [Qua] at hx |-;have wG:X.getD q 0<4294967296:=Qab hXr q;have fW:Qbn (bM (X.getD q 0)):=by grind [Qwb,Qab,bM,List.mem_cons_self,bl,Qkd,rwL,QaC]
  obtain ⟨m,hm⟩:∃ m,Qa3 (bM (X.getD q 0)) is v=m:=⟨_,rfl⟩;have hok1:=Qij (bM (X.getD q 0)) is v qV fW;have zR:m.n=1:=by rw [<- hm,QvA];exact (QE3 _ hd).2.2.2.2
  have JC:=fun c mm P=>QBR x c mm P (bM (X.getD q 0)) is v fW hB.xr hB.x0 KI
  rw [hm] at hok1 hx JC |-;have gZ:=Qoe m.o m.a m.k is v;have vK:=QhH m.o m.a m.k v hok1.2.2.2.1 qV
  have emit:∀ (rest:List Mi),(rest= []\/T≠ []/\rest=mrg (rwL T (Qfz m.o m.a is) (QeV m.o m.a m.k v)) 0)->Dn lim d E (QfB ({ m with n:=m.n+(p:Int) }::rest) lim d E):=fun rest jB=>by
   obtain ⟨e,he⟩:∃ e:Mi,e= { m with n:=m.n+(p:Int) }:=⟨_,rfl⟩;rw [<- he,QBT];have yA:e.n=1+(p:Int):=by rw [he,<- zR]
   have hen2:e.n.toNat=p+1:=by rw [yA];omega
   have heok:Qbn e:=by rw [he];exact ⟨hok1.1,hok1.2.1,hok1.2.2.1,hok1.2.2.2.1⟩
   rw [hen2]
   by_cases hl:lim-d<p+1
   .rw [zP hl];exact QoW zL hB.ok hB.coh
   rw [zN hl];obtain ⟨hF,hTr⟩:=Qpz E hB.ok hB.coh e heok
   cases jT:(exO E e).2 with
   | false=>rw [zP rfl];exact QoW zL hB.ok hB.coh
   | true =>
    rw [zN (fun h=>by cases h)];obtain ⟨uD,hK⟩:=hTr jT;generalize (exO E e).1=E1 at *;clear hF hTr jT;rw [QBN,yA,QHY _ _ hB.pc] at uD;have hen3:opT E.M.x E.M.c E.M.m (E.M.pc+4*p) e=opT E.M.x E.M.c E.M.m (E.M.pc+4*p) m:=by rw [he];rfl
    rw [hen3] at uD;obtain ⟨r,_,hMr⟩:∃ r,opT E.M.x E.M.c E.M.m (E.M.pc+4*p) m=some r/\pvT E.M r=E1.M:=by simp_all
    have wX:opT x E.M.c E.M.m (E.M.pc+4*p) m=some r:=by grind [Qvu,Qmo,bl,Qkd,rwL,QaC,QgW,Qn0]
    have zS:=wX;rw [JC] at zS;have zT:=QdI (gX (by omega)) (Qot hB hq (by omega) hd zS);have hctM:E1.M.ct=E.M.ct:=by rw [<- hMr];rfl
    have KQ:({ E.M with x:=r.1,pc:=r.2.1,m:=r.2.2,ct:=E.M.ct+p+1 }:Mc)=(ctE (p+1) E1).M:=by
     show _= { E1.M with ct:=(E1.M.ct+(p+1))%18446744073709551616 };rw [Nat.mod_eq_of_lt (by omega),<- hMr];rfl
    rw [KQ] at zT
    cases hs:E1.s with
    | true =>
     rw [zP rfl];exact ⟨by show d<=d+(p+1);omega,by show d+(p+1)<=lim;omega,by show QgW (d+(p+1)-d) _ _;rw [show d+(p+1)-d=p+1 by omega];exact zT,Qhi hK.ok _,Qgg hK.coh _,hK.o⟩
    | false =>
     rw [zN (fun h=>by cases h)];rcases jB with jB|⟨vZ,jB⟩
     .subst jB
      exact ⟨by show d<=d+(p+1);omega,by show d+(p+1)<=lim;omega,by show QgW (d+(p+1)-d) _ _;rw [show d+(p+1)-d=p+1 by omega];exact zT,Qhi hK.ok _,Qgg hK.coh _,hK.o⟩
     .subst jB
      obtain ⟨hend,yN⟩:=hTe vZ;have hcnt:0<cnt:=by grind [bl,Qkd,rwL,QaC,QgW,Qn0,QfB,mrg]
      have hpc4:=(Qh0 hB.coh.n hB.pc hB.ft (by omega) (by have:=hB.ok.M.ml;omega)).2
      have hpc1:r.2.1=E.M.pc+4*p+4:=by
       have h1:=QBQ zS hend;rw [h1];unfold w32;omega
      obtain ⟨z,hz,_⟩:=QBS wX;have hr0:r.1.getD 0 0=0:=by rw [hz];exact Qru _ _ _ hB.x0
      have YU:=Qwd (n:=p+1) hB hq (by omega) hK hs hMr.symm hpc1 hr0 (by rw [hctM];omega);have HC:=QiX YL hv hB.x16 hok1.1 KI wX;have hEx:(ctE (p+1) E1).M.x=r.1:=by show E1.M.x=_;rw [<- hMr];rfl
      have hEc:(ctE (p+1) E1).M.ct=E.M.ct+(p+1):=by grind
      have hD:=ih (q+1) (Qfz m.o m.a is) (QeV m.o m.a m.k v) 0 (d+(p+1)) (ctE (p+1) E1) r.1 (by rw [gZ.1,YL]) (by rw [gZ.2,hv]) vK (by omega) (by omega) (by rw [<- yN];exact vZ) YU (by omega) (by rw [hEc];omega) HC (.inl hEx.symm) (fun _=>by grind [ctE,Qn0,bl,Qkd,rwL,QaC,QgW,QfB]);rw [<- yN,show ((0:Nat):Int)=0 from rfl] at hD;generalize QfB (mrg (rwL T (Qfz m.o m.a is) (QeV m.o m.a m.k v)) 0) lim (d+(p+1)) (ctE (p+1) E1)=R at *;obtain ⟨u1,u2,u3,u4,u5,u6⟩:=hD;refine ⟨by omega,u2,?_,u4,u5,u6.trans hK.o⟩;have:=QdI zT u3;rw [show p+1+(R.2-(d+(p+1)))=R.2-d by omega] at this;exact this
  cases hTc:rwL T (Qfz m.o m.a is) (QeV m.o m.a m.k v) with
  | nil=>grind [QfB,bl,Qkd,rwL,QaC,QgW,Qn0,mrg]
  | cons m2 l =>
   have vZ:T≠ []:=fun h=>by rw [h] at hTc;cases hTc
   show Dn lim d E (QfB (if Qsp m m2=true then mrg (m2::l) (m.n+(p:Int)) else { m with n:=m.n+(p:Int) }::mrg (m2::l) 0) lim d E)
   by_cases hu:Qsp m m2=true
   case neg=>grind
   rw [zP hu,zR,show (1:Int)+(p:Int)=((p+1:Nat):Int) by omega,<- hTc];obtain ⟨hend,yN⟩:=hTe vZ;have hcnt:0<cnt:=by grind [bl,Qkd,rwL,QaC,QgW,Qn0,QfB,mrg]
   obtain ⟨hF4,hpc4⟩:=Qh0 hB.coh.n hB.pc hB.ft (by omega) (by have:=hB.ok.M.ml;omega)
   obtain ⟨val,wX,jZ,hval⟩:∃ val,opT x E.M.c E.M.m (E.M.pc+4*p) m=some (QaC x m.a val,w32 (((E.M.pc+4*p:Nat):Int)+4),E.M.m)/\(m.o=24\/m.a=0)/\val<4294967296:=by
    unfold Qsp at hu
    by_cases jZ:m.o=24
    .exact ⟨m.k,Qvu jZ,.inl jZ,hok1.2.2.2.1⟩
    .rw [zN jZ,zba,zde] at hu
     have har2:=(Qf7 _).1 hu.2;refine ⟨Qbr m.o (x.getD m.b 0) (if m.o<=13 then x.getD m.c 0 else m.k),?_,.inr hu.1,?_⟩
     .grind [opT,bl,Qkd,rwL,QaC,QgW,Qn0,QfB]
     .refine QcS _ _ _ (Qab hB.xr _) ?_
      split
      .exact Qab hB.xr _
      .grind
   have zS:=wX;rw [JC] at zS;have hw32:w32 (((E.M.pc+4*p:Nat):Int)+4)=E.M.pc+4*(p+1):=by unfold w32;omega
   have HC:=QiX YL hv hB.x16 hok1.1 KI wX;have gY:=Qld hB.x16 hB.xr m.a val hval;have YU:Bs X f (q+1) (p+1) (QaC x m.a val) E:=⟨hB.ok,hB.coh,hB.s,hB.fr,hB.may,hB.ht,hB.wt,hB.int,hB.wd,by omega,by rw [show E.M.pc+4*(p+1)=E.M.pc+4*p+4 by omega];exact hF4,gY.1,gY.2,Qru _ _ _ hB.x0⟩;rw [yN] at hTc |-;refine ih (q+1) (Qfz m.o m.a is) (QeV m.o m.a m.k v) (p+1) d E (QaC x m.a val) (by rw [gZ.1,YL]) (by rw [gZ.2,hv]) vK (by omega) (by omega) (by rw [<- yN];exact vZ) YU zL qN HC ?_ (fun hp=>?_)
   .grind [QCk,Qsp,u1,Qmo,bl,Qkd,rwL,QaC]
   .have:=QdI (gX (by omega)) (Qot hB hq (by omega) hd zS)
    dsimp only at this;rw [hw32] at this;exact this
structure CpM (x c:List Nat):Prop where
 (x0:x.getD 0 0=0) (c0:c.getD 0 0<=31) (c7:c.getD 7 0<=31) (c6:c.getD 6 0<=255) (c1:c.getD 1 0%4=0)
theorem Qut (s:Nat) (h:s<=31):Qfb s<=31:=by unfold Qfb;omega
theorem Qx4 (s:Nat) (h:s<=31):QgG s<=31:=by unfold QgG;omega
theorem Qhh {x c:List Nat} (h:CpM x c) (pc:Nat) (k:Int) (b:Nat):CpM x (trL pc c k b):=⟨h.x0,Qut _ h.c0,h.c7,h.c6,h.c1⟩
theorem Qkv {x c:List Nat} (h:CpM x c) (a v:Nat):CpM (QaC x a v) c:=⟨Qru _ _ _ h.x0,h.c0,h.c7,h.c6,h.c1⟩
theorem QHK (v:Nat) (h:ZU v):(v &&& (4294967295-3))%4=0:=by
 have h1:(v &&& (4294967295-3))%2^2=(v%2^2) &&& ((4294967295-3)%2^2):=Nat.and_mod_two_pow ..;have h2:(4294967295-3)%2^2=0:=rfl;rw [h2,Nat.and_zero] at h1;exact h1
theorem QAN {x c:List Nat} (hc:c.length=8) (h:CpM x c) (m:Int) (v:Nat) (hv:ZU v):CpM x (wrL c m v):=by
 obtain ⟨h0,h1,h2,h3,h4⟩:=h;have g:∀ i w j,i<8->(c.set i w).getD j 0=if j=i then w else c.getD j 0:=fun i w j hi=>Qez c i j w 0 (by omega)
 unfold wrL
 repeat' split
 all_goals first
  | exact ⟨h0,h1,h2,h3,h4⟩
  | (refine ⟨h0,?_,?_,?_,?_⟩<;>rw [g _ _ _ (by decide)]<;>first|(rw [zN (by decide)];assumption)|(rw [zP rfl];first|omega|exact QHK v hv))
theorem Qwt {x c:List Nat} (hc:c.length=8) (h:CpM x c):CpM x (c.set 0 (QgG (c.getD 0 0))):=by
 obtain ⟨h0,h1,_,_,_⟩:=h;have g:∀ i w j,i<8->(c.set i w).getD j 0=if j=i then w else c.getD j 0:=fun i w j hi=>Qez c i j w 0 (by omega)
 refine ⟨h0,?_,?_,?_,?_⟩<;>rw [g _ _ _ (by decide)]
 .rw [zP rfl];exact Qx4 _ h1
 all_goals (rw [zN (by decide)];assumption)
theorem Qwr {x c:List Nat} (hc:c.length=8) (hx:ZL x) (h:CpM x c) (pc:Nat) (o:Int) (A:Nat) (m:Int):CpM x (exC x pc c o A m):=by
 unfold exC;split
 .exact Qhh h _ _ _
 split
 .exact Qwt hc h
 split
 .exact QAN hc h _ _ (Qab hx _)
 .exact h
theorem Qws {x c d:List Nat} (h:CpM x d) (pc:Nat) (o:Int) (A B C:Nat) (m:Int):CpM (exX x pc c o A B C m) d:=by
 unfold exX;split
 .exact Qkv h _ _
 split
 .exact Qkv h _ _
 split
 .exact Qkv h _ _
 split
 .exact Qkv h _ _
 split
 .exact Qkv h _ _
 .exact h
theorem QoM {x c:List Nat} (h:CpM x c) (pc:Nat) (K:Int) (va:Nat):CpM x (trC pc c K va):=by
 unfold trC;split
 .exact h
 .exact Qhh h _ _ _
theorem QAM (x:List Nat) (pc:Nat) (c xs:List Nat) (n:Nat) (hc:c.length=8) (hx:ZL x) (h:CpM x c):CpM (exS x pc c xs n).x (exS x pc c xs n).c:=by
 unfold exS;split
 .exact Qhh h _ _ _
 split
 .exact Qhh h _ _ _
 split
 .exact Qhh h _ _ _
 split
 .dsimp only
  have:CpM x (trC pc c (rsK (rsM xs n (c.getD 0 0) (c.getD 6 0) pc 4 1) n (c.getD 0 0) (c.getD 6 0) (vaO x (nB (ftW xs n (c.getD 0 0) (c.getD 6 0) pc)) (dM (ftW xs n (c.getD 0 0) (c.getD 6 0) pc))) (wd (dOp (ftW xs n (c.getD 0 0) (c.getD 6 0) pc))) 2) (vaO x (nB (ftW xs n (c.getD 0 0) (c.getD 6 0) pc)) (dM (ftW xs n (c.getD 0 0) (c.getD 6 0) pc)))):=QoM h _ _ _;unfold ldX;split
  .exact Qkv this _ _
  .exact this
 split
 .exact QoM h _ _ _
 .exact Qws (Qwr hc hx h _ _ _ _) _ _ _ _ _ _
theorem Qwn (k:ByteArray) (p:Int) (h:k.size<=16):(Qkt k p).size<=16:=by
 unfold Qkt;split
 .split
  .exact h
  .rw [ByteArray.size_extract];omega
 .exact h
theorem QwH (d:Dk) (xs:List Nat) (n:Nat) (p:Int) (v c:Nat) (h:QbM d (mpg n:Nat)=true):QbM (Qa7 d xs n p v c).1 (mpg n:Nat)=true:=by
 unfold QbM at h |-;rw [zde] at h |-;obtain ⟨h1,h2,h3,h4,h5⟩:=h;unfold Qa7;split
 .exact ⟨h1,h2,h3,h4,h5⟩
 split
 .exact ⟨h1,h2,h3,h4,h5⟩
 split
 .exact ⟨h1,h2,h3,h4,h5⟩
 split
 .rename_i hq
  exact ⟨h1,(show (0:Int)<=0 from by decide),(show (0:Int)<=3 from by decide),fun _=>h4 (by omega),(fun h=>by cases h)⟩
 split
 .rename_i hq
  have h6:=h4 (by omega);split
  .exact ⟨h1,(show (0:Int)<=3 from by decide),(show (3:Int)<=3 from by decide),fun _=>h6,(fun h=>by cases h)⟩
  split
  .exact ⟨h1,(show (0:Int)<=3 from by decide),(show (3:Int)<=3 from by decide),fun _=>h6,(fun h=>by cases h)⟩
  .rename_i g1 g2
   have fZ:QbB n d.fr=true:=by cases h:QbB n d.fr with|true=>rfl|false=>exact absurd h g2
   have GE:=fZ;unfold QbB at GE;have GE:=of_decide_eq_true GE;refine ⟨h1,(show (0:Int)<=1 from by decide),(show (1:Int)<=3 from by decide),(fun h=>absurd rfl h),fun _=>⟨by show d.bl<d.bs;omega,GE,?_⟩⟩;unfold QoZ;dsimp only;rcases hq.1 with e|e
   .left
    rw [zN (by omega)];exact ⟨e,by unfold noD;exact beq_self_eq_true _⟩
   .right
    rw [zP e];exact ⟨e,Qif fZ⟩
 .exact ⟨h1,h2,h3,h4,h5⟩
theorem QxL (d:Nk) (xs:List Nat) (n:Nat) (p:Int) (v c:Nat) (h:Qb4 d (mpg n:Nat)=true):Qb4 (Qbj d xs n p v c).1 (mpg n:Nat)=true:=by
 unfold Qb4 at h |-;rw [zde] at h |-;obtain ⟨h1,h2,h3,h4⟩:=h;unfold Qbj;split
 .exact ⟨h1,h2,h3,h4⟩
 split
 .exact ⟨h1,h2,h3,h4⟩
 split
 .exact ⟨h1,h2,h3,h4⟩
 split
 .exact ⟨fun h=>⟨rfl,(h1 h).2⟩,h2,(fun h=>by cases h),fun _=>rfl⟩
 split
 .exact ⟨h1,h2,h3,h4⟩
 split
 .rename_i hq
  obtain ⟨_,q2,_,q4⟩:=hq;unfold QbB at q2;exact ⟨fun _=>⟨q4,of_decide_eq_true q2⟩,(fun h=>by cases h),h3,h4⟩
 .exact ⟨h1,h2,h3,h4⟩
theorem QAE (a b i:Nat):(a ||| b) / 2^i%2=1↔a / 2^i%2=1\/b / 2^i%2=1:=by
 have h:∀ x:Nat,x / 2^i%2=1↔x.testBit i=true:=fun x=>by
  rw [Nat.testBit_eq_decide_div_mod_eq,zde]
 rw [h,h,h,Nat.testBit_or,Bool.or_eq_true]
theorem Qv8 (bg n:Nat) (p:Int) (v:Nat) (hbg:ZU bg) (h:QbW bg (mpg n:Nat)=true):QbW (Qhl bg n p v) (mpg n:Nat)=true:=by
 unfold QbW at h |-;rw [zde] at h |-;intro i hi hb;unfold Qhl at hb;split at hb
 .rename_i hq
  unfold gvQ QbB at hq;rw [QAE] at hb;rcases hb with hb|hb
  .exact h i hi hb
  .have:i=v:=by
    have h2:(2^v:Nat).testBit i=true:=by rw [Nat.testBit_eq_decide_div_mod_eq,zde];exact hb
    rw [Nat.testBit_two_pow] at h2;exact (of_decide_eq_true h2).symm
   subst this;exact of_decide_eq_true hq.2.1
 split at hb
 .rename_i hq
  have hv:v<32:=by omega
  have hp:2^v<4294967296:=Nat.lt_of_lt_of_le (Nat.pow_lt_pow_right (by decide) hv) (by decide);have he:=(QiH bg (2^v)).1;rw [Qcw bg (2^v) hbg hp] at he;have he:=Int.ofNat_inj.1 he;rw [<- he] at hb;refine h i hi ?_
  have hT:∀ x:Nat,x / 2^i%2=1↔x.testBit i=true:=fun x=>by
   rw [Nat.testBit_eq_decide_div_mod_eq,zde]
  rw [hT,Nat.testBit_and,zba] at hb;rw [hT];exact hb.1
 .exact h i hi hb
theorem Qsu (M:Mc) (hM:M.ok) (w:Nat) (h:Qb0 M=true) (hs:Qch M=false):Qb0 (Qbi M w).1=true:=by
 have ZP:M.ht=false/\M.ct<1152921504606846976:=by
  unfold Qch at hs;simp only [Bool.or_eq_false_iff,decide_eq_false_iff_not] at hs;exact ⟨hs.1.1.2,by omega⟩
 have hQ:=Qcc M hM;have hm:=h;unfold Qb0 at h;rw [zde] at h;obtain ⟨p1,p2,p3,p4,p5,p6,p7,p8,p9,p10,p11,_,_⟩:=h
 have hC:CpM M.x (Qdl M):=by
  have h0:CpM M.x M.c:=⟨p2,p3,p4,p5,p6⟩;unfold Qdl;split
  .exact Qhh h0 _ _ _
  .exact h0
 have hE:CpM (QaI M).x (QaI M).c:=QAM M.x (Qdm M) (Qdl M) M.m _ (Qbt M hM) hM.xr hC;have hl:(QaI M).m.length=M.m.length:=hQ.ml
 have key:∀ (x c m:List Nat) (pc:Nat) (ks:ByteArray) (ta:Bool) (td:Nat) (tf:Bool) (d:Dk) (n:Nk) (bt bg:Nat) (wt ht:Bool),CpM x c->m.length=M.m.length->QcZ ks=true->QdV ta td tf=true->QbM d (mpg M.m.length:Nat)=true->Qb4 n (mpg M.m.length:Nat)=true->QbW bg (mpg M.m.length:Nat)=true->¬ (wt=true/\ht=true)->Qb0 (Qdk ⟨x,pc,c,m,ks,ta,td,tf,d,n,bt,bg,M.ct,wt,ht⟩)=true:=fun x c m pc ks ta td tf d n bt bg wt ht g1 g2 g3 g4 g5 g6 g7 g8=>by
  unfold Qb0 Qdk;rw [zde];dsimp only;rw [g2,Nat.mod_eq_of_lt (show M.ct+1<18446744073709551616 by omega)];exact ⟨p1,g1.x0,g1.c0,g1.c7,g1.c6,g1.c1,g3,g4,g5,g6,g7,by omega,g8⟩
 have zU:∀ b:Bool,¬ (false=true/\b=true):=fun b h=>by cases h.1
 unfold Qbi;split
 .have hx:=Qkv hE (eR (QaI M).e) (inV (QaF M) (eP (QaI M).e) w)
  have hk:QcZ (inM (QaF M) (eP (QaI M).e)).ks=true:=by
   unfold inM;split
   .unfold QcZ at p7 |-
    rw [zde] at p7 |-;have:=Qwn M.ks (eP (QaI M).e) (by omega);show ((Qkt M.ks _).size:Int)<=16;omega
   .exact p7
  have he:∀ p:Int,inM (QaF M) p= { QaF M with ks:=(inM (QaF M) p).ks }:=fun p=>by unfold inM;split<;>rfl
  rw [he];exact key _ _ _ _ _ _ _ _ _ _ _ _ _ _ hx hl hk p8 p9 p10 p11 (zU _)
 split
 .unfold Qbz
  split
  .exact key _ _ _ _ _ _ _ _ _ _ _ _ _ _ hE hl p7 p8 p9 p10 p11 (zU _)
  split
  .exact key _ _ _ _ _ _ _ _ _ _ _ _ _ _ hE hl p7 p8 p9 p10 p11 (zU _)
  split
  .refine key _ _ _ _ _ _ _ _ _ _ _ _ _ _ hE hl p7 ?_ p9 p10 p11 (zU _)
   unfold QdV;rw [zde];refine ⟨(fun h=>by cases h.2),fun h=>?_,fun h _=>?_⟩
   .have:=of_decide_eq_true h
    omega
   .have:=of_decide_eq_false h
    omega
  split
  .refine key _ _ _ _ _ _ _ _ _ _ _ _ _ _ hE hl p7 p8 ?_ p10 p11 (zU _)
   show QbM (Qa7 M.d (QaI M).m (QaI M).m.length _ _ _).1 _=true;rw [hl];exact QwH M.d _ _ _ _ _ p9
  split
  .refine key _ _ _ _ _ _ _ _ _ _ _ _ _ _ hE hl p7 p8 p9 ?_ p11 (zU _)
   show Qb4 (Qbj M.n (QaI M).m (QaI M).m.length _ _ _).1 _=true;rw [hl];exact QxL M.n _ _ _ _ _ p10
  .refine key _ _ _ _ _ _ _ _ _ _ _ _ _ _ hE ?_ p7 p8 p9 p10 ?_ (zU _)
   .exact (QeB _ _ _ _ _).trans hl
   .show QbW (Qhl M.bg (QaI M).m.length _ _) _=true
    rw [hl];exact Qv8 M.bg _ _ _ hM.dv.2.2.1 p11
 split
 .refine key _ _ _ _ _ _ _ _ _ _ _ _ _ _ hE hl p7 p8 p9 p10 p11 (fun h=>?_)
  have:=h.2;change M.ht=true at this;rw [ZP.1] at this;cases this
 split
 .exact key _ _ _ _ _ _ _ _ _ _ _ _ _ _ hE hl p7 p8 p9 p10 p11 (zU _)
 .exact key _ _ _ _ _ _ _ _ _ _ _ _ _ _ hE hl p7 p8 p9 p10 p11 (zU _)
def Qb2 (M:Mc):Mc:= { M with m:=mM M M.pc 4 1 }
theorem Qja {M:Mc} (o:mO M M.pc 4 1=true) (hn:mpg M.m.length*32=M.m.length):mO (Qb2 M) M.pc 4 1=true/\mA (Qb2 M) M.pc 4 1=mA M M.pc 4 1/\mM (Qb2 M) M.pc 4 1=(Qb2 M).m/\(Qb2 M).m.length=M.m.length/\mA M M.pc 4 1%4=0:=by
 have hl:(Qb2 M).m.length=M.m.length:=Qbh _ _ _ _ _ _ _;unfold mO at o;have o0:=o;unfold rsO at o;simp only [zba,zde] at o;obtain ⟨⟨⟨o1,o2⟩,o3⟩,o4⟩:=o;have ha:mA M M.pc 4 1=if Qc5 (M.c.getD 0 0)=true then frW (QaR M.m (cR M) M.pc)*128+M.pc%128 else M.pc:=by unfold mA rsA;rw [zP o0]
 by_cases fZ:Qc5 (M.c.getD 0 0)=true
 .rw [zP fZ] at o4 ha
  have hm:(Qb2 M).m=M.m.set (cR M*32+M.pc / 128) (QbG (QaR M.m (cR M) M.pc) 1):=by
   show rsM _ _ _ _ _ _ _=_;unfold rsM;rw [zP ⟨o0,fZ⟩];have e4:Qa6 (cR M) M.pc / 4=cR M*32+M.pc / 128:=by unfold Qa6;omega
   rw [e4];rfl
  unfold Qbl at o4;simp only [zba,zde] at o4;obtain ⟨⟨⟨⟨_,w2⟩,w3⟩,w4⟩,w5⟩:=o4;have hj:cR M*32+M.pc / 128<M.m.length:=by omega
  have hP:QaR (Qb2 M).m (cR M) M.pc=QbG (QaR M.m (cR M) M.pc) 1:=by grind [QaR,Qez,mO,mpg,Qb2,mA,mM]
  have o7:rsO (Qb2 M).m (Qb2 M).m.length (M.c.getD 0 0) (cR M) M.pc ((4:Nat):Int) 1=true:=by
   show rsO (Qb2 M).m (Qb2 M).m.length (M.c.getD 0 0) (cR M) M.pc ((4:Nat):Int) 1=true;unfold rsO Qbl;rw [o1,o2,zdt o3,zP fZ,hP,Qvw,QhZ,hl,zdt w2,zdt w3,w4,zdt w5];rfl
  refine ⟨o7,?_,?_,hl,by rw [ha];omega⟩
  .grind [rsA,Qb2,cR,QhZ,mO,mpg,mA,mM]
  .show rsM (Qb2 M).m (Qb2 M).m.length (M.c.getD 0 0) (cR M) M.pc ((4:Nat):Int) 1=_
   unfold rsM;rw [zP ⟨o7,fZ⟩];have e4:Qa6 (cR M) M.pc / 4=cR M*32+M.pc / 128:=by unfold Qa6;omega
   rw [e4];have:(Qb2 M).m.getD (cR M*32+M.pc / 128) 0=QbG (QaR M.m (cR M) M.pc) 1:=hP;have e5:QbG ((Qb2 M).m.getD (cR M*32+M.pc / 128) 0) 1=(Qb2 M).m.getD (cR M*32+M.pc / 128) 0:=by rw [this,QrM]
   rw [e5];exact Qrv _ _
 .rw [zN fZ] at o4 ha
  have hm:(Qb2 M).m=M.m:=by grind [rsM,mO,mpg,Qb2,mA,mM]
  have hM:Qb2 M=M:=by
   show ({ M with m:=(Qb2 M).m }:Mc)=M;rw [hm]
  refine ⟨by rw [hM];exact o0,by rw [hM],?_,hl,by rw [ha];omega⟩;rw [hM];show rsM _ _ _ _ _ _ _=_;unfold rsM;rw [zN (fun h=>fZ h.2)]
theorem QiF {M:Mc} (hi:QcQ M=false) (o:mO M M.pc 4 1=true) (hn:mpg M.m.length*32=M.m.length) (w:Nat):Qbi (Qb2 M) w=Qbi M w/\Qch (Qb2 M)=Qch M/\Qe3 (Qb2 M)=Qe3 M:=by
 obtain ⟨h1,h2,h3,h4,_⟩:=Qja o hn;have zB:QcQ (Qb2 M)=false:=hi;have hP:Qdm M=M.pc:=by unfold Qdm;rw [hi,zN (by decide)]
 have hC:Qdl M=M.c:=by unfold Qdl;rw [hi,zN (by decide)]
 have hP2:Qdm (Qb2 M)=M.pc:=by unfold Qdm;rw [zB,zN (by decide)];rfl
 have JO:Qdl (Qb2 M)=M.c:=by unfold Qdl;rw [zB,zN (by decide)];rfl
 have YP:rsK M.m M.m.length (M.c.getD 0 0) (M.c.getD 6 0) M.pc 4 1=0:=(QeJ _ _ _ _ _ _ _).2 o;have hrk2:rsK (Qb2 M).m (Qb2 M).m.length (M.c.getD 0 0) (M.c.getD 6 0) M.pc 4 1=0:=(QeJ _ _ _ _ _ _ _).2 h1;have UF:rsM M.m M.m.length (M.c.getD 0 0) (M.c.getD 6 0) M.pc 4 1=(Qb2 M).m:=rfl;have hrm2:rsM (Qb2 M).m (Qb2 M).m.length (M.c.getD 0 0) (M.c.getD 6 0) M.pc 4 1=(Qb2 M).m:=h3;have hra:rsA (Qb2 M).m (Qb2 M).m.length (M.c.getD 0 0) (M.c.getD 6 0) M.pc 4 1=rsA M.m M.m.length (M.c.getD 0 0) (M.c.getD 6 0) M.pc 4 1:=h2
 have yE:ftW (Qb2 M).m (Qb2 M).m.length (M.c.getD 0 0) (M.c.getD 6 0) M.pc=ftW M.m M.m.length (M.c.getD 0 0) (M.c.getD 6 0) M.pc:=by
  unfold ftW;rw [zP YP,zP hrk2,UF,hrm2,hra]
 have hq:QaI (Qb2 M)=QaI M:=by grind [QaI,exS,Qb2,QcQ,mO,mpg,Qbi,Qch]
 have hs:QaF (Qb2 M)=QaF M:=by
  unfold QaF;rw [hq];rfl
 have gN:Qch (Qb2 M)=Qch M:=by
  unfold Qch Qb0;rw [h4];rfl
 refine ⟨?_,gN,?_⟩
 .unfold Qbi
  rw [hq,hs]
 .unfold Qe3
  rw [gN];congr 1;unfold QtP Qsm;rw [hP,hC,hP2,JO,h4]
  by_cases hk:M.c.getD 0 0%2=1
  .have fZ:¬ Qc5 (M.c.getD 0 0)=true:=by unfold Qc5;rw [zde];omega
   have hm:(Qb2 M).m=M.m:=by grind [rsM,QcQ,mO,mpg,Qbi,Qb2,Qch,Qe3]
   rw [hm]
  .grind
theorem Qns {M M':Mc} {k:Nat} (hi:QcQ M=false) (o:mO M M.pc 4 1=true) (hn:mpg M.m.length*32=M.m.length) (h:QgW (k+1) (Qb2 M) M'):QgW (k+1) M M':=by
 obtain ⟨h1,h2,h3⟩:=QiF hi o hn 0;obtain ⟨M1,g1,g2,g3,g4⟩:=h;exact ⟨M1,by rw [<- h2];exact g1,by rw [<- h3];exact g2,by rw [<- h1];exact g3,g4⟩
theorem Qyw (E:Eg) (hE:E.ok) (hC:Coh E) (va:Nat) (gV:ZU va) (h:(rsv E va 4 1).2.2=true):ld4 E.M.m.length (rsv E va 4 1).2.1=true:=by
 have hr:=QeK E hE hC va 4 1 gV (.inr rfl) (.inl rfl);have fV:=hr.in_ h;have ha:=hr.a h;have hb:=hr.b;rw [h] at hb;have hn:=hC.n
 have h4:va%4=0:=by
  have hb:=hb.symm;unfold sO rsO at hb;simp only [zba] at hb;have:=of_decide_eq_true hb.1.2;omega
 have FI:(rsv E va 4 1).2.1%4=0:=by grind [sA,rsA,rsv,ld4]
 unfold ld4;rw [zdt FI,Bool.true_and];exact zdt (by omega)
structure RunK (lim:Nat) (E:Eg) (R:Eg × Nat):Prop where
 (li:R.2<=lim) (ok:R.1.ok) (coh:Coh R.1) (o:R.1.o=E.o)
 (pos:0<R.2->QgW R.2 E.M R.1.M)
 (zero:R.2=0->Qbi R.1.M 0=Qbi E.M 0/\Qch R.1.M=Qch E.M/\Qe3 R.1.M=Qe3 E.M)
theorem QHQ (x:List Nat) (h:x.getD 0 0=0):Qkd isb0 QnM x:=fun r hr hk=>by
 rcases r with _|r
 .exact h
 .have uV:r<15:=by omega
  exfalso;revert hk;have:∀ r:Nat,r<15->¬ isb0.getD (r+1) false=true:=by decide
  exact this r uV
theorem Qrg (E:Eg) (hE:E.ok) (hC:Coh E) (jF:Qb0 E.M=true) (ZP:E.M.ht=false) (lim:Nat) (qN:E.M.ct+lim<=1152921504606846976):RunK lim E (QeT lim E):=by
 have hrf:RunK lim E (E,0):=⟨Nat.zero_le _,hE,hC,rfl,(fun h=>absurd h (Nat.lt_irrefl 0)),fun _=>⟨rfl,rfl,rfl⟩⟩;unfold QeT
 by_cases h1:E.M.wt=true\/QcQ E.M=true
 .grind
 rw [zN h1];have zU:E.M.wt=false:=by cases h:E.M.wt with|false=>rfl|true=>exact absurd (.inl h) h1
 have hi:QcQ E.M=false:=by cases h:QcQ E.M with|false=>rfl|true=>exact absurd (.inr h) h1
 by_cases h2:(rsv E E.M.pc 4 1).2.2=false
 .grind
 rw [zN h2];have h2:(rsv E E.M.pc 4 1).2.2=true:=by cases h:(rsv E E.M.pc 4 1).2.2 with|true=>rfl|false=>exact absurd h h2
 have hr:=QeK E hE hC E.M.pc 4 1 hE.M.pr (.inr rfl) (.inl rfl);have qU:=Qyw E hE hC E.M.pc hE.M.pr h2;have hO:mO E.M E.M.pc 4 1=true:=by rw [<- h2];exact hr.b.symm
 have hA:(rsv E E.M.pc 4 1).2.1=mA E.M E.M.pc 4 1:=hr.a h2;have HW:(rsv E E.M.pc 4 1).1.M=Qb2 E.M:=hr.m;obtain ⟨t1,t2,t3,t4,_⟩:=Qja hO hC.n;obtain ⟨u1,u2,u3⟩:=QiF hi hO hC.n 0;have k1:=hr.ok;have k2:=hr.coh;have k3:=hr.o;rw [hA] at qU |-;generalize (rsv E E.M.pc 4 1).1=E1 at *;clear hr h1 h2 hrf;have GD:E1.M.m.length=E.M.m.length:=by rw [HW];exact t4
 obtain ⟨B2,KM,hok2,hcoh2,jU⟩:=Qvj E1 k1 k2 (mA E.M E.M.pc 4 1) (by rw [GD];exact qU);obtain ⟨l,hl,jI,_,_⟩:=QpM E1.M.m E1.M.m.length (mA E.M E.M.pc 4 1) k1.M.mr;rw [KM] at hok2 hcoh2 |-;rw [jU,hl,QxC];have HY:bok E1.M.m.length (mA E.M E.M.pc 4 1) 16=true:=by unfold bok;rw [GD,qU];rfl
 have WZ:(fdB E1.M.m E1.M.m.length (mA E.M E.M.pc 4 1) 16).A=mA E.M E.M.pc 4 1:=by
  show blA _ _ _=_;unfold blA;rw [zP HY]
 rw [WZ];have hbL:blL E1.M.m E1.M.m.length (mA E.M E.M.pc 4 1) 16=bl E1.M.m (lmt (mA E.M E.M.pc 4 1) 16) (mA E.M E.M.pc 4 1 / 4):=by unfold blL;rw [zP HY]
 have hA2:mA E.M E.M.pc 4 1 / 4<E.M.m.length:=Qeb qU;have gH:=hE.M.ml;clear KM jU hl;generalize mA E.M E.M.pc 4 1=A at *;have uA:(⟨E1.M,E1.T,B2,E1.o,A / 128,false⟩:Eg).ok:=⟨hok2.M,hok2.T,hok2.tl,hok2.B,hok2.bl,hok2.o,hok2.ol,by show A / 128<_;omega⟩;have vQ:Coh (⟨E1.M,E1.T,B2,E1.o,A / 128,false⟩:Eg):=⟨hcoh2.n,hcoh2.T,hcoh2.B⟩;show RunK lim E (QfB l lim 0 ⟨E1.M,E1.T,B2,E1.o,A / 128,false⟩);have hz:QfB [] lim 0 (⟨E1.M,E1.T,B2,E1.o,A / 128,false⟩:Eg)=(⟨E1.M,E1.T,B2,E1.o,A / 128,false⟩,0):=rfl
 by_cases fY:bl E1.M.m (lmt A 16) (A / 4)= []
 .rw [hbL,fY] at jI
  change l= [] at jI;subst jI;rw [hz];exact ⟨Nat.zero_le _,uA,vQ,k3,(fun h=>absurd h (Nat.lt_irrefl 0)),fun _=>by grind⟩
 .rw [hbL,zN (fun h=>fY (List.eq_nil_of_length_eq_zero h))] at jI
  subst jI;have JH:E.M.x.getD 0 0=0:=by grind [Qb0,QeT]
  have WE:A / 4%32+lmt A 16<=32:=by unfold lmt;omega
  have hB:Bs E1.M.m (A / 128) (A / 4) 0 E1.M.x ⟨E1.M,E1.T,B2,E1.o,A / 128,false⟩:=by
   refine ⟨uA,vQ,rfl,rfl,?_,?_,?_,?_,fun j hj=>rfl,?_,?_,k1.M.x,k1.M.xr,?_⟩
   .show Qb0 E1.M=true
    have:Qch (Qb2 E.M)=Qch E.M:=u2;rw [HW];exact Qqq E.M E.M.x (Qb2 E.M).m E.M.pc E.M.ct jF JH t4 (by omega)
   .show E1.M.ht=false;rw [HW];exact ZP
   .show E1.M.wt=false;rw [HW];exact zU
   .show QcQ E1.M=false;rw [HW];exact hi
   .show E1.M.pc+4*0<_
    have:=k1.M.pr;omega
   .show Ftc E1.M (E1.M.pc+4*0) (A / 4)
    rw [HW];show Ftc (Qb2 E.M) E.M.pc (A / 4);exact ⟨t1,by rw [t2];omega,t3⟩
   .rw [HW];exact JH
  have hD:=QxP E1.M.m k1.M.mr (A / 128) lim (lmt A 16) (A / 4) isb0 QnM 0 0 ⟨E1.M,E1.T,B2,E1.o,A / 128,false⟩ E1.M.x rfl rfl Qiu (by omega) WE fY hB (Nat.zero_le _) (by show E1.M.ct+(lim-0)<=_;rw [HW];show E.M.ct+(lim-0)<=_;omega) (QHQ _ (by rw [HW];exact JH)) (.inl rfl) (fun _=>rfl);change Dn lim 0 _ (QfB (QpP (bl E1.M.m (lmt A 16) (A / 4))) lim 0 _) at hD;generalize QfB (QpP (bl E1.M.m (lmt A 16) (A / 4))) lim 0 ⟨E1.M,E1.T,B2,E1.o,A / 128,false⟩=R at *;obtain ⟨_,d2,d3,d4,d5,d6⟩:=hD;rw [Nat.sub_zero] at d3;change QgW R.2 E1.M R.1.M at d3;rw [HW] at d3;refine ⟨d2,d4,d5,d6.trans k3,fun hp=>?_,fun h0=>?_⟩
  .obtain ⟨k,hk⟩:∃ k,R.2=k+1:=⟨R.2-1,by omega⟩
   rw [hk] at d3 |-;exact Qns hi hO hC.n d3
  .rw [h0] at d3
   have d3:Qb2 E.M=R.1.M:=d3;rw [<- d3];exact ⟨u1,u2,u3⟩
theorem Qy1 (l:List Nat):∀ E:Eg,(l.foldl QcG E).M=E.M/\(l.foldl QcG E).o=E.o/\(l.foldl QcG E).B.Sublist E.B/\(∀ b∈(l.foldl QcG E).B,∀ i∈l,fk b≠(i:Int))/\((l.foldl QcG E).T= []\/(l.foldl QcG E).T=E.T/\cR E.M ∉ l):=by
 induction l with
 | nil=>grind
 | cons a l ih =>
  intro E;obtain ⟨h1,h2,h3,_,_⟩:=ih (QcG E a);have e1:(QcG E a).M=E.M:=by unfold QcG;split<;>rfl
  have e2:(QcG E a).o=E.o:=by unfold QcG;split<;>rfl
  have e3:(QcG E a).B=E.B.filter (fun b=>decide (fk b≠(a:Int))):=by unfold QcG;split<;>rfl
  have e4:(QcG E a).T=if a=cR E.M then [] else E.T:=by unfold QcG;split<;>rfl
  show (l.foldl QcG (QcG E a)).M=_/\_;refine ⟨h1.trans e1,h2.trans e2,(h3.trans (by rw [e3];exact List.filter_sublist)),fun b hb i hi=>?_,?_⟩
  .grind
  .grind
theorem Qy2 (M0:Mc) (E:Eg) (hl:E.M.m.length=M0.m.length) (hn:mpg M0.m.length*32=M0.m.length) (hT:QhQ E.T M0.m M0.m.length (cR M0)=true) (hB:Qhc M0.m M0.m.length E.B):Coh (stl M0 E):=by
 have e1:(Qka (cR M0) E).M=E.M:=by unfold Qka;split<;>rfl
 have e2:(Qka (cR M0) E).B=E.B:=by unfold Qka;split<;>rfl
 obtain ⟨h1,_,h3,h4,h5⟩:=Qy1 (QdR M0.m E.M.m E.M.m.length) (Qka (cR M0) E);have HD:=fun i h j hj=>QiR (a:=M0.m) (b:=E.M.m) (n:=E.M.m.length) hl.symm rfl (by rw [hl];exact hn) i h j hj
 have gN:stl M0 E=(QdR M0.m E.M.m E.M.m.length).foldl QcG (Qka (cR M0) E):=rfl;rw [gN];generalize (QdR M0.m E.M.m E.M.m.length).foldl QcG (Qka (cR M0) E)=F at *;rw [e1] at h1 h5;rw [e2] at h3;refine ⟨by rw [h1,hl];exact hn,?_,?_⟩
 .grind [QlI,Qka,QiW,cR,mpg,QhQ,Qhc,stl]
 .rw [h1,hl]
  refine Qkr M0.m E.M.m _ E.B F.B h3 (fun b hb j hj=>?_) hB;exact HD (b.A / 128) (fun hm=>h4 b hb _ hm rfl) j hj
theorem Qrw (E:Eg) (hE:E.ok) (hC:Coh E) (vI:E.o.length<900000) (w:Nat) (hw:ZU w):(sgl w E).ok/\Coh (sgl w E)/\(sgl w E).M=(QdL E.M w).1/\(sgl w E).o=E.o++(QdL E.M w).2.toList:=by
 obtain ⟨g1,g2,g3⟩:=Qle E.M hE.M w hw;have vO:QbA (E.o++(QdL E.M w).2.toList):=QdF (O:=(QdL E.M w).2) hE.o g2;have uC:(E.o++(QdL E.M w).2.toList).length<=900000:=by grind
 have uY:(⟨(QdL E.M w).1,E.T,E.B,E.o++(QdL E.M w).2.toList,E.f,E.s⟩:Eg).ok:=⟨g1,hE.T,hE.tl,hE.B,hE.bl,vO,uC,hE.f⟩;obtain ⟨_,_,_,he,hok⟩:=QrG E.M _ uY;have hcoh:=Qy2 E.M ⟨(QdL E.M w).1,E.T,E.B,E.o++(QdL E.M w).2.toList,E.f,E.s⟩ g3 hC.n hC.T hC.B;have hs:sgl w E=stl E.M ⟨(QdL E.M w).1,E.T,E.B,E.o++(QdL E.M w).2.toList,E.f,E.s⟩:=rfl;rw [hs];exact ⟨hok,hcoh,by rw [he],by rw [he]⟩
def Qke:Nat->Mc->List (List SV)->Mc->Prop
 | 0,M,l,M'=>M=M'/\l= []
 | k+1,M,l,M'=>∃ M1 o l',Qch M=false/\Qe3 M=false/\Qbi M 0=(M1,o)/\l=o.toList++l'/\Qke k M1 l' M'
theorem Qri:∀ {k:Nat} {M M':Mc},QgW k M M'->Qke k M [] M'
 | 0,M,M',h=>⟨h,rfl⟩
 | k+1,M,M',⟨M1,h1,h2,h3,h4⟩=>⟨M1,none,[],h1,h2,h3,rfl,Qri h4⟩
theorem Qe5:∀ {k j:Nat} {M M1 M2:Mc} {l l':List (List SV)},Qke k M l M1->Qke j M1 l' M2->Qke (k+j) M (l++l') M2
 | 0,j,M,M1,M2,l,l',⟨h1,h2⟩,g=>by subst h1 h2;rw [Nat.zero_add];exact g
 | k+1,j,M,M1,M2,l,l',⟨N,o,l1,h1,h2,h3,h4,h5⟩,g=>by
  rw [show k+1+j=(k+j)+1 by omega];exact ⟨N,o,l1++l',h1,h2,h3,by rw [h4,List.append_assoc],Qe5 h5 g⟩
theorem Qmj {M M1:Mc} {o:Option (List SV)} (h1:Qch M=false) (h2:Qe3 M=false) (h3:Qbi M 0=(M1,o)):Qke 1 M o.toList M1:=⟨M1,o,[],h1,h2,h3,(List.append_nil _).symm,rfl,rfl⟩
theorem QrI {M:Mc} (h:Qch M=false):Qb0 M=true/\M.ht=false/\Qm5 M=false/\M.ct<1152921504606846976:=by grind [Qch,Bool.or_eq_false_iff,Bool.not_eq_false',Qb0,Qm5]
theorem QBy (M:Mc) (p:Int):(inM M p).ct=M.ct:=by unfold inM;split<;>rfl
theorem QxU (M:Mc) (p:Int) (v:Nat):(Qbz M p v).1.ct=M.ct:=by
 unfold Qbz
 repeat' split
 all_goals rfl
theorem Qv1 (M:Mc) (w:Nat) (h:M.ct<1152921504606846976):(Qbi M w).1.ct=M.ct+1:=by
 have hm:(M.ct+1)%18446744073709551616=M.ct+1:=Nat.mod_eq_of_lt (by omega);unfold Qbi;split
 .show ((inM (QaF M) (eP (QaI M).e)).ct+1)%18446744073709551616=_
  rw [QBy];exact hm
 split
 .show ((Qbz (QaF M) (eP (QaI M).e) (eV (QaI M).e)).1.ct+1)%18446744073709551616=_
  rw [QxU];exact hm
 split
 .exact hm
 split
 .exact hm
 .exact hm
theorem QdJ:∀ {k:Nat} {M M':Mc} {l:List (List SV)},M.ok->Qb0 M=true->Qke k M l M'->M'.ok/\Qb0 M'=true/\M'.ct=M.ct+k
 | 0,M,M',l,h,hm,⟨h1,h2⟩=>by subst h1;exact ⟨h,hm,rfl⟩
 | k+1,M,M',l,h,hm,⟨N,o,l1,h1,h2,h3,h4,h5⟩=>by
  have e1:N=(Qbi M 0).1:=by rw [h3]
  have hN:N.ok:=by rw [e1];exact QeU M h 0 (by decide)
  have hmN:Qb0 N=true:=by rw [e1];exact Qsu M h 0 hm h1
  have hcN:N.ct=M.ct+1:=by rw [e1];exact Qv1 M 0 (QrI h1).2.2.2
  obtain ⟨q1,q2,_⟩:=QdJ hN hmN h5;exact ⟨q1,q2,by omega⟩
structure Adv (lim n:Nat) (E:Eg) (R:Eg × Nat):Prop where
 (le:n<=R.2) (li:R.2<=lim) (ok:R.1.ok) (coh:Coh R.1) (may:Qb0 R.1.M=true)
 (run:∃ l,R.1.o=E.o++l/\Qke (R.2-n) E.M l R.1.M) (fin:R.2=lim\/Qi4 R.1.M=true) (ol:R.1.o.length<=E.o.length+(R.2-n))
theorem Qi5 {M:Mc} (hm:Qb0 M=true) (h:Qi4 M=false):Qch M=false/\Qe3 M=false/\M.ht=false/\M.ct<1152921504606846976:=by grind [Qi4,Bool.or_eq_false_iff,Qch,Qb0,Qe3]
theorem QhG:∀ (k lim n:Nat) (E:Eg),E.ok->Coh E->Qb0 E.M=true->n<=lim->lim-n<=k->E.M.ct+(lim-n)<=1152921504606846976->E.o.length+(lim-n)<=900000->Adv lim n E (Qj7 k lim n E)
 | 0,lim,n,E,hE,hC,hm,h1,h2,h3,h4=>by
  have:n=lim:=by omega
  exact ⟨Nat.le_refl _,h1,hE,hC,hm,⟨[],(List.append_nil _).symm,by show Qke (n-n) _ _ _;rw [Nat.sub_self];exact ⟨rfl,rfl⟩⟩,.inl this,by show E.o.length<=_;omega⟩
 | k+1,lim,n,E,hE,hC,hm,h1,h2,h3,h4=>by
  unfold Qj7
  by_cases hc:n<lim/\Qi4 E.M=false
  case neg =>
   rw [zN hc];refine ⟨Nat.le_refl _,h1,hE,hC,hm,⟨[],(List.append_nil _).symm,by show Qke (n-n) _ _ _;rw [Nat.sub_self];exact ⟨rfl,rfl⟩⟩,?_,by show E.o.length<=_;omega⟩
   by_cases hn:n<lim
   .grind
   .omega
  rw [zP hc];obtain ⟨p1,p2,p3,_⟩:=Qi5 hm hc.2;have hR:=Qrg E hE hC hm p3 (lim-n) (by omega);generalize QeT (lim-n) E=R at *;obtain ⟨_,r2,r3,r4,r5,r6⟩:=hR
  by_cases h0:R.2=0
  .rw [zP h0]
   obtain ⟨z1,z2,_⟩:=r6 h0;have vI:R.1.o.length<900000:=by rw [r4];omega
   obtain ⟨s1,s2,s3,s4⟩:=Qrw R.1 r2 r3 vI 0 (by decide);have gN:QdL R.1.M 0=Qbi E.M 0:=by unfold QdL;rw [z2,p1,zN (by decide),z1]
   rw [gN] at s3 s4;rw [r4] at s4;have gX:Qke 1 E.M (Qbi E.M 0).2.toList (sgl 0 R.1).M:=by rw [s3];exact Qmj p1 p2 rfl
   obtain ⟨_,m2,_⟩:=QdJ hE.M hm gX;have qF:(sgl 0 R.1).o.length<=E.o.length+1:=by grind
   generalize sgl 0 R.1=E1 at *;have ih:=QhG k lim (n+1) E1 s1 s2 m2 (by omega) (by omega) (by omega) (by omega);generalize Qj7 k lim (n+1) E1=Q at *;obtain ⟨_,q2,q3,q4,q5,⟨l,q6,q7⟩,q8,q9⟩:=ih;refine ⟨by omega,q2,q3,q4,q5,⟨(Qbi E.M 0).2.toList++l,by rw [q6,s4,List.append_assoc],?_⟩,q8,by omega⟩;have:=Qe5 gX q7;rw [show 1+(Q.2-(n+1))=Q.2-n by omega] at this;exact this
  .rw [zN h0]
   have gX:=Qri (r5 (by omega));obtain ⟨_,m2,_⟩:=QdJ hE.M hm gX;have ih:=QhG k lim (n+R.2) R.1 r2 r3 m2 (by omega) (by omega) (by omega) (by rw [r4];omega);generalize Qj7 k lim (n+R.2) R.1=Q at *;obtain ⟨_,q2,q3,q4,q5,⟨l,q6,q7⟩,q8,q9⟩:=ih;refine ⟨by omega,q2,q3,q4,q5,⟨l,by rw [q6,r4],?_⟩,q8,by rw [r4] at q9;omega⟩;have:=Qe5 gX q7;rw [show R.2+(Q.2-(n+R.2))=Q.2-n by omega,zna] at this;exact this
structure Ag (lim n:Nat) (E Z:Eg) (z:Nat):Prop where
 (ok:E.ok) (coh:Coh E) (may:Qb0 E.M=true) (le:n<=lim) (ct:E.M.ct+(lim-n)<=1152921504606846976) (ol:E.o.length+(lim-n)<=900000) (run:∃ k,lim-n<=k/\Qj7 k lim n E=(Z,z))
theorem QAr {lim n:Nat} {E Z:Eg} {z:Nat} (h:Ag lim n E Z z) (hc:¬ (n<lim/\Qi4 E.M=false)):Z=E/\z=n:=by
 obtain ⟨k,_,hk⟩:=h.run
 cases k with
 | zero=>change (E,n)=(Z,z) at hk;injection hk with h1 h2;exact ⟨h1.symm,h2.symm⟩
 | succ k=>unfold Qj7 at hk;rw [zN hc] at hk;injection hk with h1 h2;exact ⟨h1.symm,h2.symm⟩
theorem QAs {lim n:Nat} {E Z:Eg} {z:Nat} (h:Ag lim n E Z z) (hc:n<lim/\Qi4 E.M=false) :
  (QeT (lim-n) E).1.ok/\Coh (QeT (lim-n) E).1/\(QeT (lim-n) E).2<=lim-n/\(QeT (lim-n) E).1.o.length<900000 /\
  ((QeT (lim-n) E).2=0->Ag lim (n+1) (sgl 0 (QeT (lim-n) E).1) Z z)/\((QeT (lim-n) E).2≠0->Ag lim (n+(QeT (lim-n) E).2) (QeT (lim-n) E).1 Z z):=by
 obtain ⟨hE,hC,hm,_,_,_,k,_,hk⟩:=h
 cases k with
 | zero=>omega
 | succ k =>
 unfold Qj7 at hk;rw [zP hc] at hk;obtain ⟨p1,p2,p3,_⟩:=Qi5 hm hc.2;have hR:=Qrg E hE hC hm p3 (lim-n) (by omega);generalize QeT (lim-n) E=R at *;obtain ⟨r1,r2,r3,r4,r5,r6⟩:=hR;have vI:R.1.o.length<900000:=by rw [r4];omega
 refine ⟨r2,r3,r1,vI,fun h0=>?_,fun h0=>?_⟩
 .rw [zP h0] at hk
  obtain ⟨z1,z2,_⟩:=r6 h0;obtain ⟨s1,s2,s3,s4⟩:=Qrw R.1 r2 r3 vI 0 (by decide);have gN:QdL R.1.M 0=Qbi E.M 0:=by unfold QdL;rw [z2,p1,zN (by decide),z1]
  rw [gN] at s3 s4;rw [r4] at s4;have gX:Qke 1 E.M (Qbi E.M 0).2.toList (sgl 0 R.1).M:=by rw [s3];exact Qmj p1 p2 rfl
  obtain ⟨_,m2,_⟩:=QdJ hE.M hm gX
  have qF:(sgl 0 R.1).o.length<=E.o.length+1:=by
   rw [s4,zla]
   cases (Qbi E.M 0).2 with
   | none=>show _+0<=_;omega
   | some l=>show _+1<=_;omega
  exact ⟨s1,s2,m2,by omega,by omega,by omega,k,by omega,hk⟩
 .rw [zN h0] at hk
  have gX:=Qri (r5 (by omega));obtain ⟨_,m2,_⟩:=QdJ hE.M hm gX;exact ⟨r2,r3,m2,by omega,by omega,by rw [r4];omega,k,by omega,hk⟩
def Eg.Hn (E:Eg):List Row:= [⟨true,1,E.M.C 1++ [.sl 2 0 E.T.length,.sl 3 0 E.B.length,.nilsl,.i E.f,.bool E.s]⟩,⟨true,1,wsv E.M.m⟩,⟨true,4,tes E.T⟩,⟨true,3,bks E.B⟩]
def Eg.Rn (E:Eg) (v:TV):Res:=⟨v,[(0,some ⟨true,1,E.C 4 5 6 7⟩),(1,none),(2,none),(3,none)],[⟨true,1,wsv E.M.m⟩,⟨true,4,tes E.T⟩,⟨true,3,bks E.B⟩,⟨true,4,OLs E.o⟩]⟩
def Qst (lim n:Nat) (C0 X T B O:List SV):St :=
 ⟨[(0,.a (.s (.ptr 0 0))),(1,.a (.s (.w lim))),(5,.a (.s (.w n)))],
  [(0,some ⟨true,1,C0⟩),(1,none),(2,none),(3,none),(4,some ⟨true,1,X⟩),(5,some ⟨true,4,T⟩),(6,some ⟨true,3,B⟩),(7,some ⟨true,4,O⟩)],[0]⟩
theorem Qv2 (fX:FN 244 [.s (.str ⟨#[0]⟩),.s (.i 128)] [] (. =⟨.a (.s (.str z128)),[],[]⟩))
  (gX:∀ (E:Eg) (lim:Nat),E.ok->Coh E->lim<18446744073709551616->FN 48 [.s (.ptr 0 0),.s (.w lim)] E.H (. =(QeT lim E).1.R (.a (.s (.w ((QeT lim E).2:Nat))))))
  (E:Eg) (hE:E.ok) (hC:Coh E) (hm:Qb0 E.M=true) (lim0 lim:Nat) (JZ:lim0<18446744073709551616) (qM:lim=min lim0 (1152921504606846976-E.M.ct)) (vI:E.o.length+lim<=900000) (zH:E.o= []) :
  FN 28 [.s (.ptr 0 0),.s (.w lim0)] E.Hn (. =(Qj7 lim lim 0 E).1.Rn (.a (.s (.w ((Qj7 lim lim 0 E).2:Nat))))):=by
 have qN:E.M.ct<=1152921504606846976:=by
  have h:=hm;unfold Qb0 at h;exact (of_decide_eq_true h).2.2.2.2.2.2.2.2.2.2.2.1
 have m1:IntKind.u64.wrap ((1152921504606846976:Int)-(E.M.ct:Int))=((1152921504606846976-E.M.ct:Nat):Int):=Qg8
 have m2:Qsl (lim0:Int) [((1152921504606846976-E.M.ct:Nat):Int)]=(lim:Nat):=by
  show Qz6 (lim0:Int) _=_;unfold Qz6;split<;>omega
 have GD:lim<18446744073709551616:=by omega
 obtain ⟨⟨Z,z⟩,hZ⟩:∃ r,Qj7 lim lim 0 E=r:=⟨_,rfl⟩;rw [hZ];dsimp only;have hA:Ag lim 0 E Z z:=⟨hE,hC,hm,Nat.zero_le _,by omega,vI,lim,Nat.le_refl _,hZ⟩;clear hZ hC hm;have fJ:=Qaa E.M.m;have gW:=Qaf E.T;have fG:=Qad E.B;have qH:=(Qaz hE.o).2.1;have uxl:=hE.M.x;have ucl:=hE.M.c;obtain ⟨K0,hK0⟩:∃ K0,Qst lim 0 (E.C 4 5 6 7) (wsv E.M.m) (tes E.T) (bks E.B) (OLs E.o)=K0:=⟨_,rfl⟩;have hI:∃ (E:Eg) (n:Nat),lim+n=lim/\Ag lim n E Z z/\K0=Qst lim n (E.C 4 5 6 7) (wsv E.M.m) (tes E.T) (bks E.B) (OLs E.o):=⟨E,0,rfl,hA,hK0.symm⟩;clear hA hE;obtain ⟨⟨_,_,_,um,_,_,_,_,uf,un,_,_,_,_,_⟩,uT,uB,_,_,_⟩:=E;cases uf;cases un;dsimp only at uxl ucl;cases QaO uxl;cases zC8 ucl;dsimp only [Eg.H,Eg.Hn,Eg.R,Eg.Rn,Eg.C,Mc.C,Mc.D,Dk.C,Nk.C] at fJ gW fG qH qN m1 m2 hK0 |-;simp only [Qai,zca,zna] at hK0 |-;subst zH;generalize wsv um=uXX,tes uT=uTT,bks uB=uBB at *;rw [show OLs []=([]:List SV) from rfl] at qH hK0;generalize um.length=umn,uT.length=utn,uB.length=ubn at *;simp only [List.length_nil] at hK0;clear vI;refine fnW Tryz.func28 ?_;(conv=>whnf);(repeat' ((first|exact zi2|refine zj0 fun hb=>?_|(with_reducible first|refine zv m1 ?_|refine zv m2 ?_)|refine zse ?_|refine zbb ?_ ?_)<;>conv=>whnf))
 all_goals
  refine Lp.inv (fun mm σ=>∃ (E:Eg) (n:Nat),mm+n=lim/\Ag lim n E Z z/\σ=Qst lim n (E.C 4 5 6 7) (wsv E.M.m) (tes E.T) (bks E.B) (OLs E.o)) ?_ ?_
  .refine ⟨lim,K0,?_,hI⟩
   rw [<- hK0];unfold Qst
   first|(exact zwV [(0,some 0),(1,some 1),(2,some 2),(3,some 3),(4,some 1),(5,some 2),(6,some 3),(7,none)])
  rintro mm σ ⟨E,n,hmn,hA,rfl⟩;unfold Qst;have ce:=QsU E hA.ok;have exl:=hA.ok.M.x;have ecl:=hA.ok.M.c;have vU:=Qaa E.M.m;have vV:=Qaf E.T;have vW:=Qad E.B;have wY:=(Qaz hA.ok.o).2.1;have q3:IntKind.u64.wrap ((lim:Int)-(n:Int))=((lim-n:Nat):Int):=by have:=hA.le;rw [QCR (by omega) (by omega)];omega
  have q1:IntKind.u64.wrap ((n:Int)+(1:Int))=((n+1:Nat):Int):=by have:=hA.le;rw [QCR (by omega) (by omega)];omega
  by_cases hc:n<lim/\Qi4 E.M=false
  case neg =>
   obtain ⟨e1,e2⟩:=QAr hA hc;subst e1 e2;generalize Qi4 Z.M=bE at *;clear hA gX fX hI hK0;obtain ⟨⟨_,_,_,em,_,_,_,_,ef,en,_,_,_,_,_⟩,eT,eB,eo,_,_⟩:=Z;cases ef;cases en;dsimp only at exl ecl;cases QaO exl;cases zC8 ecl;dsimp only [Eg.H,Eg.Hn,Eg.R,Eg.Rn,Eg.C,Mc.C,Mc.D,Dk.C,Nk.C] at ce vU vV vW wY |-;simp only [Qai,zca,zna] at ce |-;generalize YD:wsv em=eXX,heT:tes eT=eTT,heB:bks eB=eBB,heO:OLs eo=eOO,hemn:em.length=emn,hetn:eT.length=etn,hebn:eB.length=ebn,heon:eo.length=eon at *;(conv=>whnf);(repeat' ((first|exact zi3|refine zj0 fun hb=>?_|(refine Qaw ce ?_)|refine zse ?_|refine zbb ?_ ?_)<;>conv=>whnf))
   all_goals first|(exfalso;simp_all;omega)|(apply Fin.mv (m:= [(0,some 0),(1,some 1),(2,some 2),(3,some 3),(4,some 4),(5,some 5),(6,some 6),(7,some 7)]);(focus exact rfl);(all_goals ((try (show QcI _ _ _ [] _));first|exact aFi|exact rfl)))
  obtain ⟨a1,a2,a3,a4,a5,a6⟩:=QAs hA hc;have jX:=hA.le;have cr:=gX E (lim-n) hA.ok hA.coh (by omega);have csg:=Qrz fX (QeT (lim-n) E).1 a1 a4 0 (by decide);rw [hc.2] at ce;have gO:=hc.1;clear hc gX fX hI hK0 a2;generalize QeT (lim-n) E=R at *;obtain ⟨R1,r2⟩:=R;dsimp only at a1 a3 a4 a5 a6 cr csg;have q2:IntKind.u64.wrap ((n:Int)+(r2:Int))=((n+r2:Nat):Int):=Qg8;have rxl:=a1.M.x;have rcl:=a1.M.c;have GY:=Qaa R1.M.m;have GZ:=Qaf R1.T;have FA:=Qad R1.B;have FB:=(Qaz a1.o).2.1
  by_cases h0:r2=0
  .have hA2:=a5 h0
   have b1:=hA2.ok;subst h0;have HM:∃ E2:Eg,Ag lim (n+1) E2 Z z/\E2=sgl 0 R1:=⟨_,hA2,rfl⟩;obtain ⟨E2,g1,g4⟩:=HM;clear a5 a6 hA2 hA a1;generalize sgl 0 R1=S at *;have sxl:=b1.M.x;have scl:=b1.M.c;have hsS1:=Qaa S.M.m;have hsS2:=Qaf S.T;have hsS3:=Qad S.B;have hsS4:=(Qaz b1.o).2.1;clear b1;obtain ⟨⟨_,_,_,em,_,_,_,_,ef,en,_,_,_,_,_⟩,eT,eB,eo,_,_⟩:=E;cases ef;cases en;dsimp only at exl ecl;cases QaO exl;cases zC8 ecl;obtain ⟨⟨_,_,_,rm,_,_,_,_,rf,rn,_,_,_,_,_⟩,rT,rB,ro,_,_⟩:=R1;cases rf;cases rn;dsimp only at rxl rcl;cases QaO rxl;cases zC8 rcl;obtain ⟨⟨_,_,_,sm,_,_,_,_,sf,sn,_,_,_,_,_⟩,sT,sB,so,_,_⟩:=S;cases sf;cases sn;dsimp only at sxl scl;cases QaO sxl;cases zC8 scl;dsimp only [Eg.H,Eg.Hn,Eg.R,Eg.Rn,Eg.C,Mc.C,Mc.D,Dk.C,Nk.C] at ce cr csg vU vV vW wY GY GZ FA FB hsS1 hsS2 hsS3 hsS4 |-;simp only [Qai,zca,zna] at ce cr csg |-;generalize YD:wsv em=eXX,heT:tes eT=eTT,heB:bks eB=eBB,heO:OLs eo=eOO,hemn:em.length=emn,hetn:eT.length=etn,hebn:eB.length=ebn,heon:eo.length=eon,hrX:wsv rm=rXX,hrT:tes rT=rTT,hrB:bks rB=rBB,hrO:OLs ro=rOO,hrmn:rm.length=rmn,hrtn:rT.length=rtn,hrbn:rB.length=rbn,hron:ro.length=ron,WH:wsv sm=sXX,YR:tes sT=sTT,VE:bks sB=sBB,hsO:OLs so=sOO,hsmn:sm.length=smn,hstn:sT.length=stn,hsbn:sB.length=sbn,hson:so.length=son at *;(conv=>whnf);(repeat' ((first|exact zi3|refine zj0 fun hb=>?_|(with_reducible first|refine zv q3 ?_|refine zv q1 ?_)|(refine Qaw ce ?_)|(refine Qaw cr ?_)|(refine Qaw csg ?_)|refine zse ?_|refine zbb ?_ ?_)<;>conv=>whnf))
   all_goals first
    | (exfalso;simp at hb;omega)
    | (exfalso;simp at hb;done)
    | (
      refine ⟨mm-1,Qst lim (n+1) (E2.C 4 5 6 7) (wsv E2.M.m) (tes E2.T) (bks E2.B) (OLs E2.o),by omega,?_,E2,n+1,by omega,g1,rfl⟩;rw [g4];unfold Qst;dsimp only [Eg.C,Mc.C,Mc.D,Dk.C,Nk.C];simp only [Qai,zca,zna];rw [WH,YR,VE,hsO,hsmn,hstn,hsbn,hson]
      (exact zwV [(0,some 0),(1,some 1),(2,some 2),(3,some 3),(4,some 262208),(5,some 262209),(6,some 262210),(7,some 262211)]))
  .have hA2:=a6 h0
   have h0':¬ ((r2:Nat):Int)=0:=by omega
   have zS:0<r2:=by omega
   have HM:∃ E2:Eg,Ag lim (n+r2) E2 Z z/\E2=R1:=⟨_,hA2,rfl⟩;obtain ⟨E2,g1,g4⟩:=HM;clear a5 a6 hA2 hA a1 csg;obtain ⟨⟨_,_,_,em,_,_,_,_,ef,en,_,_,_,_,_⟩,eT,eB,eo,_,_⟩:=E;cases ef;cases en;dsimp only at exl ecl;cases QaO exl;cases zC8 ecl;obtain ⟨⟨_,_,_,rm,_,_,_,_,rf,rn,_,_,_,_,_⟩,rT,rB,ro,_,_⟩:=R1;cases rf;cases rn;dsimp only at rxl rcl;cases QaO rxl;cases zC8 rcl;dsimp only [Eg.H,Eg.Hn,Eg.R,Eg.Rn,Eg.C,Mc.C,Mc.D,Dk.C,Nk.C] at ce cr vU vV vW wY GY GZ FA FB |-;simp only [Qai,zca,zna] at ce cr |-;generalize YD:wsv em=eXX,heT:tes eT=eTT,heB:bks eB=eBB,heO:OLs eo=eOO,hemn:em.length=emn,hetn:eT.length=etn,hebn:eB.length=ebn,heon:eo.length=eon,hrX:wsv rm=rXX,hrT:tes rT=rTT,hrB:bks rB=rBB,hrO:OLs ro=rOO,hrmn:rm.length=rmn,hrtn:rT.length=rtn,hrbn:rB.length=rbn,hron:ro.length=ron at *;(conv=>whnf);(repeat' ((first|exact zi3|refine zj0 fun hb=>?_|(with_reducible first|refine zv q3 ?_|refine zv q2 ?_)|(refine Qaw ce ?_)|(refine Qaw cr ?_)|refine zse ?_|refine zbb ?_ ?_)<;>conv=>whnf))
   all_goals first
    | (exfalso;simp at hb;omega)
    | (exfalso;simp at hb;done)
    | (
      refine ⟨mm-r2,Qst lim (n+r2) (E2.C 4 5 6 7) (wsv E2.M.m) (tes E2.T) (bks E2.B) (OLs E2.o),by omega,?_,E2,n+r2,by omega,g1,rfl⟩;rw [g4];unfold Qst;dsimp only [Eg.C,Mc.C,Mc.D,Dk.C,Nk.C];simp only [Qai,zca,zna];rw [hrX,hrT,hrB,hrO,hrmn,hrtn,hrbn,hron]
      (exact zwV [(0,some 0),(1,some 1),(2,some 2),(3,some 3),(4,some 131328),(5,some 131329),(6,some 131330),(7,some 131331)]))
def Eg.V (E:Eg) (a b c:Nat):List SV:=E.M.C a++ [.sl b 0 E.T.length,.sl c 0 E.B.length]
open Classical in
noncomputable def Qz5 (E:Eg):Bool:=Qb0 E.M&&(QhQ E.T E.M.m E.M.m.length (cR E.M)&&decide (Qhc E.M.m E.M.m.length E.B))
theorem Qo3 (E:Eg) (hE:E.ok):FN 16 [.agg (E.V 0 1 2)] [⟨false,1,wsv E.M.m⟩,⟨false,4,tes E.T⟩,⟨false,3,bks E.B⟩] (. =⟨.a (.s (.bool (Qz5 E))),[],[]⟩):=by
 have c1:=QoF E.M hE.M;have gH:=hE.M.ml;have c2:=Qks E.T _ rfl (by have:=hE.tl;omega) hE.T E.M.m _ (cR E.M) rfl (by omega) hE.M.mr (Qab hE.M.cr 6);have c3:=QhR E.M.m _ rfl (by omega) hE.M.mr E.B _ rfl (by have:=hE.bl;omega) hE.B (@decide (Qhc E.M.m E.M.m.length E.B) (Classical.propDecidable _)) (@decide_eq_true_iff (Qhc E.M.m E.M.m.length E.B) (Classical.propDecidable _));obtain ⟨R,hR⟩:∃ R,Qz5 E=R:=⟨_,rfl⟩;rw [hR];unfold Qz5 at hR;generalize Qb0 E.M=b1,QhQ E.T E.M.m E.M.m.length (cR E.M)=b2,@decide (Qhc E.M.m E.M.m.length E.B) (Classical.propDecidable _)=b3 at *;have fJ:=Qaa E.M.m;have gW:=Qaf E.T;have fG:=Qad E.B;obtain ⟨hM,hT,_,hB,_,ho,_,_⟩:=hE;obtain ⟨M,T,B,_,_,s⟩:=E;dsimp only [Eg.V] at *;obtain ⟨hx,hc,hY,gA,gI,gB,gH,gE,gD,gG⟩:=hM;obtain ⟨_,_,_,m,_,_,_,_,d,n⟩:=M;dsimp only at *;cases QaO hx;obtain ⟨_,c1,c2,c3,_,_,_,_,rfl⟩:=Qfo hc;cases d;cases n;dsimp only [Mc.C,Mc.D,Dk.C,Nk.C,Dk.ok,Nk.ok] at *
 try dsimp only [cR,Mc.C,Mc.D,Dk.C,Nk.C] at *
 try simp only [Qai,zca,zna,List.getD_cons_succ,List.getD_cons_zero] at *
 generalize gP:wsv m=XX,hX3:bks B=BB,gJ:m.length=nn,gL:B.length=bn,gT:tes T=TT,htn:T.length=tn at *;clear gP gT hX3 gJ gL htn hT hB ho hY gA gI gB gH gE gD gG;cases b1<;>cases b2
 all_goals
  refine fnW Tryz.func16 ?_;(conv=>whnf);(repeat' ((first|exact zi2|refine zj0 fun hb=>?_|(refine QaD c1 ?_)|(refine Qg6 c2 ?_)|(refine Qg6 c3 ?_)|refine zse ?_|refine zbb ?_ ?_)<;>conv=>whnf))
  all_goals first
   | (refine QcD ?_ ?_;(focus (exact Qsg));rw [<- hR];first|rfl|(simp;done))
end Go.Proofs.YtflaceijiphfdaaGreat
namespace Go.Proofs.YtflaceijiphfdaaGreat
open Go Go.RowKit
theorem QmR (l:List Mz) (N:Nat) (hN:l.length=N) (fI:N<=1000000):FN 46 [.s (.fz 6 N (mzs l))] [] (. =⟨.a (.s (.fz 6 N (mzs l))),[],[]⟩):=by
 refine QBm (QiU l N hN fI) ?_;refine Fin.fr (c:=0) (es:=6) (cells:=mzs l) rfl (QfY l) ?_;refine Fin.mk ⟨.a (.s (.fz 6 N (mzs l))),[],[]⟩ [] rfl ?_ ?_ rfl
 .exact QcH (Qct (QaJ rfl))
 .exact QaL
theorem QmJ {t:List Bk} (h:t.length=0):bks t= []:=by rw [List.eq_nil_of_length_eq_zero h];rfl
theorem QmI (t:List Bk) (N:Nat) (hN:t.length=N) (fI:N<=1000000):FN 45 [.s (.sl 0 0 N)] [⟨false,3,bks t⟩] (. =⟨.a (.s (.sl 1 0 N)),[],[⟨true,3,bks t⟩]⟩):=by
 have gN:=Qad t;have YO:=Qep t;have gO:=QcA t;have UC:=@QmJ t;generalize bks t=TT at *;refine fnW Tryz.func45 ?_;(conv=>whnf);(repeat' ((first|exact zi0|refine zj0 fun hb=>?_|(refine Ns.any rfl ?_;intro bn gL)|(apply Sk.mk; . exact QdU TT (by show TT.length=N*3;rw [gO,hN]) YO)|(apply Sd.mk; . refine ⟨rfl,rfl,rfl,?_,?_⟩<;>first|omega|(show (0+N)*40<=_;omega))|refine QEP ?_|((with_reducible apply Vl.mk (α:=List SV)); . exact zna TT)|refine zs0 ?_|refine zbb ?_ ?_)<;>conv=>whnf))
 .obtain rfl:N=0:=gL hb
  obtain rfl:=UC hN
  (exact QnQ)
 ·(exact QbL)
def Qsf:List SV:= [.u 0,.u 0,.u 0,.u 0,.u 0,.u 0,.u 0,.u 0,.u 0,.u 0,.u 0,.u 0,.u 0,.u 0,.u 0,.u 0,
 .u 0,.u 0,.u 0,.u 0,.u 0,.u 0,.u 0,.u 0,.u 0,.nilsl,.str ⟨#[]⟩,.bool false,.u 0,.bool false,
 .u 0,.u 0,.u 0,.i 0,.i 0,.u 0,.u 0,.str ⟨#[]⟩,.u 0,.u 0,.bool false,.u 0,.bool false,.u 0,
 .u 0,.u 0,.w 0,.bool false,.bool false,.nilsl,.nilsl]
def QzZ (N i:Nat) (V X T B:List SV):St :=
 ⟨[(1,.a (.s (.ptr 3 0))),(2,.a (.s (.ptr 4 0))),(20,.a (.s (.sl 7 0 N))),(21,.a (.s (.i N))),(22,.a (.s (.i i)))],
  [(0,some ⟨false,1,X⟩),(1,some ⟨false,4,T⟩),(2,some ⟨false,3,B⟩),(3,some ⟨true,1,V⟩),(4,some ⟨true,1,Qsf⟩),(5,some ⟨true,1,X⟩),(6,some ⟨true,4,T⟩),(7,some ⟨true,3,B⟩)],[0]⟩
theorem set_same {l:List SV} {j:Nat} {v:SV} (h:l[j]?=some v):l.set j v=l:=by
 apply List.ext_getElem?;intro i;rw [List.getElem?_set];split
 .rename_i e
  subst e;split
  .exact h.symm
  .rename_i h1
   rw [List.getElem?_eq_none (by omega)] at h;cases h
 .rfl
theorem QoL (E:Eg) (hE:E.ok):FN 27 [.agg (E.V 0 1 2)] [⟨false,1,wsv E.M.m⟩,⟨false,4,tes E.T⟩,⟨false,3,bks E.B⟩] (. =⟨.a (.agg (E.V 3 4 5)),[],[⟨true,1,wsv E.M.m⟩,⟨true,4,tes E.T⟩,⟨true,3,bks E.B⟩]⟩):=by
 have gH:=hE.M.ml;have k1:=QbC E.M.m _ rfl (by omega);have k2:=QeM E.T _ rfl (by have:=hE.tl;omega);have k3:=QmI E.B _ rfl (by have:=hE.bl;omega);have fJ:=Qaa E.M.m;have gW:=Qaf E.T;have fG:=Qad E.B;have jH:=Qdd E.B;have hbb:=QcA E.B;have hbl16:=hE.bl;obtain ⟨hM,hT,_,hB,_,ho,_,_⟩:=hE;obtain ⟨M,T,B,o,f,s⟩:=E;dsimp only [Eg.V] at *;obtain ⟨hx,hc,hY,gA,gI,gB,gH,gE,gD,gG⟩:=hM;obtain ⟨_,pc,_,m,ks,ta,td,tf,d,n,bt,bg,ct,wt,ht⟩:=M;dsimp only at *;obtain ⟨x0,x1,x2,x3,x4,x5,x6,x7,x8,x9,x10,x11,x12,x13,x14,x15,rfl⟩:=Qgt hx;obtain ⟨c0,c1,c2,c3,c4,c5,c6,c7,rfl⟩:=Qfo hc;obtain ⟨dd0,dd1,dd2,dd3,dd4,dd5,dd6,dd7⟩:=d;obtain ⟨n0,n1,n2,n3,n4,n5⟩:=n;dsimp only [Mc.C,Mc.D,Dk.C,Nk.C,Dk.ok,Nk.ok] at *
 try dsimp only [cR,Mc.C,Mc.D,Dk.C,Nk.C] at *
 try simp only [Qai,zca,zna,List.getD_cons_succ,List.getD_cons_zero] at *
 generalize gP:wsv m=XX,hX3:bks B=BB,HN:m.length=nn,gL:B.length=bn,gT:tes T=TT,FD:T.length=tn at *;clear gP gT hX3 hT ho hY gA gI gB gH gE gD gG;refine fnW Tryz.func27 ?_;(conv=>whnf);(repeat' ((first|exact zi2|refine zj0 fun hb=>?_|(refine QaD k1 ?_)|(refine QaD k2 ?_)|(refine QaD k3 ?_)|refine zse ?_|refine zbb ?_ ?_)<;>conv=>whnf))
 all_goals
  refine Lp.inv (fun mm σ=>∃ i,mm+i=bn/\σ=QzZ bn i (Eg.V ⟨⟨[x0,x1,x2,x3,x4,x5,x6,x7,x8,x9,x10,x11,x12,x13,x14,x15],pc,[c0,c1,c2,c3,c4,c5,c6,c7],m,ks,ta,td,tf,⟨dd0,dd1,dd2,dd3,dd4,dd5,dd6,dd7⟩,⟨n0,n1,n2,n3,n4,n5⟩,bt,bg,ct,wt,ht⟩,T,B,o,f,s⟩ 5 6 7) XX TT BB) ?_ ?_
  .refine ⟨bn,_,?_,0,by omega,rfl⟩
   dsimp only [Eg.V,Mc.C,Mc.D,Dk.C,Nk.C];simp only [Qai,zca,zna];rw [HN,FD,gL];unfold QzZ Qsf
   first|(exact zwL [(0,some 0),(1,some 1),(2,some 2),(3,some 65536),(4,some 65600),(5,some 131264),(6,some 196736),(7,some 262272)])
  rintro mm σ ⟨i,yP,rfl⟩;have VD:∃ V1,V1=QzZ bn (i+1) (Eg.V ⟨⟨[x0,x1,x2,x3,x4,x5,x6,x7,x8,x9,x10,x11,x12,x13,x14,x15],pc,[c0,c1,c2,c3,c4,c5,c6,c7],m,ks,ta,td,tf,⟨dd0,dd1,dd2,dd3,dd4,dd5,dd6,dd7⟩,⟨n0,n1,n2,n3,n4,n5⟩,bt,bg,ct,wt,ht⟩,T,B,o,f,s⟩ 5 6 7) XX TT BB:=⟨_,rfl⟩;obtain ⟨V1,JU⟩:=VD;unfold QzZ Qsf;dsimp only [Eg.V,Mc.C,Mc.D,Dk.C,Nk.C];simp only [Qai,zca,zna];rw [HN,FD,gL]
  by_cases hi:i<bn
  .obtain ⟨b,hb⟩:∃ b,B[i]?=some b:=⟨B[i]'(by omega),zgg (by omega)⟩
   have seg:=jH i b hb;obtain ⟨hA,hl,hk⟩:=hB b (List.mem_of_getElem? hb);obtain ⟨_,_,l⟩:=b;have cl:=QmR l _ rfl hl;dsimp only [Bk.C] at seg cl;have q2:IntKind.i64.wrap ((i:Int)+1)=((i+1:Nat):Int):=QbF;have ix3:0+((i:Nat):Int).toNat * ty123.size=i*3:=QzI;have gN:QaB BB (i*3+(2,114).fst) [.fz 6 l.length (mzs l)]=BB:=set_same (seg.2 2 _ rfl);clear hk hb hB hl hA jH;generalize l.length=NL,mzs l=MM at *;(conv=>whnf);(repeat' ((first|exact zi2|refine zj0 fun hb=>?_|refine QhE ?_|((with_reducible apply Vl.mk (α:=Nat)); . with_reducible exact ix3)|((with_reducible apply Vl.mk (α:=List SV)); . exact gN)|(apply Sd.mk; . exact ⟨rfl,rfl,rfl,(show i*3+2+1<=BB.length by omega)⟩)|refine Qfy ?_|(refine zpu cl ?_)|refine Qek ?_|refine zse ?_|refine zbb ?_ ?_)<;>conv=>whnf))
   all_goals
     (refine Exists.intro (mm-1) (Exists.intro V1 ⟨by omega,?_,i+1,by omega,(by rw [JU];unfold QzZ Qsf;dsimp only [Eg.V,Mc.C,Mc.D,Dk.C,Nk.C];simp only [Qai,zca,zna];rw [HN,FD,gL])⟩)
      rw [JU];dsimp only [Eg.V,Mc.C,Mc.D,Dk.C,Nk.C];simp only [Qai,zca,zna];rw [HN,FD,gL];unfold QzZ Qsf
      (exact zwL [(0,some 0),(1,some 1),(2,some 2),(3,some 3),(4,some 4),(5,some 5),(6,some 6),(7,some 7)]))
  .obtain rfl:i=bn:=by omega
   (conv=>whnf);(repeat' ((first|exact zi2|refine zj0 fun hb=>?_|refine zse ?_|refine zbb ?_ ?_)<;>conv=>whnf))
   all_goals first|(apply Fin.mk (m:= [(0,some 0),(1,some 1),(2,some 2),(3,some 5),(4,some 6),(5,some 7)]);(focus exact rfl);(all_goals ((try (show HlS _ _ [] _));first|(exact aFi)|exact rfl)))
def Eg.z (E:Eg):Eg:=⟨E.M,E.T,E.B,[],0,false⟩
def QfS (M:Mc) (k:Nat):Nat:=min (min k 4000) (1152921504606846976-M.ct)
def Qej (E:Eg) (k:Nat):Eg × Nat:=Qj7 (QfS E.M k) (QfS E.M k) 0 E.z
theorem Qhx (l:List SV):∀ (c:List SV) (k:Nat),k+l.length<=c.length->QaB c k l=c.take k++(l++c.drop (k+l.length)):=by
 induction l with
 | nil=>intro c k h;show c=_;rw [zna];exact (List.take_append_drop k c).symm
 | cons a l ih =>
  intro c k h;rw [List.length_cons] at h;show QaB (c.set k a) (k+1) l=_;rw [ih _ _ (by rw [List.length_set];omega),List.length_cons,List.drop_set_of_lt (by omega),show k+1+l.length=k+(l.length+1) by omega]
  have:(c.set k a).take (k+1)=c.take k++ [a]:=by
   rw [List.take_add_one,List.take_set_of_le (Nat.le_refl k),List.getElem?_set_self (by omega)];rfl
  rw [this,List.append_assoc];rfl
theorem QBk {place:Nat->Option (Nat × Nat)} {c l:List SV} {a b d:SV} (h1:place 0=some (0,51)) (h2:l.length=51) (h3:c.length=54) (h4:c.drop 51= [a,b,d]):QbX place c [(0,l)]=some (l++ [a,b,d]):=by
 unfold QbX;dsimp only;rw [h1];dsimp only;rw [h2,h3,Qhx l c 0 (by omega),h2,show 0+51=51 from rfl,h4];rfl
theorem Qup (fX:FN 244 [.s (.str ⟨#[0]⟩),.s (.i 128)] [] (. =⟨.a (.s (.str z128)),[],[]⟩))
  (gX:∀ (E:Eg) (lim:Nat),E.ok->Coh E->lim<18446744073709551616->FN 48 [.s (.ptr 0 0),.s (.w lim)] E.H (. =(QeT lim E).1.R (.a (.s (.w ((QeT lim E).2:Nat))))))
  (E:Eg) (hE:E.ok) (hm:Qz5 E=true) (hC:Coh E) (jF:Qb0 E.M=true) (k:Nat) (hk:k<18446744073709551616) :
  FN 11 [.agg (E.V 0 1 2),.s (.w k)] [⟨false,1,wsv E.M.m⟩,⟨false,4,tes E.T⟩,⟨false,3,bks E.B⟩]
   (. =⟨.tup [.agg ((Qej E k).1.V 3 4 5),.s (.sl 6 0 (Qej E k).1.o.length),.s (.w ((Qej E k).2:Nat))],[],[⟨true,1,wsv (Qej E k).1.M.m⟩,⟨true,4,tes (Qej E k).1.T⟩,⟨true,3,bks (Qej E k).1.B⟩,⟨true,4,OLs (Qej E k).1.o⟩]⟩):=by
 have hz:E.z.ok:=⟨hE.M,hE.T,hE.tl,hE.B,hE.bl,(by unfold QbA;exact fun l h=>by cases h),Nat.zero_le _,by show (0:Nat)<_;decide⟩;have UQ:Coh E.z:=⟨hC.n,hC.T,hC.B⟩
 have qN:E.M.ct<=1152921504606846976:=by
  have h:=jF;unfold Qb0 at h;exact (of_decide_eq_true h).2.2.2.2.2.2.2.2.2.2.2.1
 have hL:QfS E.M k<=4000:=by unfold QfS;omega
 have ca:=Qv2 fX gX E.z hz UQ jF (min k 4000) (QfS E.M k) (by omega) rfl (by show 0+QfS E.M k<=_;omega) rfl;have hD:=QhG (QfS E.M k) (QfS E.M k) 0 E.z hz UQ jF (Nat.zero_le _) (by omega) (by show E.M.ct+(QfS E.M k-0)<=_;unfold QfS;omega) (by show 0+(QfS E.M k-0)<=_;omega);have cm:=Qo3 E hE;rw [hm] at cm;have cc:=QoL E hE;change Adv _ _ _ (Qej E k) at hD;change Fn _ _ _ _ (. =(Qej E k).1.Rn (.a (.s (.w ((Qej E k).2:Nat))))) at ca
 have m2:Qsl (k:Int) [4000]=((min k 4000:Nat):Int):=by
  show Qz6 (k:Int) 4000=_;unfold Qz6;split<;>omega
 generalize min k 4000=k4 at *;have rok:=hD.ok;clear hD UQ hC hz gX fX hm jF;generalize Qej E k=R at *;obtain ⟨R1,_⟩:=R;dsimp only at rok ca |-;have rxl:=rok.M.x;have rcl:=rok.M.c;have exl:=hE.M.x;have ecl:=hE.M.c;have GY:=Qaa R1.M.m;have GZ:=Qaf R1.T;have FA:=Qad R1.B;have FB:=(Qaz rok.o).2.1;have vU:=Qaa E.M.m;have vV:=Qaf E.T;have vW:=Qad E.B;clear rok hE;obtain ⟨⟨_,_,_,em,_,_,_,_,ef,en,_,_,_,_,_⟩,eT,eB,eo,_,_⟩:=E;cases ef;cases en;dsimp only at exl ecl;cases QaO exl;cases zC8 ecl;obtain ⟨⟨_,_,_,rm,_,_,_,_,rf,rn,_,_,_,_,_⟩,rT,rB,ro,_,_⟩:=R1;cases rf;cases rn;dsimp only at rxl rcl;cases QaO rxl;cases zC8 rcl;dsimp only [Eg.z,Eg.Hn,Eg.Rn,Eg.V,Eg.C,Mc.C,Mc.D,Dk.C,Nk.C] at cm cc ca vU vV vW GY GZ FA FB |-;simp only [Qai,zca,zna] at cm cc ca |-;generalize YD:wsv em=eXX,heT:tes eT=eTT,heB:bks eB=eBB,heO:OLs eo=eOO,em.length=emn,eT.length=etn,eB.length=ebn,eo.length=eon,hrX:wsv rm=rXX,hrT:tes rT=rTT,hrB:bks rB=rBB,hrO:OLs ro=rOO,rm.length=rmn,rT.length=rtn,rB.length=rbn,ro.length=ron at *;clear YD heT heB heO hrX hrT hrB hrO;refine fnW Tryz.func11 ?_;(conv=>whnf);(repeat' ((first|exact zi2|refine zj0 fun hb=>?_|((with_reducible apply Ge.mk (α:=List SV)); . exact QBk rfl rfl rfl rfl)|(with_reducible refine zv m2 ?_)|(refine QmD cm ?_)|(refine QmD cc ?_)|(refine Qzn ca ?_)|refine zse ?_|refine zbb ?_ ?_)<;>conv=>whnf))
 all_goals first|(apply Fin.mk (m:= [(0,some 0),(1,some 1),(2,some 2),(3,some 262336),(4,some 262337),(5,some 262338),(6,some 262339)]);(focus exact rfl);(all_goals ((try (show HlS _ _ [] _));first|(exact aFi)|exact rfl)))
theorem QE9:FN 44 [.s .nilsl] [] (. =⟨.a (.s .nilsl),[],[]⟩) :=
 Qft (show Qrh eqt tys true fns QBK 100 20 44 [.s .nilsl] []=some ⟨.a (.s .nilsl),[],[]⟩ by kernel_rfl)
theorem QE8:FN 45 [.s .nilsl] [] (. =⟨.a (.s .nilsl),[],[]⟩) :=
 Qft (show Qrh eqt tys true fns QBK 100 20 45 [.s .nilsl] []=some ⟨.a (.s .nilsl),[],[]⟩ by kernel_rfl)
theorem Qw6 {place:Nat->Option (Nat × Nat)} {c l:List SV} {a b:SV} (h1:place 0=some (0,49)) (h2:l.length=49) (h3:c.length=51) (h4:c.drop 49= [a,b]):QbX place c [(0,l)]=some (l++ [a,b]):=by
 unfold QbX;dsimp only;rw [h1];dsimp only;rw [h2,h3,Qhx l c 0 (by omega),h2,show 0+49=49 from rfl,h4];rfl
def Mc.N (M:Mc) (k:Nat):List SV:=M.C k++ [.nilsl,.nilsl]
theorem QmV (M:Mc) (hM:M.ok):FN 27 [.agg (M.N 0)] [⟨false,1,wsv M.m⟩] (. =⟨.a (.agg (M.N 1)),[],[⟨true,1,wsv M.m⟩]⟩):=by
 have k1:=QbC M.m _ rfl (by have:=hM.ml;omega);have k2:=QE9;have k3:=QE8;have gK:=Qaa M.m;unfold Mc.N;obtain ⟨hx,hc,hY,gA,_,gB,_,gE,gD,gG⟩:=hM;obtain ⟨_,_,_,m,_,_,_,_,d,n⟩:=M;dsimp only at *;cases QaO hx;cases zC8 hc;cases d;cases n;dsimp only [Mc.C,Mc.D,Dk.C,Nk.C,Dk.ok,Nk.ok] at *;generalize m.length=nn,wsv m=XX at *;clear hY gA gE gD gB gG;refine fnW Tryz.func27 ?_;(conv=>whnf);(repeat' ((first|exact zi2|refine zj0 fun hb=>?_|(refine QaD k1 ?_)|(refine zpu k2 ?_)|(refine zpu k3 ?_)|refine zse ?_|refine zbb ?_ ?_)<;>conv=>whnf))
 refine Lp.unroll 1 ?_;(repeat' ((conv=>whnf);first|exact zi2|refine zj0 fun hb=>?_|refine zse ?_|refine zbb ?_ ?_))
 all_goals exact Qcv
theorem QxG (M:Mc) (hM:M.ok):FN 12 [.agg (M.C 0)] [⟨false,1,wsv M.m⟩] (. =⟨.a (.agg ((⟨M,[],[],[],0,false⟩:Eg).V 1 2 3)),[],[⟨true,1,wsv M.m⟩,⟨true,4,[]⟩,⟨true,3,[]⟩]⟩):=by
 have k1:=QmV M hM;have gK:=Qaa M.m;unfold Mc.N at *;unfold Eg.V;dsimp only [List.length_nil];obtain ⟨hx,hc,hY,gA,_,gB,_,gE,gD,gG⟩:=hM;obtain ⟨_,_,_,m,_,_,_,_,d,n⟩:=M;dsimp only at *;cases QaO hx;cases zC8 hc;cases d;cases n;dsimp only [Mc.C,Mc.D,Dk.C,Nk.C,Dk.ok,Nk.ok] at *;generalize m.length=nn,wsv m=XX at *;clear hY gA gE gD gB gG;refine fnW Tryz.func12 ?_;(conv=>whnf);(repeat' ((first|exact zi2|refine zj0 fun hb=>?_|((with_reducible apply Ge.mk (α:=List SV)); . exact Qw6 rfl rfl rfl rfl)|(refine QaD k1 ?_)|refine zse ?_|refine zbb ?_ ?_)<;>conv=>whnf))
 all_goals first|(exfalso;simp at hb;done)|(apply Fin.mk (m:= [(0,some 0),(1,some _),(2,none),(3,none)]);(focus exact rfl);(all_goals ((try (show HlS _ _ [] _));first|(exact aFi)|exact rfl)))
def oK (l:List SV):Prop:=∃ (a b c:Int) (s:ByteArray),l= [.i a,.w b,.u c,.str s]
theorem QsR {d:Dk} {xs:List Nat} {n:Nat} {p:Int} {v c:Nat} {l:List SV} (h:(Qa7 d xs n p v c).2=some l):oK l:=by
 unfold Qa7 at h;split at h
 .cases h
 split at h
 .cases h
 split at h
 .cases h
 split at h
 .cases h
 split at h
 .split at h
  .cases h
  split at h
  .cases h
  .injection h with h
   subst h;unfold Qnk;split<;>(try split)<;>(try split)<;>exact ⟨_,_,_,_,rfl⟩
 .cases h
theorem QtG {d:Nk} {xs:List Nat} {n:Nat} {p:Int} {v c:Nat} {l:List SV} (h:(Qbj d xs n p v c).2=some l):oK l:=by
 unfold Qbj at h;split at h
 .cases h
 split at h
 .cases h
 split at h
 .cases h
 split at h
 .cases h
 split at h
 .injection h with h
  subst h;exact ⟨_,_,_,_,rfl⟩
 split at h<;>cases h
theorem QBY {M:Mc} {p:Int} {v:Nat} {l:List SV} (h:(Qbz M p v).2=some l):oK l:=by
 unfold Qbz at h;split at h
 .injection h with h
  subst h;exact ⟨_,_,_,_,rfl⟩
 split at h
 .cases h
 split at h
 .cases h
 split at h
 .exact QsR h
 split at h
 .exact QtG h
 .cases h
theorem QAp {M:Mc} {w:Nat} {l:List SV} (h:(Qbi M w).2=some l):oK l:=by
 unfold Qbi at h;split at h
 .cases h
 split at h
 .exact QBY h
 split at h
 .cases h
 split at h<;>cases h
theorem QvC:∀ {k:Nat} {M M':Mc} {l:List (List SV)},Qke k M l M'->∀ x∈l,oK x
 | 0,_,_,_,⟨_,h⟩,x,hx=>by subst h;cases hx
 | k+1,M,M',l,⟨M1,o,l',_,_,h3,h4,h5⟩,x,hx=>by
  subst h4;rcases List.mem_append.1 hx with h|h
  .cases o with
   | none=>cases h
   | some y =>
    obtain rfl:x=y:=by simpa using h
    exact QAp (M:=M) (w:=0) (by rw [h3])
  .exact QvC h5 x h
theorem QBL {os:List (List SV)} (h:∀ x∈os,oK x):QbA os:=fun x hx=>by
 obtain ⟨_,_,_,_,rfl⟩:=h x hx;exact ⟨rfl,rfl,rfl⟩
def stR:Nat->Mc->List (List SV)->Nat->Mc × List (List SV) × Nat
 | 0,M,os,n=>(M,os,n)
 | k+1,M,os,n=>if Qch M=true then (M,os,n) else if Qe3 M=true then (M,os,n) else stR k (Qbi M 0).1 (os++(Qbi M 0).2.toList) (n+1)
theorem Qn8:∀ {os:List (List SV)},QbA os->∀ (i:Nat) (l:List SV),os[i]?=some l->l.length=4/\∀ (j:Nat) s,l[j]?=some s->(OLs os)[i*4+j]?=some s
 | y::os,h,0,l,e=>by
  injection e with e
  subst e;refine ⟨(h _ (List.mem_cons_self ..)).1,fun j s hs=>?_⟩;show (y++OLs os)[0*4+j]?=_;rw [Nat.zero_mul,Nat.zero_add,zgl (zgs.1 hs).1];exact hs
 | y::os,h,i+1,l,e=>by
  obtain ⟨h1,h2⟩:=Qn8 (os:=os) (fun x hx=>h x (List.mem_cons_of_mem _ hx)) i l e;refine ⟨h1,fun j s hs=>?_⟩;have h4:=(h y (List.mem_cons_self ..)).1;show (y++OLs os)[(i+1)*4+j]?=_;rw [zgr (by omega),h4,show (i+1)*4+j-4=i*4+j by omega];exact h2 j s hs
def QEC (N i:Nat) (OL:List SV):St :=
 ⟨[(0,.a (.s (.sl 0 0 N))),(1,.a (.s (.sl 1 0 N))),(5,.a (.s (.i i)))],[(0,some ⟨false,4,OL⟩),(1,some ⟨false,4,OL⟩)],[0]⟩
theorem Qub (os:List (List SV)) (N:Nat) (hN:os.length=N) (fI:N<=1000000) (hk:∀ x∈os,oK x) :
  FN 15 [.s (.sl 0 0 N),.s (.sl 1 0 N)] [⟨false,4,OLs os⟩,⟨false,4,OLs os⟩] (. =⟨.a (.s (.bool true)),[],[]⟩):=by
 have gN:=(Qaz (QBL hk)).2.1;have jH:=Qn8 (QBL hk);generalize OLs os=TT at *;refine fnW Tryz.func15 ?_;(conv=>whnf);(repeat' ((first|exact zi2|refine zj0 fun hb=>?_|refine zse ?_|refine zbb ?_ ?_)<;>conv=>whnf))
 refine Lp.inv (fun mm σ=>∃ i,mm+i=N/\σ=QEC N i TT) ?_ ?_
 .refine ⟨N,QEC N 0 TT,?_,0,by omega,rfl⟩
  (exact zwL [(0,some 0),(1,some 1)])
 .rintro mm σ ⟨i,yP,rfl⟩
  unfold QEC
  by_cases WB:i<N
  .obtain ⟨_,vE⟩:∃ m,os[i]?=some m:=⟨os[i]'(by omega),zgg (by omega)⟩
   have seg:=jH i _ vE;obtain ⟨a,_,_,s,rfl⟩:=hk _ (List.mem_of_getElem? vE);(conv=>whnf);(repeat' ((first|exact zi2|refine zj0 fun hb=>?_|refine Qfy ?_|refine zse ?_|refine zbb ?_ ?_)<;>conv=>whnf))
   all_goals first
    | (exfalso;simp [QbN] at hb;done)
    | (
      refine ⟨mm-1,QEC N (i+1) TT,by omega,?_,i+1,by omega,rfl⟩
      (exact zwL [(0,some 0),(1,some 1)]))
  ·(conv=>whnf);(repeat' ((first|exact zi0|refine zj0 fun hb=>?_|refine zst ?_|refine zbb ?_ ?_)<;>conv=>whnf))
   all_goals exact QdQ
end Go.Proofs.YtflaceijiphfdaaGreat
