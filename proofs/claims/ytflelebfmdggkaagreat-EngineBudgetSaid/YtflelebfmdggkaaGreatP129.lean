import Derived.Test.YtflelebfmdggkaaGreatP118
set_option linter.unusedSimpArgs false
set_option linter.unusedVariables false
set_option maxHeartbeats 100000000
set_option maxRecDepth 100000
namespace Go.Proofs.YtflelebfmdggkaaGreat
open Go Go.RowKit
inductive L16 : List Nat -> Prop
 | mk (a b c d e f g h i j k l m n o p : Nat) : L16 [a, b, c, d, e, f, g, h, i, j, k, l, m, n, o, p]
inductive L8 : List Nat -> Prop
 | mk (a b c d e f g h : Nat) : L8 [a, b, c, d, e, f, g, h]
theorem zC16 {l : List Nat} (h : l.length = 16) : L16 l := by
 obtain ⟨a, b, c, d, e, f, g, h, i, j, k, l, m, n, o, p, rfl⟩ := Qav h
 exact .mk ..
theorem zC8 {l : List Nat} (h : l.length = 8) : L8 l := by
 obtain ⟨a, b, c, d, e, f, g, h, rfl⟩ := QaM h
 exact .mk ..
theorem zca {α : Type _} {a : α} {l r : List α} : (a :: l) ++ r = a :: (l ++ r) := rfl
theorem zna {α : Type _} (l : List α) : [] ++ l = l := rfl
theorem zde {p : Prop} [Decidable p] : (decide p = true) = p := decide_eq_true_eq
theorem zba (a b : Bool) : ((a && b) = true) = (a = true /\ b = true) := Bool.and_eq_true a b
theorem zdt {p : Prop} [h : Decidable p] : p -> decide p = true := decide_eq_true
theorem zla {α : Type _} {l r : List α} : (l ++ r).length = l.length + r.length := List.length_append
theorem QkR {x:List Nat} (hx:x.length=16) (hr:∀ y∈x,y<4294967296) (a v:Nat) (hv:v<4294967296):(QaE x a v).length=16/\∀ y∈QaE x a v,y<4294967296:=⟨by rw [Qaz];exact hx,QdB hr a v hv⟩
theorem QBd {E:Eg} (hE:E.ok) (a v pc:Nat) (hv:v<4294967296) (gQ:pc<4294967296):(fnE E a v pc).ok :=
 ⟨⟨(QkR hE.M.x hE.M.xr a v hv).1,hE.M.c,(QkR hE.M.x hE.M.xr a v hv).2,hE.M.cr,gQ,hE.M.mr,hE.M.ml,hE.M.dk,hE.M.nk,hE.M.dv⟩,hE.T,hE.tl,hE.B,hE.bl,hE.o,hE.ol,hE.f⟩
theorem Qyh {E:Eg} (hC:Coh E) (a v pc:Nat):Coh (fnE E a v pc):=⟨hC.n,hC.T,hC.B⟩
theorem Qht {E:Eg} (hE:E.ok) (n:Nat):(ctE n E).ok:=⟨⟨hE.M.x,hE.M.c,hE.M.xr,hE.M.cr,hE.M.pr,hE.M.mr,hE.M.ml,hE.M.dk,hE.M.nk,⟨hE.M.dv.1,hE.M.dv.2.1,hE.M.dv.2.2.1,Nat.mod_lt _ (by decide),hE.M.dv.2.2.2.2⟩⟩,hE.T,hE.tl,hE.B,hE.bl,hE.o,hE.ol,hE.f⟩
theorem Qgl {E:Eg} (hC:Coh E) (n:Nat):Coh (ctE n E):=⟨hC.n,hC.T,hC.B⟩
theorem QhA (o:Int):szO o=1\/szO o=4:=by unfold szO;split;exact .inr rfl;exact .inl rfl
theorem Qtv {E:Eg} (hE:E.ok) (hC:Coh E) (m:Mi) (a v:Nat) (ha:a / 4<E.M.m.length):Coh (Qhd E m a v):=by
 have gG:=Qcr m.o E.M.m a v;have yE:∀ j,j≠a / 4->(stM m.o E.M.m a v).getD j 0=E.M.m.getD j 0:=fun j hj=>by grind [stM,QeD,Qnv,Qhd]
 have hB:Qhv (stM m.o E.M.m a v) E.M.m.length (wrt (a / 128) { E with M:= { E.M with m:=stM m.o E.M.m a v } }).B:=by
  refine Qln E.M.m _ _ E.B _ List.filter_sublist (fun b hb j hj=>?_) hC.B;have fQ:=of_decide_eq_true (List.mem_filter.1 hb).2;refine (yE j (fun h=>fQ ?_)).symm;unfold fk;subst h;congr 1;omega
 unfold Qhd;dsimp only;split
 .refine ⟨?_,Ql4 _ _ _,?_⟩
  .show mpg (stM m.o E.M.m a v).length*32=(stM m.o E.M.m a v).length;rw [gG];exact hC.n
  .show Qhv (stM m.o E.M.m a v) (stM m.o E.M.m a v).length _;rw [gG];exact hB
 .rename_i hq
  refine ⟨?_,?_,?_⟩
  .show mpg (stM m.o E.M.m a v).length*32=(stM m.o E.M.m a v).length;rw [gG];exact hC.n
  .show QhP E.T (stM m.o E.M.m a v) (stM m.o E.M.m a v).length (cR E.M)=true
   rw [gG];refine QjE (fun j hj=>(yE j (fun h=>hq ?_)).symm) hC.T;subst h;show a / 128=cR E.M;omega
  .show Qhv (stM m.o E.M.m a v) (stM m.o E.M.m a v).length _;rw [gG];exact hB
theorem Quo {E:Eg} (hE:E.ok) (m:Mi) (a v:Nat) (hv:v<4294967296):(Qhd E m a v).ok:=by
 have gI:=hE.M.ml;have h0:(⟨{ E.M with m:=stM m.o E.M.m a v },E.T,E.B,E.o,E.f,E.s⟩:Eg).ok:=⟨⟨hE.M.x,hE.M.c,hE.M.xr,hE.M.cr,hE.M.pr,Qqk m.o E.M.m a v hE.M.mr hv,by show (stM _ _ _ _).length<=_;rw [Qcr];exact gI,hE.M.dk,hE.M.nk,hE.M.dv⟩,hE.T,hE.tl,hE.B,hE.bl,hE.o,hE.ol,hE.f⟩;unfold Qhd;dsimp only;split
 .exact ⟨h0.M,Qi8,Nat.zero_le _,fun b hb=>hE.B b (List.mem_filter.1 hb).1,Nat.le_trans (List.length_filter_le _ _) hE.bl,hE.o,hE.ol,hE.f⟩
 .exact ⟨h0.M,hE.T,hE.tl,fun b hb=>hE.B b (List.mem_filter.1 hb).1,Nat.le_trans (List.length_filter_le _ _) hE.bl,hE.o,hE.ol,hE.f⟩
def fnM (M:Mc) (a v pc:Nat):Mc:= { M with x:=QaE M.x a v,pc:=pc }
def mO (M:Mc) (va sz:Nat) (ac:Int):Bool:=rsO M.m M.m.length (M.c.getD 0 0) (cR M) va sz ac
def mA (M:Mc) (va sz:Nat) (ac:Int):Nat:=rsA M.m M.m.length (M.c.getD 0 0) (cR M) va sz ac
def mM (M:Mc) (va sz:Nat) (ac:Int):List Nat:=rsM M.m M.m.length (M.c.getD 0 0) (cR M) va sz ac
def vaM (M:Mc) (m:Mi):Nat:=w32 ((M.x.getD m.b 0:Nat)+(m.k:Nat))
def opM (M:Mc) (m:Mi):Option Mc :=
 if m.o=24 then some (fnM M m.a m.k (w32 ((lpc M.pc m.n:Nat)+4)))
 else if 32<=m.o/\m.o<=34 then
  (if mO M (vaM M m) (szO m.o) 2=true then some (fnM { M with m:=mM M (vaM M m) (szO m.o) 2 } m.a (ldV m.o (mM M (vaM M m) (szO m.o) 2) (mA M (vaM M m) (szO m.o) 2)) (w32 ((lpc M.pc m.n:Nat)+4))) else none)
 else if m.o=35\/m.o=36 then
  (if mO M (vaM M m) (szO m.o) 3=true then some (fnM { M with m:=stM m.o (mM M (vaM M m) (szO m.o) 3) (mA M (vaM M m) (szO m.o) 3) (M.x.getD m.a 0) } 0 0 (w32 ((lpc M.pc m.n:Nat)+4))) else none)
 else if 40<=m.o/\m.o<=45 then
  some (fnM M 0 0 (if Qde m.o (M.x.getD m.a 0) (M.x.getD m.b 0)=true then w32 ((lpc M.pc m.n:Nat)+(m.k:Nat)) else w32 ((lpc M.pc m.n:Nat)+4)))
 else if m.o=48 then some (fnM M m.a (w32 ((lpc M.pc m.n:Nat)+4)) (w32 ((lpc M.pc m.n:Nat)+(m.k:Nat))))
 else if m.o=49 then some (fnM M m.a (w32 ((lpc M.pc m.n:Nat)+4)) (w32 ((M.x.getD m.b 0:Nat)+(m.k:Nat))))
 else if QbX m.o=true then some (fnM M m.a (Qbv m.o (M.x.getD m.b 0) (if m.o<=13 then M.x.getD m.c 0 else m.k)) (w32 ((lpc M.pc m.n:Nat)+4)))
 else none
def QEb (p q:Nat):Prop:=q=p\/∃ ac,q=QbK p ac
structure Keep (E E1:Eg):Prop where
 (ok:E1.ok) (coh:Coh E1) (o:E1.o=E.o) (f:E1.f=E.f)
 (s0:E1.s=false->E.s=false/\(∀ j,j / 32=E.f->E1.M.m.getD j 0=E.M.m.getD j 0)/\∀ j,j / 32=cR E.M->QEb (E.M.m.getD j 0) (E1.M.m.getD j 0))
 (c:E1.M.c=E.M.c) (l:E1.M.m.length=E.M.m.length)
theorem QAt (E:Eg) (va sz:Nat) (ac:Int) (gX:va<4294967296) (j:Nat):QEb (E.M.m.getD j 0) ((sM E va sz ac).getD j 0):=by grind [sM,rsM,Qba,cR,Qik,List.set_eq_of_length_le,QeD,QEb]
theorem QrZ {E:Eg} (hE:E.ok) (hC:Coh E):Keep E E:=⟨hE,hC,rfl,rfl,fun h=>⟨h,fun _ _=>rfl,fun _ _=> .inl rfl⟩,rfl,rfl⟩
theorem Qmn (E:Eg) (hE:E.ok) (hC:Coh E) (va sz:Nat) (ac:Int) (gX:va<4294967296) (fZ:sz=1\/sz=4) (uX:ac=1\/ac=2\/ac=3):Keep E (rsv E va sz ac).1:=by
 have h:=Qeu E hE hC va sz ac gX fZ uX;refine ⟨h.ok,h.coh,h.o,h.f,fun hs=>⟨(h.s0 hs).1,(h.s0 hs).2,fun j hj=>?_⟩,by rw [h.m],by rw [h.m];exact Qbl _ _ _ _ _ _ _⟩;rw [h.m];exact QAt E va sz ac gX j
theorem Qd1 {E E1:Eg} (h:Keep E E1) (a v pc:Nat) (hv:v<4294967296) (gQ:pc<4294967296):Keep E (fnE E1 a v pc) :=
 ⟨QBd h.ok a v pc hv gQ,Qyh h.coh a v pc,h.o,h.f,h.s0,h.c,h.l⟩
theorem QwL {E E1:Eg} (h:Keep E E1) (m:Mi) (a v:Nat) (hv:v<4294967296) (ha:a / 4<E1.M.m.length):Keep E (Qhd E1 m a v):=by
 have yE:∀ j,j≠a / 4->(stM m.o E1.M.m a v).getD j 0=E1.M.m.getD j 0:=fun j hj=>by grind [stM,QeD,Qnv,Qhd]
 have hM:(Qhd E1 m a v).M= { E1.M with m:=stM m.o E1.M.m a v }:=by unfold Qhd;dsimp only;split<;>rfl
 refine ⟨Quo h.ok m a v hv,Qtv h.ok h.coh m a v ha,?_,?_,fun hs=>?_,by rw [hM];exact h.c,by rw [hM];show (stM _ _ _ _).length=_;rw [Qcr];exact h.l⟩
 .unfold Qhd;dsimp only;split<;>exact h.o
 .unfold Qhd;dsimp only;split<;>exact h.f
 .have gY:¬ a / 128=cR E1.M/\E1.s=false/\¬ a / 128=E1.f:=by
   unfold Qhd at hs;dsimp only at hs;split at hs
   .cases hs
   .rename_i hq
    change (E1.s||decide (a / 128=E1.f))=false at hs;rw [Bool.or_eq_false_iff,decide_eq_false_iff_not] at hs;exact ⟨hq,hs⟩
  obtain ⟨q1,q2,q3⟩:=gY;obtain ⟨g1,g2,_⟩:=h.s0 q2;have hc:cR E1.M=cR E.M:=by unfold cR;rw [h.c]
  rw [hM];refine ⟨g1,fun j hj=>?_,fun j hj=>?_⟩
  .rw [<- g2 j hj]
   exact yE j (fun e=>q3 (by rw [h.f];omega))
  .grind
theorem Qpu (E:Eg) (hE:E.ok) (hC:Coh E) (m:Mi) (hm:Qbt m) :
  ((exO E m).2=false->(exO E m).1=E/\opM E.M m=none)/\((exO E m).2=true->opM E.M m=some (exO E m).1.M/\Keep E (exO E m).1):=by
 obtain ⟨fX,_,_,qG⟩:=hm;have hK:=QrZ hE hC;have hx:=Qab hE.M.xr;unfold exO opM
 by_cases vG:m.o=24
 .rw [zP vG,zP vG]
  exact ⟨(fun h=>by cases h),fun _=>⟨rfl,Qd1 hK _ _ _ qG (QaH _)⟩⟩
 rw [zN vG,zN vG]
 by_cases h32:32<=m.o/\m.o<=34
 .rw [zP h32,zP h32]
  have h:=Qeu E hE hC (vaM E.M m) (szO m.o) 2 (QaH _) (QhA _) (.inr (.inl rfl));have hk:=Qmn E hE hC (vaM E.M m) (szO m.o) 2 (QaH _) (QhA _) (.inr (.inl rfl));change _/\_;have hl:ldE E m=rsv E (vaM E.M m) (szO m.o) 2:=rfl;rw [hl];have hb:(rsv E (vaM E.M m) (szO m.o) 2).2.2=mO E.M (vaM E.M m) (szO m.o) 2:=h.b;rw [<- hb]
  cases hv:(rsv E (vaM E.M m) (szO m.o) 2).2.2 with
  | false=>grind
  | true =>
   rw [zP rfl,zP rfl];refine ⟨(fun h=>by cases h),fun _=>⟨?_,Qd1 hk _ _ _ (Qv1 _ _ _ h.ok.M.mr) (QaH _)⟩⟩;have ha:(rsv E (vaM E.M m) (szO m.o) 2).2.1=mA E.M (vaM E.M m) (szO m.o) 2:=h.a hv;have vJ:(rsv E (vaM E.M m) (szO m.o) 2).1.M= { E.M with m:=mM E.M (vaM E.M m) (szO m.o) 2 }:=h.m;unfold fnE fnM;dsimp only;rw [ha,vJ]
 rw [zN h32,zN h32]
 by_cases vH:m.o=35\/m.o=36
 .rw [zP vH,zP vH]
  have h:=Qeu E hE hC (vaM E.M m) (szO m.o) 3 (QaH _) (QhA _) (.inr (.inr rfl));have hk:=Qmn E hE hC (vaM E.M m) (szO m.o) 3 (QaH _) (QhA _) (.inr (.inr rfl));have hl:stE E m=if (rsv E (vaM E.M m) (szO m.o) 3).2.2=true then (Qhd (rsv E (vaM E.M m) (szO m.o) 3).1 m (rsv E (vaM E.M m) (szO m.o) 3).2.1 (E.M.x.getD m.a 0),true) else (E,false):=rfl
  have hb:(rsv E (vaM E.M m) (szO m.o) 3).2.2=mO E.M (vaM E.M m) (szO m.o) 3:=h.b;rw [<- hb]
  cases hv:(rsv E (vaM E.M m) (szO m.o) 3).2.2 with
  | false=>grind
  | true =>
   rw [hv,zP rfl] at hl;rw [hl,zP rfl,zP rfl];have qB:=h.in_ hv;refine ⟨(fun h=>by cases h),fun _=>⟨?_,Qd1 (QwL hk m _ _ (hx _) (by rw [hk.l];exact qB.1)) _ _ _ (by decide) (QaH _)⟩⟩;have ha:(rsv E (vaM E.M m) (szO m.o) 3).2.1=mA E.M (vaM E.M m) (szO m.o) 3:=h.a hv;have vJ:(rsv E (vaM E.M m) (szO m.o) 3).1.M= { E.M with m:=mM E.M (vaM E.M m) (szO m.o) 3 }:=h.m;have hM:∀ (E1:Eg) (a v:Nat),(Qhd E1 m a v).M= { E1.M with m:=stM m.o E1.M.m a v }:=fun E1 a v=>by unfold Qhd;dsimp only;split<;>rfl
   unfold fnE fnM;dsimp only;rw [hM,ha,vJ]
 rw [zN vH,zN vH]
 by_cases h40:40<=m.o/\m.o<=45
 .rw [zP h40,zP h40]
  refine ⟨(fun h=>by cases h),fun _=>⟨rfl,Qd1 hK _ _ _ (by decide) ?_⟩⟩;split<;>exact QaH _
 rw [zN h40,zN h40]
 by_cases h48:m.o=48
 .rw [zP h48,zP h48]
  exact ⟨(fun h=>by cases h),fun _=>⟨rfl,Qd1 hK _ _ _ (QaH _) (QaH _)⟩⟩
 rw [zN h48,zN h48]
 by_cases h49:m.o=49
 .rw [zP h49,zP h49]
  exact ⟨(fun h=>by cases h),fun _=>⟨rfl,Qd1 hK _ _ _ (QaH _) (QaH _)⟩⟩
 rw [zN h49,zN h49]
 by_cases gZ:QbX m.o=true
 .rw [zP gZ,zP gZ]
  refine ⟨(fun h=>by cases h),fun _=>⟨rfl,Qd1 hK _ _ _ (Qc2 _ _ _ (hx _) ?_) (QaH _)⟩⟩;split
  .exact hx _
  .exact qG
 rw [zN gZ,zN gZ];exact ⟨fun _=>⟨rfl,rfl⟩,(fun h=>by cases h)⟩
theorem Qeq (xs:List Nat) (n s r va:Nat) (sz ac:Int):rsK xs n s r va sz ac=0↔rsO xs n s r va sz ac=true:=by grind [rsK,rsO,Qcw]
theorem QID (pc:Nat) (h:pc<4294967296):lpc pc 1=pc:=by
 unfold lpc w32;omega
theorem QHA (w:Nat) (hd:dOk w=true):(bM w).o=dOp w/\(bM w).a=nA w/\(bM w).b=nB w/\(bM w).c=nC w/\(bM w).n=1:=by
 obtain ⟨h1,_,h2,_,_,_⟩:=Qic w hd;exact ⟨rfl,by show (dA w).toNat=_;rw [h1];rfl,by show (dB w).toNat=_;rw [h2];rfl,rfl,rfl⟩
theorem QAw (w:Nat) (h:dOp w=24):(bM w).k=w32 ((w32 (dM w):Nat)*65536):=by grind [trK,dOp,dM,w32,bM]
theorem QAW (w:Nat) (h:40<=dOp w/\dOp w<=45\/dOp w=48):(bM w).k=w32 (4*(w32 (dM w):Nat)):=by
 show (trK (dOp w) (dM w)).toNat=_;unfold trK w32;rw [zN (by omega),zP h];omega
theorem QuR (w:Nat) (h:dOp w≠24) (h2:¬ (40<=dOp w/\dOp w<=45\/dOp w=48)):(bM w).k=w32 (dM w):=by grind [trK,dOp,dM,w32,bM]
theorem QBq (o:Int):wd o=((szO o:Nat):Int):=by unfold wd szO;split<;>rfl
theorem Qrb (x:List Nat) (o:Int) (A:Nat) (m:Int) (h:o<=59):eK (exE x o A m)=0:=by
 unfold exE;rw [zN (by omega),zN (by omega),zN (by omega),zN (by omega),zN (by omega)];rfl
theorem QC1 (M:Mc) (hM:M.ok) (hi:QcV M=false) (zV:M.wt=false) (hf:mO M M.pc 4 1=true) (hk:mM M M.pc 4 1=M.m) (w:Nat) (hw:M.m.getD (mA M M.pc 4 1 / 4) 0=w) (hd:dOk w=true) (M':Mc) (h:opM M (bM w)=some M') :
  Qbh M 0=(Qdb M',none):=by
 have hP:Qdd M=M.pc:=by unfold Qdd;rw [hi,zN (by decide)]
 have hC:Qda M=M.c:=by unfold Qda;rw [hi,zN (by decide)]
 have YY:rsK M.m M.m.length (M.c.getD 0 0) (M.c.getD 6 0) M.pc 4 1=0:=(Qeq _ _ _ _ _ _ _).2 hf
 have yS:ftW M.m M.m.length (M.c.getD 0 0) (M.c.getD 6 0) M.pc=w:=by
  unfold ftW;rw [zP YY];change (mM M M.pc 4 1).getD (mA M M.pc 4 1 / 4) 0=w;rw [hk];exact hw
 have ZY:rsM M.m M.m.length (M.c.getD 0 0) (M.c.getD 6 0) M.pc 4 1=M.m:=hk;obtain ⟨b1,b2,b3,b4,b5⟩:=QHA w hd;have hl:=QID M.pc hM.pr;have hrng:=(Qic w hd).2.2.2.2.2.2.2.2
 have key:∀ (Q:Ex),exS M.x M.pc M.c M.m M.m.length=Q->eK Q.e=0->Q.c=M.c->M'= { M with x:=Q.x,pc:=Q.pc,m:=Q.m }->Qbh M 0=(Qdb M',none):=fun Q h1 h2 h3 h4=>by
  have hq:QaJ M=Q:=by unfold QaJ;rw [hP,hC];exact h1
  unfold Qbh QaG;rw [hq,h2,zN (by decide),zN (by decide),zN (by decide),zN (by decide),h4,h3];obtain ⟨x,pc,c,m,_,_,_,_,_,_,_,_,_,wt⟩:=M;dsimp only at zV |-;subst zV;rfl
 unfold opM at h;rw [b1,b2,b3,b4,b5,hl] at h
 have wC:∀ (qH:¬ (57<=dOp w/\M.c.getD 0 0%2=0)),exS M.x M.pc M.c M.m M.m.length =
   if 32<=dOp w/\dOp w<=34 then
    ⟨ldX M.x M.m M.m.length (M.c.getD 0 0) (M.c.getD 6 0) (vaO M.x (nB w) (dM w)) (dOp w) (nA w),
     trP M.pc M.c (rsK M.m M.m.length (M.c.getD 0 0) (M.c.getD 6 0) (vaO M.x (nB w) (dM w)) (wd (dOp w)) 2),
     trC M.pc M.c (rsK M.m M.m.length (M.c.getD 0 0) (M.c.getD 6 0) (vaO M.x (nB w) (dM w)) (wd (dOp w)) 2) (vaO M.x (nB w) (dM w)),
     rsM M.m M.m.length (M.c.getD 0 0) (M.c.getD 6 0) (vaO M.x (nB w) (dM w)) (wd (dOp w)) 2,E0⟩
   else if 35<=dOp w/\dOp w<=36 then
    ⟨M.x,trP M.pc M.c (rsK M.m M.m.length (M.c.getD 0 0) (M.c.getD 6 0) (vaO M.x (nB w) (dM w)) (wd (dOp w)) 3),
     trC M.pc M.c (rsK M.m M.m.length (M.c.getD 0 0) (M.c.getD 6 0) (vaO M.x (nB w) (dM w)) (wd (dOp w)) 3) (vaO M.x (nB w) (dM w)),
     stX M.m M.m.length (M.c.getD 0 0) (M.c.getD 6 0) (vaO M.x (nB w) (dM w)) (M.x.getD (nA w) 0) (dOp w),E0⟩
   else ⟨exX M.x M.pc M.c (dOp w) (nA w) (nB w) (nC w) (dM w),exP M.x M.pc M.c (dOp w) (nA w) (nB w) (dM w),exC M.x M.pc M.c (dOp w) (nA w) (dM w),M.m,exE M.x (dOp w) (nA w) (dM w)⟩:=fun qH=>by
  unfold exS;rw [zN (by rw [YY];decide),yS,zN (by rw [hd];decide),zN qH,ZY]
 by_cases vG:dOp w=24
 .rw [zP vG] at h
  injection h with h
  refine key _ (wC (by omega)) ?_ ?_ ?_
  .grind [Qrb,QcV,mO,mM,mA,dOk,opM,bM]
  .grind [exC,QcV,mO,mM,mA,dOk,opM,bM]
  .grind [QAw,fnM,exX,exP,QcV,mO,mM,mA]
 rw [zN vG] at h
 by_cases h32:32<=dOp w/\dOp w<=34
 .rw [zP h32] at h
  have gX:vaM M (bM w)=vaO M.x (nB w) (dM w):=by unfold vaM vaO;rw [b3,QuR w vG (by omega)]
  rw [gX] at h;unfold mO mA mM cR at h;rw [<- QBq] at h;split at h
  .rename_i ho
   injection h with h
   have hz:=(Qeq _ _ _ _ _ _ _).2 ho;refine key _ (wC (by omega)) ?_ ?_ ?_
   .rw [zP h32];rfl
   .grind [trC,QcV,mO,mM,mA,dOk,opM,bM]
   .grind [fnM,ldX,trP,QcV,mO,mM,mA,dOk]
  .cases h
 rw [zN h32] at h
 by_cases vH:dOp w=35\/dOp w=36
 .rw [zP vH] at h
  have gX:vaM M (bM w)=vaO M.x (nB w) (dM w):=by unfold vaM vaO;rw [b3,QuR w vG (by omega)]
  rw [gX] at h;unfold mO mA mM cR at h;rw [<- QBq] at h;split at h
  .rename_i ho
   injection h with h
   have hz:=(Qeq _ _ _ _ _ _ _).2 ho;refine key _ (wC (by omega)) ?_ ?_ ?_
   .rw [zN h32,zP (by omega)];rfl
   .grind [trC,QcV,mO,mM,mA,dOk,opM,bM]
   .rw [zN h32,zP (by omega),<- h]
    unfold fnM stX trP;dsimp only;rw [hz,zP rfl,zP rfl];rfl
  .cases h
 rw [zN vH] at h;have hexc:dOp w≠56->dOp w≠57->dOp w≠59->exC M.x M.pc M.c (dOp w) (nA w) (dM w)=M.c:=fun q1 q2 q3=>by unfold exC;rw [zN q1,zN q2,zN q3]
 by_cases h40:40<=dOp w/\dOp w<=45
 .rw [zP h40] at h
  injection h with h
  refine key _ (wC (by omega)) ?_ ?_ ?_
  .grind [Qrb,QcV,mO,mM,mA,dOk,opM,bM]
  .grind
  .rw [zN h32,zN (by omega),<- h,QAW w (.inl h40)]
   have e1:exX M.x M.pc M.c (dOp w) (nA w) (nB w) (nC w) (dM w)=M.x:=Qg6;have e2:exP M.x M.pc M.c (dOp w) (nA w) (nB w) (dM w)=if Qde (dOp w) (M.x.getD (nA w) 0) (M.x.getD (nB w) 0)=true then w32 ((M.pc:Int)+w32 (4*(w32 (dM w):Nat))) else w32 ((M.pc:Int)+4):=by unfold exP;rw [zP h40]
   dsimp only;rw [e1,e2];rfl
 rw [zN h40] at h
 by_cases h48:dOp w=48
 .grind [Qrb,QAW,fnM,exX,exP,QcV,mO,mM]
 rw [zN h48] at h
 by_cases h49:dOp w=49
 .grind [Qrb,QuR,fnM,exX,exP,QcV,mO,mM]
 rw [zN h49] at h
 by_cases gZ:QbX (dOp w)=true
 .grind [dOp,QbX,Qrb,QuR,fnM,exX,exP,QcV]
 rw [zN gZ] at h;cases h
theorem QgS (o:Int):QbX o=true↔(1<=o/\o<=13\/16<=o/\o<=23):=by unfold QbX;rw [zde]
theorem Qe9 (o:Int) (h:Qd7 o≠0):o=1\/o=2\/o=3\/o=4\/o=5\/o=6\/o=7\/o=8\/o=12:=by grind [Qd7]
theorem QtH (o:Int) (h:Qd7 o≠0) (p q:Nat) (hp:p<4294967296) (hq:q<4294967296):Qbv (Qd7 o) p (if o=2 then (4294967296-q)%4294967296 else q)=Qbv o p q:=by
 rcases Qe9 o h with e|e|e|e|e|e|e|e|e<;>subst e
 .rfl
 .grind [Qhp,Qd7,Qbv]
 all_goals (rw [zN (by omega)];rfl)
theorem QwG (o:Int) (h:Qd7 o≠0):16<=Qd7 o/\Qd7 o<=23:=by
 rcases Qe9 o h with e|e|e|e|e|e|e|e|e<;>subst e<;>decide
theorem QCA (o:Int) (a b:Nat) (ha:a<4294967296) (hb:b<4294967296):QzP o a b=Qde o a b:=by
 unfold QzP Qde;rw [QbW a ha,QbW b hb]
 by_cases h0:o=40
 .rw [zP h0,zP h0,Bool.eq_iff_iff];simp;omega
 rw [zN h0,zN h0]
 by_cases h1:o=41
 .rw [zP h1,zP h1,Bool.eq_iff_iff];simp;omega
 rw [zN h1,zN h1]
 by_cases h2:o=42
 .grind
 rw [zN h2,zN h2]
 by_cases h3:o=43
 .grind
 rw [zN h3,zN h3]
 by_cases h4:o=44
 .simp_all
 rw [zN h4,zN h4,Bool.eq_iff_iff];simp
def opT (x c m:List Nat) (P:Nat) (o:Mi):Option (List Nat × Nat × List Nat) :=
 if o.o=24 then some (QaE x o.a o.k,w32 ((P:Nat)+4),m)
 else if 32<=o.o/\o.o<=34 then
  (if rsO m m.length (c.getD 0 0) (c.getD 6 0) (w32 ((x.getD o.b 0:Nat)+(o.k:Nat))) (szO o.o) 2=true then some (QaE x o.a (ldV o.o (rsM m m.length (c.getD 0 0) (c.getD 6 0) (w32 ((x.getD o.b 0:Nat)+(o.k:Nat))) (szO o.o) 2) (rsA m m.length (c.getD 0 0) (c.getD 6 0) (w32 ((x.getD o.b 0:Nat)+(o.k:Nat))) (szO o.o) 2)),w32 ((P:Nat)+4),rsM m m.length (c.getD 0 0) (c.getD 6 0) (w32 ((x.getD o.b 0:Nat)+(o.k:Nat))) (szO o.o) 2) else none)
 else if o.o=35\/o.o=36 then
  (if rsO m m.length (c.getD 0 0) (c.getD 6 0) (w32 ((x.getD o.b 0:Nat)+(o.k:Nat))) (szO o.o) 3=true then some (x,w32 ((P:Nat)+4),stM o.o (rsM m m.length (c.getD 0 0) (c.getD 6 0) (w32 ((x.getD o.b 0:Nat)+(o.k:Nat))) (szO o.o) 3) (rsA m m.length (c.getD 0 0) (c.getD 6 0) (w32 ((x.getD o.b 0:Nat)+(o.k:Nat))) (szO o.o) 3) (x.getD o.a 0)) else none)
 else if 40<=o.o/\o.o<=45 then
  some (x,(if Qde o.o (x.getD o.a 0) (x.getD o.b 0)=true then w32 ((P:Nat)+(o.k:Nat)) else w32 ((P:Nat)+4)),m)
 else if o.o=48 then some (QaE x o.a (w32 ((P:Nat)+4)),w32 ((P:Nat)+(o.k:Nat)),m)
 else if o.o=49 then some (QaE x o.a (w32 ((P:Nat)+4)),w32 ((x.getD o.b 0:Nat)+(o.k:Nat)),m)
 else if QbX o.o=true then some (QaE x o.a (Qbv o.o (x.getD o.b 0) (if o.o<=13 then x.getD o.c 0 else o.k)),w32 ((P:Nat)+4),m)
 else none
def pvT (M:Mc) (r:List Nat × Nat × List Nat):Mc:= { M with x:=r.1,pc:=r.2.1,m:=r.2.2 }
theorem QAY (x:List Nat) (v:Nat):QaE x 0 v=x:=zP rfl
theorem QBA (M:Mc) (o:Mi):opM M o=(opT M.x M.c M.m (lpc M.pc o.n) o).map (pvT M):=by
 unfold opM opT
 repeat' split
 all_goals first|rfl|contradiction
theorem QAC {x c m:List Nat} {P:Nat} {o:Mi} {r:List Nat × Nat × List Nat} (h:opT x c m P o=some r):∃ v,r.1=QaE x (if Qk7 o.o=true then o.a else 0) v/\(o.o=24->v=o.k):=by
 unfold opT at h;have hT:(Qk7 o.o=true)->∀ v,r.1=QaE x o.a v->(o.o=24->v=o.k)->∃ v,r.1=QaE x (if Qk7 o.o=true then o.a else 0) v/\(o.o=24->v=o.k):=fun hb v h1 h2=>⟨v,by rw [zP hb];exact h1,h2⟩
 have hF:(Qk7 o.o=false)->o.o≠24->r.1=x->∃ v,r.1=QaE x (if Qk7 o.o=true then o.a else 0) v/\(o.o=24->v=o.k):=fun hb h2 h1=>⟨0,by rw [hb,zN (by decide)];exact h1,fun h=>absurd h h2⟩
 have hW:Qk7 o.o=(decide (o.o=24\/32<=o.o/\o.o<=34\/o.o=48\/o.o=49\/o.o=58\/o.o=60)||QbX o.o):=rfl;have hA:QbX o.o=decide (1<=o.o/\o.o<=13\/16<=o.o/\o.o<=23):=rfl
 by_cases vG:o.o=24
 .grind
 rw [zN vG] at h
 by_cases h32:32<=o.o/\o.o<=34
 .grind
 rw [zN h32] at h
 by_cases vH:o.o=35\/o.o=36
 .grind
 rw [zN vH] at h
 by_cases h40:40<=o.o/\o.o<=45
 .grind
 rw [zN h40] at h
 by_cases h48:o.o=48
 .grind
 rw [zN h48] at h
 by_cases h49:o.o=49
 .grind
 rw [zN h49] at h
 by_cases gZ:QbX o.o=true
 .grind
 rw [zN gZ] at h;cases h
theorem QDW {x c m:List Nat} {P:Nat} {o:Mi} {r:List Nat × Nat × List Nat} (h:opT x c m P o=some r) (he:Qcq o.o=false):r.2.1=w32 ((P:Nat)+4):=by grind [opT,QbX,Qcq,w32]
def QkP (is:List Bool) (v x:List Nat):Prop:=∀ r,r<16->is.getD r false=true->x.getD r 0=v.getD r 0
theorem QeQ {α:Type} (l:List α) (i j:Nat) (x d:α) (h:i<l.length):(l.set i x).getD j d=if j=i then x else l.getD j d:=by grind
theorem Qjb {is:List Bool} {v x c m:List Nat} {P:Nat} {o:Mi} {r:List Nat × Nat × List Nat} (hi:is.length=16) (hv:v.length=16) (hx:x.length=16) (ha:o.a<16) (hc:QkP is v x) (h:opT x c m P o=some r):QkP (Qfy o.o o.a is) (Qfh o.o o.a o.k v) r.1:=by grind [QAC,Qfy,Qfh,Qk7,QAY,QaE,QeQ,QkP,opT]
theorem QCa (x c m:List Nat) (P:Nat) (o:Mi) (is:List Bool) (v:List Nat) (hok:Qbt o) (hx:∀ y∈x,y<4294967296) (h0:x.getD 0 0=0) (hc:QkP is v x):opT x c m P (Qa9 o is v)=opT x c m P o:=by
 have g:=Qgr hx;have gb:=g o.b;have gc:=g o.c;have ga:=g o.a;unfold Qa9
 by_cases hm:32<=o.o/\o.o<=36
 .rw [zP hm]
  split
  .rename_i hk
   have hb:=hc o.b hok.2.1 hk.1
   have gX:w32 ((x.getD 0 0:Nat)+(((o.k+v.getD o.b 0)%4294967296:Nat):Int))=w32 ((x.getD o.b 0:Nat)+(o.k:Nat)):=by
    rw [h0,hb];unfold w32;omega
   unfold opT;dsimp only;rw [gX]
   by_cases h34:o.o<=34
   .grind
   .grind
  .rfl
 rw [zN hm]
 by_cases hbr:40<=o.o/\o.o<=45
 .rw [zP hbr]
  split
  .rename_i hk
   have e1:=hc o.a hok.1 hk.1;have e2:=hc o.b hok.2.1 hk.2;rw [<- e1,<- e2,QCA _ _ _ ga gb];have hL:∀ k,opT x c m P ⟨48,0,0,0,k,o.n⟩=some (x,w32 ((P:Nat)+(k:Nat)),m):=fun k=>rfl
   have hR:opT x c m P o=some (x,(if Qde o.o (x.getD o.a 0) (x.getD o.b 0)=true then w32 ((P:Nat)+(o.k:Nat)) else w32 ((P:Nat)+4)),m):=by
    unfold opT;rw [zN (show ¬ o.o=24 by omega),zN (show ¬ (32<=o.o/\o.o<=34) by omega),zN (show ¬ (o.o=35\/o.o=36) by omega),zP hbr]
   rw [hL,hR];cases Qde o.o (x.getD o.a 0) (x.getD o.b 0)<;>rfl
  .rfl
 rw [zN hbr]
 by_cases gZ:QbX o.o=false
 .grind
 rw [zN gZ];have gZ:QbX o.o=true:=by cases h:QbX o.o with|true=>rfl|false=>exact absurd h gZ
 have vQ:=(QgS _).1 gZ
 have hR:opT x c m P o=some (QaE x o.a (Qbv o.o (x.getD o.b 0) (if o.o<=13 then x.getD o.c 0 else o.k)),w32 ((P:Nat)+4),m):=by
  unfold opT;rw [zN (by omega),zN (by omega),zN (by omega),zN (by omega),zN (by omega),zN (by omega),zP gZ]
 have ht:(Qkc o.o=true)=(o.o<=13):=by unfold Qkc;rw [zde];exact propext ⟨fun h=>h.2,fun h=>⟨by omega,h⟩⟩
 split
 .rename_i hk
  rw [hR];have e1:=hc o.b hok.2.1 hk.1;have hL:∀ k,opT x c m P ⟨24,o.a,0,0,k,o.n⟩=some (QaE x o.a k,w32 ((P:Nat)+4),m):=fun k=>rfl
  show opT x c m P ⟨24,o.a,0,0,_,o.n⟩=_;rw [hL,<- e1]
  by_cases h3:o.o<=13
  .simp_all [Qkc,Qbt,h0,QkP,opT,Qa9]
  .grind
 .split
  .rename_i hi
   have zR:=QwG o.o hi.1;have h3:o.o<=13:=by have:=Qe9 o.o hi.1;omega
   rw [hR,zP h3];have e1:=hc o.c hok.2.2.1 hi.2;rw [<- e1]
   have hL:∀ k,opT x c m P ⟨Qd7 o.o,o.a,o.b,0,k,o.n⟩=some (QaE x o.a (Qbv (Qd7 o.o) (x.getD o.b 0) k),w32 ((P:Nat)+4),m):=fun k=>by
    unfold opT;dsimp only;rw [zN (by omega),zN (by omega),zN (by omega),zN (by omega),zN (by omega),zN (by omega),zP ((QgS _).2 (.inr zR)),zN (show ¬ Qd7 o.o<=13 by omega)]
   show opT x c m P ⟨Qd7 o.o,o.a,o.b,0,_,o.n⟩=_;rw [hL,QtH o.o hi.1 _ _ gb gc]
  .rfl
structure Ftc (M:Mc) (pc q:Nat):Prop where
 (o:mO M pc 4 1=true) (a:mA M pc 4 1=4*q) (k:mM M pc 4 1=M.m)
theorem Qiu {M:Mc} {pc q:Nat} (hn:mpg M.m.length*32=M.m.length) (hp:pc<4294967296) (h:Ftc M pc q) (hq:q%32<31) (gI:M.m.length<=1000000):Ftc M (pc+4) (q+1)/\pc+4<4294967296:=by
 obtain ⟨o,a,k⟩:=h;unfold mO at o;unfold mA rsA at a;rw [zP o] at a;unfold mM rsM at k;have o0:=o;unfold rsO at o;simp only [zba,zde] at o;obtain ⟨⟨⟨o1,o2⟩,_⟩,o4⟩:=o;have h4:pc%4=0:=by omega
 have h4':((pc+4:Nat):Int)%((4:Nat):Int)=0:=by omega
 by_cases qF:Qdc (M.c.getD 0 0)=true
 .rw [zP qF] at o4 a
  rw [zP ⟨o0,qF⟩] at k;have e1:(pc+4) / 128=pc / 128:=by omega
  have hW:QaT M.m (cR M) (pc+4)=QaT M.m (cR M) pc:=by unfold QaT;rw [e1]
  have hE:Qba (cR M) (pc+4)=Qba (cR M) pc:=by unfold Qba;rw [e1]
  have o5:=o4;unfold Qbp at o4;simp only [zba,zde] at o4;have gT:=o4.1.1.1.2
  have o6:Qbp M.m M.m.length (cR M) (pc+4) 1=true:=by
   unfold Qbp at o5 |-;rw [hW];simp only [zba,zde] at o5 |-;exact ⟨⟨⟨⟨o5.1.1.1.1,by omega⟩,o5.1.1.2⟩,o5.1.2⟩,o5.2⟩
  have o7:rsO M.m M.m.length (M.c.getD 0 0) (cR M) (pc+4) ((4:Nat):Int) 1=true:=by
   unfold rsO;rw [o1,o2,zdt h4',zP qF,o6];rfl
  refine ⟨⟨o7,?_,?_⟩,by omega⟩
  .unfold mA rsA
   rw [zP o7,zP qF,hW];omega
  .unfold mM rsM
   rw [zP ⟨o7,qF⟩,hE];exact k
 .rw [zN qF] at o4 a
  unfold acB at o4;rw [zP (by omega)] at o4
  have h5:(pc+4)<4*M.m.length:=by
   unfold ld4 at o4;simp only [zba,zde] at o4;omega
  have o6:ld4 M.m.length (pc+4)=true:=by
   unfold ld4;simp only [zba,zde];omega
  have o7:rsO M.m M.m.length (M.c.getD 0 0) (cR M) (pc+4) ((4:Nat):Int) 1=true:=by
   unfold rsO acB;rw [o1,o2,zdt h4',zN qF,zP (by omega),o6];rfl
  refine ⟨⟨o7,?_,?_⟩,by omega⟩
  .unfold mA rsA
   rw [zP o7,zN qF];omega
  .unfold mM rsM
   rw [zN (fun h=>qF h.2)]
theorem or8 (p:Nat):(p ||| 8) ||| 8=p ||| 8:=by rw [Nat.or_assoc];rfl
theorem QqX (p:Nat) (ac:Int):QbK (QbK p ac) 1=QbK p ac:=by grind [QbK,or8]
theorem QFp (p k b:Nat) (h:k &&& b=0):(p ||| k) &&& b=p &&& b:=by grind
theorem QvI (p:Nat) (ac a:Int):pmW (QbK p ac) a=pmW p a:=by grind [pmW,QbK,QFp]
theorem Qsk (l:List Nat) (j:Nat):l.set j (l.getD j 0)=l:=by
 apply List.ext_getElem?;intro i;rw [List.getElem?_set];split
 .grind
 .rfl
theorem Qza {M:Mc} {pc q:Nat} {m1:List Nat} (hn:mpg M.m.length*32=M.m.length) (hl:m1.length=M.m.length) (hp:∀ j,j / 32=cR M->QEb (M.m.getD j 0) (m1.getD j 0)) (h:Ftc M pc q):Ftc { M with m:=m1 } pc q:=by
 obtain ⟨o,a,k⟩:=h;unfold mO at o;unfold mA rsA at a;rw [zP o] at a;unfold mM rsM at k;have o0:=o;unfold rsO at o;simp only [zba,zde] at o;obtain ⟨⟨⟨o1,o2⟩,o3⟩,o4⟩:=o
 by_cases qF:Qdc (M.c.getD 0 0)=true
 .rw [zP qF] at o4 a
  rw [zP ⟨o0,qF⟩] at k;unfold Qbp at o4;simp only [zba,zde] at o4;obtain ⟨⟨⟨⟨_,w2⟩,w3⟩,w4⟩,w5⟩:=o4;have hj:=hp (cR M*32+pc / 128) (by omega);have yH:cR M*32+pc / 128<M.m.length:=by omega
  have e4:Qba (cR M) pc / 4=cR M*32+pc / 128:=by unfold Qba;omega
  rw [e4] at k;have kt:QbK (M.m.getD (cR M*32+pc / 128) 0) 1=M.m.getD (cR M*32+pc / 128) 0:=by grind
  have hq:pmW (m1.getD (cR M*32+pc / 128) 0) 1=pmW (M.m.getD (cR M*32+pc / 128) 0) 1/\frW (m1.getD (cR M*32+pc / 128) 0)=frW (M.m.getD (cR M*32+pc / 128) 0)/\QbK (m1.getD (cR M*32+pc / 128) 0) 1=m1.getD (cR M*32+pc / 128) 0:=by
   rcases hj with hj|⟨ac,hj⟩
   .grind
   .rw [hj];exact ⟨QvI _ _ _,QhI _ _,QqX _ _⟩
  obtain ⟨q1,q2,q3⟩:=hq
  have o7:rsO m1 m1.length (M.c.getD 0 0) (cR M) pc ((4:Nat):Int) 1=true:=by
   unfold rsO Qbp QaT;rw [o1,o2,zdt o3,zP qF,q1,q2,hl,zdt w2,zdt w3];unfold QaT at w4 w5;rw [w4,zdt w5];rfl
  refine ⟨o7,?_,?_⟩
  .show rsA m1 m1.length (M.c.getD 0 0) (cR M) pc ((4:Nat):Int) 1=_
   unfold rsA;rw [zP o7,zP qF];unfold QaT at a |-;rw [q2];exact a
  .show rsM m1 m1.length (M.c.getD 0 0) (cR M) pc ((4:Nat):Int) 1=m1
   unfold rsM;rw [zP ⟨o7,qF⟩,e4,q3];exact Qsk _ _
 .rw [zN qF] at o4 a
  have o7:rsO m1 m1.length (M.c.getD 0 0) (cR M) pc ((4:Nat):Int) 1=true:=by
   unfold rsO;rw [o1,o2,zdt o3,zN qF,hl,o4];rfl
  refine ⟨o7,?_,?_⟩
  .show rsA m1 m1.length (M.c.getD 0 0) (cR M) pc ((4:Nat):Int) 1=_
   unfold rsA;rw [zP o7,zN qF];exact a
  .show rsM m1 m1.length (M.c.getD 0 0) (cR M) pc ((4:Nat):Int) 1=m1
   unfold rsM;rw [zN (fun h=>qF h.2)]
def QgX:Nat->Mc->Mc->Prop
 | 0,M,M'=>M=M'
 | k+1,M,M'=>∃ M1,Qcv M=false/\QfC M=false/\Qbh M 0=(M1,none)/\QgX k M1 M'
theorem QdF:∀ {k:Nat} {j:Nat} {M M1 M2:Mc},QgX k M M1->QgX j M1 M2->QgX (k+j) M M2
 | 0,j,M,M1,M2,h,g=>by
  have h:M=M1:=h;subst h;rw [Nat.zero_add];exact g
 | k+1,j,M,M1,M2,h,g=>by
  obtain ⟨N,h1,h2,h3,h4⟩:=h;rw [show k+1+j=(k+j)+1 by omega];exact ⟨N,h1,h2,h3,QdF h4 g⟩
theorem QsV {M M1:Mc} (h1:Qcv M=false) (h2:QfC M=false) (h3:Qbh M 0=(M1,none)):QgX 1 M M1:=⟨M1,h1,h2,h3,rfl⟩
theorem QrQ (M:Mc) (x m:List Nat) (pc ct:Nat) (h:QbQ M=true) (hx:x.getD 0 0=0) (hl:m.length=M.m.length) (hc:ct<=1152921504606846976):QbQ { M with x:=x,pc:=pc,m:=m,ct:=ct }=true:=by
 unfold QbQ at h |-;rw [zde] at h |-;obtain ⟨h1,_,h3,h4,h5,h6,h7,h8,h9,jW,yR,_,YD⟩:=h;dsimp only;rw [hl];exact ⟨h1,hx,h3,h4,h5,h6,h7,h8,h9,jW,yR,hc,YD⟩
theorem Qr2 (x:List Nat) (a v:Nat) (h:x.getD 0 0=0):(QaE x a v).getD 0 0=0:=by grind [QaE,QeD]
theorem QFG {M:Mc} (h1:QbQ M=true) (h2:M.ht=false) (h3:M.wt=false) (h4:M.ct<1152921504606846976):Qcv M=false:=by grind [Qcv,QkV,QbQ]
theorem QC0 (x c m:List Nat) (P:Nat) (o:Mi) (h:o.o=60):opT x c m P o=none:=by grind [opT,QbX]
theorem QFE {M:Mc} (hM:M.ok) (h1:QbQ M=true) (h2:M.ht=false) (h3:M.wt=false) (h4:M.ct<1152921504606846976) (hi:QcV M=false) {q w:Nat} (F:Ftc M M.pc q) (hw:M.m.getD q 0=w) (hd:dOk w=true) {r:List Nat × Nat × List Nat} (h:opT M.x M.c M.m M.pc (bM w)=some r) :
  Qcv M=false/\QfC M=false/\Qbh M 0=(Qdb (pvT M r),none):=by
 obtain ⟨o,a,k⟩:=F;refine ⟨QFG h1 h2 h3 h4,?_,?_⟩
 .unfold QfC
  have:QmB M=false:=by
   unfold QmB QnZ;have hC:Qda M=M.c:=by unfold Qda;rw [hi,zN (by decide)]
   have hP:Qdd M=M.pc:=by unfold Qdd;rw [hi,zN (by decide)]
   rw [hC,hP]
   by_cases hk:M.c.getD 0 0%2=1
   .grind [Qdc,mO,mA,rsA,dOp,QC0,bM,QbQ]
   .grind
  rw [this,Bool.and_false]
 .refine QC1 M hM hi h3 o k w (by rw [a,show 4*q / 4=q by omega];exact hw) hd _ ?_
  rw [QBA,(QHA w hd).2.2.2.2,QID M.pc hM.pr,h];rfl
theorem QCM (m:Mi) (l:List Mi) (lim d:Nat) (E:Eg):QfD (m::l) lim d E=if lim-d<m.n.toNat then (E,d) else if (exO E m).2=false then (E,d) else if (exO E m).1.s=true then (ctE m.n.toNat (exO E m).1,d+m.n.toNat) else QfD l lim (d+m.n.toNat) (ctE m.n.toNat (exO E m).1):=rfl
def Qn8 (M:Mc) (x:List Nat) (p:Nat):Mc:= { M with x:=x,pc:=M.pc+4*p,ct:=M.ct+p }
structure Bs (X:List Nat) (f q p:Nat) (x:List Nat) (E:Eg):Prop where
 (ok:E.ok) (coh:Coh E) (s:E.s=false) (fr:E.f=f) (may:QbQ E.M=true) (ht:E.M.ht=false) (wt:E.M.wt=false) (int:QcV E.M=false)
 (wd:∀ j,j / 32=f->E.M.m.getD j 0=X.getD j 0) (pc:E.M.pc+4*p<4294967296) (ft:Ftc E.M (E.M.pc+4*p) q)
 (x16:x.length=16) (xr:∀ y∈x,y<4294967296) (x0:x.getD 0 0=0)
structure Dn (lim d:Nat) (E:Eg) (R:Eg × Nat):Prop where
 (le:d<=R.2) (li:R.2<=lim) (run:QgX (R.2-d) E.M R.1.M) (ok:R.1.ok) (coh:Coh R.1) (o:R.1.o=E.o)
theorem Qpn {lim d:Nat} {E:Eg} (h:d<=lim) (hE:E.ok) (hC:Coh E):Dn lim d E (E,d):=⟨Nat.le_refl _,h,by show QgX (d-d) _ _;rw [Nat.sub_self];rfl,hE,hC,rfl⟩
theorem QrS {X:List Nat} {f q p:Nat} {x:List Nat} {E:Eg} (h:Bs X f q p x E) (hq:q / 32=f) (qQ:E.M.ct+p<1152921504606846976) (hd:dOk (X.getD q 0)=true) {r:List Nat × Nat × List Nat} (hr:opT x E.M.c E.M.m (E.M.pc+4*p) (bM (X.getD q 0))=some r) :
  QgX 1 (Qn8 E.M x p) { E.M with x:=r.1,pc:=r.2.1,m:=r.2.2,ct:=E.M.ct+p+1 }:=by
 have hok:(Qn8 E.M x p).ok:=by
  obtain ⟨_,a2,_,a4,_,a6,a7,a8,a9,b1,b2,b3,_,b5⟩:=h.ok.M;exact ⟨h.x16,a2,h.xr,a4,h.pc,a6,a7,a8,a9,b1,b2,b3,by show E.M.ct+p<_;omega,b5⟩
 have fK:QbQ (Qn8 E.M x p)=true:=QrQ E.M x E.M.m _ _ h.may h.x0 rfl (by omega);obtain ⟨g1,g2,g3⟩:=QFE (M:=Qn8 E.M x p) hok fK h.ht h.wt qQ h.int (q:=q) (w:=X.getD q 0) ⟨h.ft.o,h.ft.a,h.ft.k⟩ (h.wd q hq) hd hr;refine QsV g1 g2 ?_;rw [g3];unfold Qdb pvT Qn8;dsimp only;rw [Nat.mod_eq_of_lt (show E.M.ct+p+1<18446744073709551616 by omega)]
theorem Ql0 (x:List Nat) (a u v:Nat):QaE (QaE x a u) a v=QaE x a v:=by grind [QaE,List.set_set]
theorem QuY {x c m:List Nat} {P:Nat} {o:Mi} (h:o.o=24):opT x c m P o=some (QaE x o.a o.k,w32 ((P:Nat)+4),m):=by
 unfold opT;rw [zP h]
theorem QzO {X:List Nat} {f q p n:Nat} {x:List Nat} {E E1:Eg} (h:Bs X f q p x E) (hq:q / 32=f) (GT:q%32<31) (hK:Keep E E1) (hs:E1.s=false) {r:List Nat × Nat × List Nat} (hM:E1.M=pvT E.M r) (gQ:r.2.1=E.M.pc+4*p+4) (hr0:r.1.getD 0 0=0) (qQ:(E1.M.ct+n)<=1152921504606846976) :
  Bs X f (q+1) 0 r.1 (ctE n E1):=by
 obtain ⟨k1,k2,k3⟩:=hK.s0 hs;have gI:=h.ok.M.ml;obtain ⟨F,_⟩:=Qiu h.coh.n h.pc h.ft GT (by omega);have hm:E1.M.m=r.2.2:=by rw [hM];rfl
 have hl:r.2.2.length=E.M.m.length:=by rw [<- hm];exact hK.l
 have F2:=Qza (m1:=r.2.2) h.coh.n hl (by rw [<- hm];exact k3) F;have hX:E1.M.x=r.1:=by rw [hM];rfl
 have hP:E1.M.pc=r.2.1:=by rw [hM];rfl
 have hC:E1.M.ct=E.M.ct:=by rw [hM];rfl
 refine ⟨Qht hK.ok n,Qgl hK.coh n,hs,hK.f.trans h.fr,?_,?_,?_,?_,fun j hj=>?_,?_,?_,?_,?_,hr0⟩
 .show QbQ { E1.M with ct:=(E1.M.ct+n)%18446744073709551616 }=true
  rw [Nat.mod_eq_of_lt (by omega),hC,hM];exact QrQ E.M r.1 r.2.2 r.2.1 _ h.may hr0 hl (by omega)
 .show E1.M.ht=false;rw [hM];exact h.ht
 .show E1.M.wt=false;rw [hM];exact h.wt
 .show QcV { E1.M with ct:=_ }=false
  rw [hM];exact h.int
 .show E1.M.m.getD j 0=_
  rw [k2 j (by rw [h.fr];exact hj)];exact h.wd j hj
 .grind [pvT,ctE]
 .have e:Ftc (ctE n E1).M (E.M.pc+4*p+4) (q+1):=by
   have e2:∀ N:Mc,N.c=E.M.c->N.m=r.2.2->Ftc N (E.M.pc+4*p+4) (q+1):=fun N n1 n2=>by
    obtain ⟨f1,f2,f3⟩:=F2;unfold mO at f1;unfold mA at f2;unfold mM at f3;refine ⟨?_,?_,?_⟩
    .grind [mO,cR,pvT,ctE]
    .grind [mA,cR,pvT,ctE]
    .grind [mM,cR,pvT,ctE]
   exact e2 _ hK.c hm
  show Ftc _ ((ctE n E1).M.pc+4*0) _;rw [show (ctE n E1).M.pc+4*0=E.M.pc+4*p+4 by show E1.M.pc+4*0=_;rw [hP,gQ]];exact e
 .show r.1.length=16
  rw [<- hX];exact hK.ok.M.x
 .rw [<- hX];exact hK.ok.M.xr
theorem QI2 (pc p:Nat) (h:pc+4*p<4294967296):lpc pc ((1:Int)+(p:Int))=pc+4*p:=by
 unfold lpc w32;omega
theorem Qut (m:Mi) (l:List Mi) (is:List Bool) (v:List Nat):rwL (m::l) is v=Qa9 m is v::rwL l (Qfy (Qa9 m is v).o (Qa9 m is v).a is) (Qfh (Qa9 m is v).o (Qa9 m is v).a (Qa9 m is v).k v):=rfl
theorem QzC (X:List Nat) (hXr:∀ y∈X,y<4294967296) (f lim:Nat):∀ (cnt q:Nat) (is:List Bool) (v:List Nat) (p d:Nat) (E:Eg) (x:List Nat),
  is.length=16->v.length=16->(∀ y∈v,y<4294967296)->q / 32=f->q%32+cnt<=32->bl X cnt q≠ []->Bs X f q p x E->d<=lim->E.M.ct+(lim-d)<=1152921504606846976->QkP is v x ->
  (x=E.M.x\/∃ m l z,rwL (bl X cnt q) is v=m::l/\m.o=24/\x=QaE E.M.x m.a z)->(p<=lim-d->QgX p E.M (Qn8 E.M x p)) ->
  Dn lim d E (QfD (mrg (rwL (bl X cnt q) is v) p) lim d E):=by
 intro cnt
 induction cnt with
 | zero=>intro q is v p d E x _ _ _ _ _ h;exact absurd rfl h
 | succ cnt ih =>
  intro q is v p d E x YU hv jA hq GT fQ hB zT qQ JY hx gW;have KZ:bl X (cnt+1) q=if dOk (X.getD q 0)=true then (if Qcq (dOp (X.getD q 0))=true then [bM (X.getD q 0)] else bM (X.getD q 0)::bl X cnt (q+1)) else []:=rfl
  have hd:dOk (X.getD q 0)=true:=by grind
  rw [zP hd] at KZ;obtain ⟨T,hT,hTe⟩:∃ T,bl X (cnt+1) q=bM (X.getD q 0)::T/\(T≠ []->Qcq (dOp (X.getD q 0))=false/\T=bl X cnt (q+1)):=by grind
  clear KZ;rw [hT] at hx |-;rw [Qut] at hx |-;have wN:X.getD q 0<4294967296:=Qab hXr q;have qD:Qbt (bM (X.getD q 0)):=by grind [QxD,Qab,bM,List.mem_cons_self,bl,QkP,rwL,QaE]
  obtain ⟨m,hm⟩:∃ m,Qa9 (bM (X.getD q 0)) is v=m:=⟨_,rfl⟩;have hok1:=Qh5 (bM (X.getD q 0)) is v jA qD;have zY:m.n=1:=by rw [<- hm,Qvz];exact (QHA _ hd).2.2.2.2
  have KQ:=fun c mm P=>QCa x c mm P (bM (X.getD q 0)) is v qD hB.xr hB.x0 JY
  rw [hm] at hok1 hx KQ |-;have gZ:=Qrj m.o m.a m.k is v;have vQ:=Qit m.o m.a m.k v hok1.2.2.2.1 jA
  have emit:∀ (rest:List Mi),(rest= []\/T≠ []/\rest=mrg (rwL T (Qfy m.o m.a is) (Qfh m.o m.a m.k v)) 0)->Dn lim d E (QfD ({ m with n:=m.n+(p:Int) }::rest) lim d E):=fun rest jE=>by
   obtain ⟨e,he⟩:∃ e:Mi,e= { m with n:=m.n+(p:Int) }:=⟨_,rfl⟩;rw [<- he,QCM];have yI:e.n=1+(p:Int):=by rw [he,<- zY]
   have hen2:e.n.toNat=p+1:=by rw [yI];omega
   have heok:Qbt e:=by rw [he];exact ⟨hok1.1,hok1.2.1,hok1.2.2.1,hok1.2.2.2.1⟩
   rw [hen2]
   by_cases hl:lim-d<p+1
   .rw [zP hl];exact Qpn zT hB.ok hB.coh
   rw [zN hl];obtain ⟨hF,hTr⟩:=Qpu E hB.ok hB.coh e heok
   cases jN:(exO E e).2 with
   | false=>rw [zP rfl];exact Qpn zT hB.ok hB.coh
   | true =>
    rw [zN (fun h=>by cases h)];obtain ⟨uM,hK⟩:=hTr jN;generalize (exO E e).1=E1 at *;clear hF hTr jN;rw [QBA,yI,QI2 _ _ hB.pc] at uM;have hen3:opT E.M.x E.M.c E.M.m (E.M.pc+4*p) e=opT E.M.x E.M.c E.M.m (E.M.pc+4*p) m:=by rw [he];rfl
    rw [hen3] at uM;obtain ⟨r,hr,hMr⟩:∃ r,opT E.M.x E.M.c E.M.m (E.M.pc+4*p) m=some r/\pvT E.M r=E1.M:=by simp_all
    have yZ:opT x E.M.c E.M.m (E.M.pc+4*p) m=some r:=by grind [QuY,Ql0,bl,QkP,rwL,QaE,QgX,Qn8]
    have hr2:=yZ;rw [KQ] at hr2;have zW:=QdF (gW (by omega)) (QrS hB hq (by omega) hd hr2);have hctM:E1.M.ct=E.M.ct:=by rw [<- hMr];rfl
    have vP:({ E.M with x:=r.1,pc:=r.2.1,m:=r.2.2,ct:=E.M.ct+p+1 }:Mc)=(ctE (p+1) E1).M:=by
     show _= { E1.M with ct:=(E1.M.ct+(p+1))%18446744073709551616 };rw [Nat.mod_eq_of_lt (by omega),<- hMr];rfl
    rw [vP] at zW
    cases hs:E1.s with
    | true =>
     rw [zP rfl];exact ⟨by show d<=d+(p+1);omega,by show d+(p+1)<=lim;omega,by show QgX (d+(p+1)-d) _ _;rw [show d+(p+1)-d=p+1 by omega];exact zW,Qht hK.ok _,Qgl hK.coh _,hK.o⟩
    | false =>
     rw [zN (fun h=>by cases h)];rcases jE with jE|⟨wJ,jE⟩
     .subst jE
      exact ⟨by show d<=d+(p+1);omega,by show d+(p+1)<=lim;omega,by show QgX (d+(p+1)-d) _ _;rw [show d+(p+1)-d=p+1 by omega];exact zW,Qht hK.ok _,Qgl hK.coh _,hK.o⟩
     .subst jE
      obtain ⟨hend,yV⟩:=hTe wJ;have hcnt:0<cnt:=by grind [bl,QkP,rwL,QaE,QgX,Qn8,QfD,mrg]
      have hpc4:=(Qiu hB.coh.n hB.pc hB.ft (by omega) (by have:=hB.ok.M.ml;omega)).2
      have hpc1:r.2.1=E.M.pc+4*p+4:=by
       have h1:=QDW hr2 hend;rw [h1];unfold w32;omega
      obtain ⟨z,hz,_⟩:=QAC yZ;have hr0:r.1.getD 0 0=0:=by rw [hz];exact Qr2 _ _ _ hB.x0
      have hB':=QzO (n:=p+1) hB hq (by omega) hK hs hMr.symm hpc1 hr0 (by rw [hctM];omega);have HT:=Qjb YU hv hB.x16 hok1.1 JY yZ;have hEx:(ctE (p+1) E1).M.x=r.1:=by show E1.M.x=_;rw [<- hMr];rfl
      have hEc:(ctE (p+1) E1).M.ct=E.M.ct+(p+1):=by grind
      have hD:=ih (q+1) (Qfy m.o m.a is) (Qfh m.o m.a m.k v) 0 (d+(p+1)) (ctE (p+1) E1) r.1 (by rw [gZ.1,YU]) (by rw [gZ.2,hv]) vQ (by omega) (by omega) (by rw [<- yV];exact wJ) hB' (by omega) (by rw [hEc];omega) HT (.inl hEx.symm) (fun _=>by grind [ctE,Qn8,bl,QkP,rwL,QaE,QgX,QfD]);rw [<- yV,show ((0:Nat):Int)=0 from rfl] at hD;generalize QfD (mrg (rwL T (Qfy m.o m.a is) (Qfh m.o m.a m.k v)) 0) lim (d+(p+1)) (ctE (p+1) E1)=R at *;obtain ⟨u1,u2,u3,u4,u5,u6⟩:=hD;refine ⟨by omega,u2,?_,u4,u5,u6.trans hK.o⟩;have:=QdF zW u3;rw [show p+1+(R.2-(d+(p+1)))=R.2-d by omega] at this;exact this
  cases hTc:rwL T (Qfy m.o m.a is) (Qfh m.o m.a m.k v) with
  | nil=>grind [QfD,bl,QkP,rwL,QaE,QgX,Qn8,mrg]
  | cons m2 l =>
   have wJ:T≠ []:=fun h=>by rw [h] at hTc;cases hTc
   show Dn lim d E (QfD (if Qsy m m2=true then mrg (m2::l) (m.n+(p:Int)) else { m with n:=m.n+(p:Int) }::mrg (m2::l) 0) lim d E)
   by_cases hu:Qsy m m2=true
   case neg=>grind
   rw [zP hu,zY,show (1:Int)+(p:Int)=((p+1:Nat):Int) by omega,<- hTc];obtain ⟨hend,yV⟩:=hTe wJ;have hcnt:0<cnt:=by grind [bl,QkP,rwL,QaE,QgX,Qn8,QfD,mrg]
   obtain ⟨hF4,hpc4⟩:=Qiu hB.coh.n hB.pc hB.ft (by omega) (by have:=hB.ok.M.ml;omega)
   obtain ⟨val,yZ,vG,hval⟩:∃ val,opT x E.M.c E.M.m (E.M.pc+4*p) m=some (QaE x m.a val,w32 (((E.M.pc+4*p:Nat):Int)+4),E.M.m)/\(m.o=24\/m.a=0)/\val<4294967296:=by
    unfold Qsy at hu
    by_cases vG:m.o=24
    .exact ⟨m.k,QuY vG,.inl vG,hok1.2.2.2.1⟩
    .rw [zN vG,zba,zde] at hu
     have har2:=(QgS _).1 hu.2;refine ⟨Qbv m.o (x.getD m.b 0) (if m.o<=13 then x.getD m.c 0 else m.k),?_,.inr hu.1,?_⟩
     .grind [opT,bl,QkP,rwL,QaE,QgX,Qn8,QfD]
     .refine Qc2 _ _ _ (Qab hB.xr _) ?_
      split
      .exact Qab hB.xr _
      .grind
   have hr2:=yZ;rw [KQ] at hr2;have hw32:w32 (((E.M.pc+4*p:Nat):Int)+4)=E.M.pc+4*(p+1):=by unfold w32;omega
   have HT:=Qjb YU hv hB.x16 hok1.1 JY yZ;have fC:=QkR hB.x16 hB.xr m.a val hval;have hB':Bs X f (q+1) (p+1) (QaE x m.a val) E:=⟨hB.ok,hB.coh,hB.s,hB.fr,hB.may,hB.ht,hB.wt,hB.int,hB.wd,by omega,by rw [show E.M.pc+4*(p+1)=E.M.pc+4*p+4 by omega];exact hF4,fC.1,fC.2,Qr2 _ _ _ hB.x0⟩;rw [yV] at hTc |-;refine ih (q+1) (Qfy m.o m.a is) (Qfh m.o m.a m.k v) (p+1) d E (QaE x m.a val) (by rw [gZ.1,YU]) (by rw [gZ.2,hv]) vQ (by omega) (by omega) (by rw [<- yV];exact wJ) hB' zT qQ HT ?_ (fun hp=>?_)
   .grind [QAY,Qsy,u1,Ql0,bl,QkP,rwL,QaE]
   .have:=QdF (gW (by omega)) (QrS hB hq (by omega) hd hr2)
    dsimp only at this;rw [hw32] at this;exact this
structure CpM (x c:List Nat):Prop where
 (x0:x.getD 0 0=0) (c0:c.getD 0 0<=31) (c7:c.getD 7 0<=31) (c6:c.getD 6 0<=255) (c1:c.getD 1 0%4=0)
theorem Qth (s:Nat) (h:s<=31):Qfd s<=31:=by unfold Qfd;omega
theorem QyA (s:Nat) (h:s<=31):QgC s<=31:=by unfold QgC;omega
theorem Qhh {x c:List Nat} (h:CpM x c) (pc:Nat) (k:Int) (b:Nat):CpM x (trL pc c k b):=⟨h.x0,Qth _ h.c0,h.c7,h.c6,h.c1⟩
theorem Qkp {x c:List Nat} (h:CpM x c) (a v:Nat):CpM (QaE x a v) c:=⟨Qr2 _ _ _ h.x0,h.c0,h.c7,h.c6,h.c1⟩
theorem QJQ (v:Nat) (h:v<4294967296):(v &&& (4294967295-3))%4=0:=by
 have h1:(v &&& (4294967295-3))%2^2=(v%2^2) &&& ((4294967295-3)%2^2):=Nat.and_mod_two_pow ..;have h2:(4294967295-3)%2^2=0:=rfl;rw [h2,Nat.and_zero] at h1;exact h1
theorem QAK {x c:List Nat} (hc:c.length=8) (h:CpM x c) (m:Int) (v:Nat) (hv:v<4294967296):CpM x (wrL c m v):=by
 obtain ⟨h0,h1,h2,h3,h4⟩:=h;have g:∀ i w j,i<8->(c.set i w).getD j 0=if j=i then w else c.getD j 0:=fun i w j hi=>QeQ c i j w 0 (by omega)
 unfold wrL
 repeat' split
 all_goals first
  | exact ⟨h0,h1,h2,h3,h4⟩
  | (refine ⟨h0,?_,?_,?_,?_⟩<;>rw [g _ _ _ (by decide)]<;>first|(rw [zN (by decide)];assumption)|(rw [zP rfl];first|omega|exact QJQ v hv))
theorem Qwk {x c:List Nat} (hc:c.length=8) (h:CpM x c):CpM x (c.set 0 (QgC (c.getD 0 0))):=by
 obtain ⟨h0,h1,h2,h3,h4⟩:=h;have g:∀ i w j,i<8->(c.set i w).getD j 0=if j=i then w else c.getD j 0:=fun i w j hi=>QeQ c i j w 0 (by omega)
 refine ⟨h0,?_,?_,?_,?_⟩<;>rw [g _ _ _ (by decide)]
 .rw [zP rfl];exact QyA _ h1
 all_goals (rw [zN (by decide)];assumption)
theorem Qx7 {x c:List Nat} (hc:c.length=8) (hx:∀ y∈x,y<4294967296) (h:CpM x c) (pc:Nat) (o:Int) (A:Nat) (m:Int):CpM x (exC x pc c o A m):=by
 unfold exC;split
 .exact Qhh h _ _ _
 split
 .exact Qwk hc h
 split
 .exact QAK hc h _ _ (Qab hx _)
 .exact h
theorem Qw6 {x c d:List Nat} (h:CpM x d) (pc:Nat) (o:Int) (A B C:Nat) (m:Int):CpM (exX x pc c o A B C m) d:=by
 unfold exX;split
 .exact Qkp h _ _
 split
 .exact Qkp h _ _
 split
 .exact Qkp h _ _
 split
 .exact Qkp h _ _
 split
 .exact Qkp h _ _
 .exact h
theorem Qq1 {x c:List Nat} (h:CpM x c) (pc:Nat) (K:Int) (va:Nat):CpM x (trC pc c K va):=by
 unfold trC;split
 .exact h
 .exact Qhh h _ _ _
theorem QCx (x:List Nat) (pc:Nat) (c xs:List Nat) (n:Nat) (hc:c.length=8) (hx:∀ y∈x,y<4294967296) (h:CpM x c):CpM (exS x pc c xs n).x (exS x pc c xs n).c:=by
 unfold exS;split
 .exact Qhh h _ _ _
 split
 .exact Qhh h _ _ _
 split
 .exact Qhh h _ _ _
 split
 .dsimp only
  have:CpM x (trC pc c (rsK (rsM xs n (c.getD 0 0) (c.getD 6 0) pc 4 1) n (c.getD 0 0) (c.getD 6 0) (vaO x (nB (ftW xs n (c.getD 0 0) (c.getD 6 0) pc)) (dM (ftW xs n (c.getD 0 0) (c.getD 6 0) pc))) (wd (dOp (ftW xs n (c.getD 0 0) (c.getD 6 0) pc))) 2) (vaO x (nB (ftW xs n (c.getD 0 0) (c.getD 6 0) pc)) (dM (ftW xs n (c.getD 0 0) (c.getD 6 0) pc)))):=Qq1 h _ _ _;unfold ldX;split
  .exact Qkp this _ _
  .exact this
 split
 .exact Qq1 h _ _ _
 .exact Qw6 (Qx7 hc hx h _ _ _ _) _ _ _ _ _ _
theorem QwU (k:ByteArray) (p:Int) (h:k.size<=16):(Qll k p).size<=16:=by
 unfold Qll;split
 .split
  .exact h
  .rw [ByteArray.size_extract];omega
 .exact h
theorem Qy6 (d:Dk) (xs:List Nat) (n:Nat) (p:Int) (v c:Nat) (h:QbO d (mpg n:Nat)=true):QbO (Qa6 d xs n p v c).1 (mpg n:Nat)=true:=by
 unfold QbO at h |-;rw [zde] at h |-;obtain ⟨h1,h2,h3,h4,h5⟩:=h;unfold Qa6;split
 .exact ⟨h1,h2,h3,h4,h5⟩
 split
 .exact ⟨h1,h2,h3,h4,h5⟩
 split
 .exact ⟨h1,h2,h3,h4,h5⟩
 split
 .rename_i hq
  exact ⟨h1,(show (0:Int)<=0 from by decide),(show (0:Int)<=3 from by decide),fun _=>h4 (by omega),(fun h=>by cases h)⟩
 split
 .rename_i hq
  have h6:=h4 (by omega);split
  .exact ⟨h1,(show (0:Int)<=3 from by decide),(show (3:Int)<=3 from by decide),fun _=>h6,(fun h=>by cases h)⟩
  split
  .exact ⟨h1,(show (0:Int)<=3 from by decide),(show (3:Int)<=3 from by decide),fun _=>h6,(fun h=>by cases h)⟩
  .rename_i g1 g2
   have qF:QbG n d.fr=true:=by cases h:QbG n d.fr with|true=>rfl|false=>exact absurd h g2
   have GZ:=qF;unfold QbG at GZ;have GZ:=of_decide_eq_true GZ;refine ⟨h1,(show (0:Int)<=1 from by decide),(show (1:Int)<=3 from by decide),(fun h=>absurd rfl h),fun _=>⟨by show d.bl<d.bs;omega,GZ,?_⟩⟩;unfold Qqi;dsimp only;rcases hq.1 with e|e
   .left
    rw [zN (by omega)];exact ⟨e,by unfold noD;exact beq_self_eq_true _⟩
   .right
    rw [zP e];exact ⟨e,QhZ qF⟩
 .exact ⟨h1,h2,h3,h4,h5⟩
theorem QxN (d:Nk) (xs:List Nat) (n:Nat) (p:Int) (v c:Nat) (h:Qb7 d (mpg n:Nat)=true):Qb7 (Qbk d xs n p v c).1 (mpg n:Nat)=true:=by
 unfold Qb7 at h |-;rw [zde] at h |-;obtain ⟨h1,h2,h3,h4⟩:=h;unfold Qbk;split
 .exact ⟨h1,h2,h3,h4⟩
 split
 .exact ⟨h1,h2,h3,h4⟩
 split
 .exact ⟨h1,h2,h3,h4⟩
 split
 .exact ⟨fun h=>⟨rfl,(h1 h).2⟩,h2,(fun h=>by cases h),fun _=>rfl⟩
 split
 .exact ⟨h1,h2,h3,h4⟩
 split
 .rename_i hq
  obtain ⟨q1,q2,q3,q4⟩:=hq;unfold QbG at q2;exact ⟨fun _=>⟨q4,of_decide_eq_true q2⟩,(fun h=>by cases h),h3,h4⟩
 .exact ⟨h1,h2,h3,h4⟩
theorem QCU (a b i:Nat):(a ||| b) / 2^i%2=1↔a / 2^i%2=1\/b / 2^i%2=1:=by
 have h:∀ x:Nat,x / 2^i%2=1↔x.testBit i=true:=fun x=>by
  rw [Nat.testBit_eq_decide_div_mod_eq,zde]
 rw [h,h,h,Nat.testBit_or,Bool.or_eq_true]
theorem QzA (bg n:Nat) (p:Int) (v:Nat) (hbg:bg<4294967296) (h:Qb0 bg (mpg n:Nat)=true):Qb0 (Qg0 bg n p v) (mpg n:Nat)=true:=by
 unfold Qb0 at h |-;rw [zde] at h |-;intro i hi hb;unfold Qg0 at hb;split at hb
 .rename_i hq
  unfold gvQ QbG at hq;rw [QCU] at hb;rcases hb with hb|hb
  .exact h i hi hb
  .have:i=v:=by
    have h2:(2^v:Nat).testBit i=true:=by rw [Nat.testBit_eq_decide_div_mod_eq,zde];exact hb
    rw [Nat.testBit_two_pow] at h2;exact (of_decide_eq_true h2).symm
   subst this;exact of_decide_eq_true hq.2.1
 split at hb
 .rename_i hq
  have hv:v<32:=by omega
  have hp:2^v<4294967296:=Nat.lt_of_lt_of_le (Nat.pow_lt_pow_right (by decide) hv) (by decide);have he:=(QiH bg (2^v)).1;rw [QcA bg (2^v) hbg hp] at he;have he:=Int.ofNat_inj.1 he;rw [<- he] at hb;refine h i hi ?_
  have hT:∀ x:Nat,x / 2^i%2=1↔x.testBit i=true:=fun x=>by
   rw [Nat.testBit_eq_decide_div_mod_eq,zde]
  rw [hT,Nat.testBit_and,zba] at hb;rw [hT];exact hb.1
 .exact h i hi hb
theorem Qmg (M:Mc) (hM:M.ok) (w:Nat) (h:QbQ M=true) (hs:Qcv M=false):QbQ (Qbh M w).1=true:=by
 have HS:M.ht=false/\M.ct<1152921504606846976:=by
  unfold Qcv at hs;simp only [Bool.or_eq_false_iff,decide_eq_false_iff_not] at hs;exact ⟨hs.1.1.2,by omega⟩
 have hQ:=QbY M hM;have hm:=h;unfold QbQ at h;rw [zde] at h;obtain ⟨p1,p2,p3,p4,p5,p6,p7,p8,p9,p10,p11,_,_⟩:=h
 have hC:CpM M.x (Qda M):=by
  have h0:CpM M.x M.c:=⟨p2,p3,p4,p5,p6⟩;unfold Qda;split
  .exact Qhh h0 _ _ _
  .exact h0
 have hE:CpM (QaJ M).x (QaJ M).c:=QCx M.x (Qdd M) (Qda M) M.m _ (Qbw M hM) hM.xr hC;have hl:(QaJ M).m.length=M.m.length:=hQ.ml
 have key:∀ (x c m:List Nat) (pc:Nat) (ks:ByteArray) (ta:Bool) (td:Nat) (tf:Bool) (d:Dk) (n:Nk) (bt bg:Nat) (wt ht:Bool),CpM x c->m.length=M.m.length->Qc4 ks=true->Qd0 ta td tf=true->QbO d (mpg M.m.length:Nat)=true->Qb7 n (mpg M.m.length:Nat)=true->Qb0 bg (mpg M.m.length:Nat)=true->¬ (wt=true/\ht=true)->QbQ (Qdb ⟨x,pc,c,m,ks,ta,td,tf,d,n,bt,bg,M.ct,wt,ht⟩)=true:=fun x c m pc ks ta td tf d n bt bg wt ht g1 g2 g3 g4 g5 g6 g7 g8=>by
  unfold QbQ Qdb;rw [zde];dsimp only;rw [g2,Nat.mod_eq_of_lt (show M.ct+1<18446744073709551616 by omega)];exact ⟨p1,g1.x0,g1.c0,g1.c7,g1.c6,g1.c1,g3,g4,g5,g6,g7,by omega,g8⟩
 have zV:∀ b:Bool,¬ (false=true/\b=true):=fun b h=>by cases h.1
 unfold Qbh;split
 .have hx:=Qkp hE (eR (QaJ M).e) (inV (QaG M) (eP (QaJ M).e) w)
  have hk:Qc4 (inM (QaG M) (eP (QaJ M).e)).ks=true:=by
   unfold inM;split
   .unfold Qc4 at p7 |-
    rw [zde] at p7 |-;have:=QwU M.ks (eP (QaJ M).e) (by omega);show ((Qll M.ks _).size:Int)<=16;omega
   .exact p7
  have he:∀ p:Int,inM (QaG M) p= { QaG M with ks:=(inM (QaG M) p).ks }:=fun p=>by unfold inM;split<;>rfl
  rw [he];exact key _ _ _ _ _ _ _ _ _ _ _ _ _ _ hx hl hk p8 p9 p10 p11 (zV _)
 split
 .unfold Qbz
  split
  .exact key _ _ _ _ _ _ _ _ _ _ _ _ _ _ hE hl p7 p8 p9 p10 p11 (zV _)
  split
  .exact key _ _ _ _ _ _ _ _ _ _ _ _ _ _ hE hl p7 p8 p9 p10 p11 (zV _)
  split
  .refine key _ _ _ _ _ _ _ _ _ _ _ _ _ _ hE hl p7 ?_ p9 p10 p11 (zV _)
   unfold Qd0;rw [zde];refine ⟨(fun h=>by cases h.2),fun h=>?_,fun h _=>?_⟩
   .have:=of_decide_eq_true h
    omega
   .have:=of_decide_eq_false h
    omega
  split
  .refine key _ _ _ _ _ _ _ _ _ _ _ _ _ _ hE hl p7 p8 ?_ p10 p11 (zV _)
   show QbO (Qa6 M.d (QaJ M).m (QaJ M).m.length _ _ _).1 _=true;rw [hl];exact Qy6 M.d _ _ _ _ _ p9
  split
  .refine key _ _ _ _ _ _ _ _ _ _ _ _ _ _ hE hl p7 p8 p9 ?_ p11 (zV _)
   show Qb7 (Qbk M.n (QaJ M).m (QaJ M).m.length _ _ _).1 _=true;rw [hl];exact QxN M.n _ _ _ _ _ p10
  .refine key _ _ _ _ _ _ _ _ _ _ _ _ _ _ hE ?_ p7 p8 p9 p10 ?_ (zV _)
   .exact (QeH _ _ _ _ _).trans hl
   .show Qb0 (Qg0 M.bg (QaJ M).m.length _ _) _=true
    rw [hl];exact QzA M.bg _ _ _ hM.dv.2.2.1 p11
 split
 .refine key _ _ _ _ _ _ _ _ _ _ _ _ _ _ hE hl p7 p8 p9 p10 p11 (fun h=>?_)
  have:=h.2;change M.ht=true at this;rw [HS.1] at this;cases this
 split
 .exact key _ _ _ _ _ _ _ _ _ _ _ _ _ _ hE hl p7 p8 p9 p10 p11 (zV _)
 .exact key _ _ _ _ _ _ _ _ _ _ _ _ _ _ hE hl p7 p8 p9 p10 p11 (zV _)
end Go.Proofs.YtflelebfmdggkaaGreat
