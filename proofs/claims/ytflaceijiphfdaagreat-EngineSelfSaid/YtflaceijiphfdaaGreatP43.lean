import Derived.Test.YtflaceijiphfdaaGreatP36
set_option linter.unusedSimpArgs false
set_option linter.unusedVariables false
set_option maxHeartbeats 0
set_option maxRecDepth 100000
namespace Go.Proofs.YtflaceijiphfdaaGreat
open Go Go.RowKit
theorem Qld {x:List Nat} (hx:x.length=16) (hr:ZL x) (a v:Nat) (hv:ZU v):(QaC x a v).length=16/\∀ y∈QaC x a v,y<4294967296:=⟨by rw [Qay];exact hx,Qds hr a v hv⟩
theorem QBl {E:Eg} (hE:E.ok) (a v pc:Nat) (hv:ZU v) (gQ:ZU pc):(fnE E a v pc).ok :=
 ⟨⟨(Qld hE.M.x hE.M.xr a v hv).1,hE.M.c,(Qld hE.M.x hE.M.xr a v hv).2,hE.M.cr,gQ,hE.M.mr,hE.M.ml,hE.M.dk,hE.M.nk,hE.M.dv⟩,hE.T,hE.tl,hE.B,hE.bl,hE.o,hE.ol,hE.f⟩
theorem Qxa {E:Eg} (hC:Coh E) (a v pc:Nat):Coh (fnE E a v pc):=⟨hC.n,hC.T,hC.B⟩
theorem Qhi {E:Eg} (hE:E.ok) (n:Nat):(ctE n E).ok:=⟨⟨hE.M.x,hE.M.c,hE.M.xr,hE.M.cr,hE.M.pr,hE.M.mr,hE.M.ml,hE.M.dk,hE.M.nk,⟨hE.M.dv.1,hE.M.dv.2.1,hE.M.dv.2.2.1,Nat.mod_lt _ (by decide),hE.M.dv.2.2.2.2⟩⟩,hE.T,hE.tl,hE.B,hE.bl,hE.o,hE.ol,hE.f⟩
theorem Qgg {E:Eg} (hC:Coh E) (n:Nat):Coh (ctE n E):=⟨hC.n,hC.T,hC.B⟩
theorem QhB (o:Int):szO o=1\/szO o=4:=by unfold szO;split;exact .inr rfl;exact .inl rfl
theorem Qun {E:Eg} (hE:E.ok) (hC:Coh E) (m:Mi) (a v:Nat) (ha:a / 4<E.M.m.length):Coh (QhA E m a v):=by
 have gF:=Qcp m.o E.M.m a v;have wW:∀ j,j≠a / 4->(stM m.o E.M.m a v).getD j 0=E.M.m.getD j 0:=fun j hj=>by grind [stM,QeA,Qnd,QhA]
 have hB:Qhc (stM m.o E.M.m a v) E.M.m.length (wrt (a / 128) { E with M:= { E.M with m:=stM m.o E.M.m a v } }).B:=by
  refine Qkr E.M.m _ _ E.B _ List.filter_sublist (fun b hb j hj=>?_) hC.B;have fY:=of_decide_eq_true (List.mem_filter.1 hb).2;refine (wW j (fun h=>fY ?_)).symm;unfold fk;subst h;congr 1;omega
 unfold QhA;dsimp only;split
 .refine ⟨?_,QlI _ _ _,?_⟩
  .show mpg (stM m.o E.M.m a v).length*32=(stM m.o E.M.m a v).length;rw [gF];exact hC.n
  .show Qhc (stM m.o E.M.m a v) (stM m.o E.M.m a v).length _;rw [gF];exact hB
 .rename_i hq
  refine ⟨?_,?_,?_⟩
  .show mpg (stM m.o E.M.m a v).length*32=(stM m.o E.M.m a v).length;rw [gF];exact hC.n
  .show QhQ E.T (stM m.o E.M.m a v) (stM m.o E.M.m a v).length (cR E.M)=true
   rw [gF];refine QiW (fun j hj=>(wW j (fun h=>hq ?_)).symm) hC.T;subst h;show a / 128=cR E.M;omega
  .show Qhc (stM m.o E.M.m a v) (stM m.o E.M.m a v).length _;rw [gF];exact hB
theorem Quo {E:Eg} (hE:E.ok) (m:Mi) (a v:Nat) (hv:ZU v):(QhA E m a v).ok:=by
 have gH:=hE.M.ml;have h0:(⟨{ E.M with m:=stM m.o E.M.m a v },E.T,E.B,E.o,E.f,E.s⟩:Eg).ok:=⟨⟨hE.M.x,hE.M.c,hE.M.xr,hE.M.cr,hE.M.pr,QrE m.o E.M.m a v hE.M.mr hv,by show (stM _ _ _ _).length<=_;rw [Qcp];exact gH,hE.M.dk,hE.M.nk,hE.M.dv⟩,hE.T,hE.tl,hE.B,hE.bl,hE.o,hE.ol,hE.f⟩;unfold QhA;dsimp only;split
 .exact ⟨h0.M,QiE,Nat.zero_le _,fun b hb=>hE.B b (List.mem_filter.1 hb).1,Nat.le_trans (List.length_filter_le _ _) hE.bl,hE.o,hE.ol,hE.f⟩
 .exact ⟨h0.M,hE.T,hE.tl,fun b hb=>hE.B b (List.mem_filter.1 hb).1,Nat.le_trans (List.length_filter_le _ _) hE.bl,hE.o,hE.ol,hE.f⟩
def fnM (M:Mc) (a v pc:Nat):Mc:= { M with x:=QaC M.x a v,pc:=pc }
def mO (M:Mc) (va sz:Nat) (ac:Int):Bool:=rsO M.m M.m.length (M.c.getD 0 0) (cR M) va sz ac
def mA (M:Mc) (va sz:Nat) (ac:Int):Nat:=rsA M.m M.m.length (M.c.getD 0 0) (cR M) va sz ac
def mM (M:Mc) (va sz:Nat) (ac:Int):List Nat:=rsM M.m M.m.length (M.c.getD 0 0) (cR M) va sz ac
def vaM (M:Mc) (m:Mi):Nat:=w32 ((M.x.getD m.b 0:Nat)+(m.k:Nat))
def opM (M:Mc) (m:Mi):Option Mc :=
 if m.o=24 then some (fnM M m.a m.k (w32 ((lpc M.pc m.n:Nat)+4)))
 else if 32<=m.o/\m.o<=34 then
  (if mO M (vaM M m) (szO m.o) 2=true then some (fnM { M with m:=mM M (vaM M m) (szO m.o) 2 } m.a (ldV m.o (mM M (vaM M m) (szO m.o) 2) (mA M (vaM M m) (szO m.o) 2)) (w32 ((lpc M.pc m.n:Nat)+4))) else none)
 else if m.o=35\/m.o=36 then
  (if mO M (vaM M m) (szO m.o) 3=true then some (fnM { M with m:=stM m.o (mM M (vaM M m) (szO m.o) 3) (mA M (vaM M m) (szO m.o) 3) (M.x.getD m.a 0) } 0 0 (w32 ((lpc M.pc m.n:Nat)+4))) else none)
 else if 40<=m.o/\m.o<=45 then
  some (fnM M 0 0 (if Qc7 m.o (M.x.getD m.a 0) (M.x.getD m.b 0)=true then w32 ((lpc M.pc m.n:Nat)+(m.k:Nat)) else w32 ((lpc M.pc m.n:Nat)+4)))
 else if m.o=48 then some (fnM M m.a (w32 ((lpc M.pc m.n:Nat)+4)) (w32 ((lpc M.pc m.n:Nat)+(m.k:Nat))))
 else if m.o=49 then some (fnM M m.a (w32 ((lpc M.pc m.n:Nat)+4)) (w32 ((M.x.getD m.b 0:Nat)+(m.k:Nat))))
 else if QbS m.o=true then some (fnM M m.a (Qbr m.o (M.x.getD m.b 0) (if m.o<=13 then M.x.getD m.c 0 else m.k)) (w32 ((lpc M.pc m.n:Nat)+4)))
 else none
def QEb (p q:Nat):Prop:=q=p\/∃ ac,q=QbG p ac
structure Keep (E E1:Eg):Prop where
 (ok:E1.ok) (coh:Coh E1) (o:E1.o=E.o) (f:E1.f=E.f)
 (s0:E1.s=false->E.s=false/\(∀ j,j / 32=E.f->E1.M.m.getD j 0=E.M.m.getD j 0)/\∀ j,j / 32=cR E.M->QEb (E.M.m.getD j 0) (E1.M.m.getD j 0))
 (c:E1.M.c=E.M.c) (l:E1.M.m.length=E.M.m.length)
theorem QCi (E:Eg) (va sz:Nat) (ac:Int) (gV:ZU va) (j:Nat):QEb (E.M.m.getD j 0) ((sM E va sz ac).getD j 0):=by grind [sM,rsM,Qa6,cR,Qh1,List.set_eq_of_length_le,QeA,QEb]
theorem Qqd {E:Eg} (hE:E.ok) (hC:Coh E):Keep E E:=⟨hE,hC,rfl,rfl,fun h=>⟨h,fun _ _=>rfl,fun _ _=> .inl rfl⟩,rfl,rfl⟩
theorem Ql2 (E:Eg) (hE:E.ok) (hC:Coh E) (va sz:Nat) (ac:Int) (gV:ZU va) (fQ:sz=1\/sz=4) (KC:ac=1\/ac=2\/ac=3):Keep E (rsv E va sz ac).1:=by
 have h:=QeK E hE hC va sz ac gV fQ KC;refine ⟨h.ok,h.coh,h.o,h.f,fun hs=>⟨(h.s0 hs).1,(h.s0 hs).2,fun j hj=>?_⟩,by rw [h.m],by rw [h.m];exact Qbh _ _ _ _ _ _ _⟩;rw [h.m];exact QCi E va sz ac gV j
theorem Qd9 {E E1:Eg} (h:Keep E E1) (a v pc:Nat) (hv:ZU v) (gQ:ZU pc):Keep E (fnE E1 a v pc) :=
 ⟨QBl h.ok a v pc hv gQ,Qxa h.coh a v pc,h.o,h.f,h.s0,h.c,h.l⟩
theorem Qxv {E E1:Eg} (h:Keep E E1) (m:Mi) (a v:Nat) (hv:ZU v) (ha:a / 4<E1.M.m.length):Keep E (QhA E1 m a v):=by
 have wW:∀ j,j≠a / 4->(stM m.o E1.M.m a v).getD j 0=E1.M.m.getD j 0:=fun j hj=>by grind [stM,QeA,Qnd,QhA]
 have hM:(QhA E1 m a v).M= { E1.M with m:=stM m.o E1.M.m a v }:=by unfold QhA;dsimp only;split<;>rfl
 refine ⟨Quo h.ok m a v hv,Qun h.ok h.coh m a v ha,?_,?_,fun hs=>?_,by rw [hM];exact h.c,by rw [hM];show (stM _ _ _ _).length=_;rw [Qcp];exact h.l⟩
 .unfold QhA;dsimp only;split<;>exact h.o
 .unfold QhA;dsimp only;split<;>exact h.f
 .have gW:¬ a / 128=cR E1.M/\E1.s=false/\¬ a / 128=E1.f:=by
   unfold QhA at hs;dsimp only at hs;split at hs
   .cases hs
   .rename_i hq
    change (E1.s||decide (a / 128=E1.f))=false at hs;rw [Bool.or_eq_false_iff,decide_eq_false_iff_not] at hs;exact ⟨hq,hs⟩
  obtain ⟨_,q2,q3⟩:=gW;obtain ⟨g1,g2,_⟩:=h.s0 q2;have hc:cR E1.M=cR E.M:=by unfold cR;rw [h.c]
  rw [hM];refine ⟨g1,fun j hj=>?_,fun j hj=>?_⟩
  .rw [<- g2 j hj]
   exact wW j (fun e=>q3 (by rw [h.f];omega))
  .grind
theorem Qpz (E:Eg) (hE:E.ok) (hC:Coh E) (m:Mi) (hm:Qbn m) :
  ((exO E m).2=false->(exO E m).1=E/\opM E.M m=none)/\((exO E m).2=true->opM E.M m=some (exO E m).1.M/\Keep E (exO E m).1):=by
 obtain ⟨_,_,_,qO⟩:=hm;have hK:=Qqd hE hC;have hx:=Qab hE.M.xr;unfold exO opM
 by_cases jZ:m.o=24
 .rw [zP jZ,zP jZ]
  exact ⟨(fun h=>by cases h),fun _=>⟨rfl,Qd9 hK _ _ _ qO (QaE _)⟩⟩
 rw [zN jZ,zN jZ]
 by_cases h32:32<=m.o/\m.o<=34
 .rw [zP h32,zP h32]
  have h:=QeK E hE hC (vaM E.M m) (szO m.o) 2 (QaE _) (QhB _) (.inr (.inl rfl));have hk:=Ql2 E hE hC (vaM E.M m) (szO m.o) 2 (QaE _) (QhB _) (.inr (.inl rfl));change _/\_;have hl:ldE E m=rsv E (vaM E.M m) (szO m.o) 2:=rfl;rw [hl];have hb:(rsv E (vaM E.M m) (szO m.o) 2).2.2=mO E.M (vaM E.M m) (szO m.o) 2:=h.b;rw [<- hb]
  cases hv:(rsv E (vaM E.M m) (szO m.o) 2).2.2 with
  | false=>grind
  | true =>
   rw [zP rfl,zP rfl];refine ⟨(fun h=>by cases h),fun _=>⟨?_,Qd9 hk _ _ _ (Qvp _ _ _ h.ok.M.mr) (QaE _)⟩⟩;have ha:(rsv E (vaM E.M m) (szO m.o) 2).2.1=mA E.M (vaM E.M m) (szO m.o) 2:=h.a hv;have vE:(rsv E (vaM E.M m) (szO m.o) 2).1.M= { E.M with m:=mM E.M (vaM E.M m) (szO m.o) 2 }:=h.m;unfold fnE fnM;dsimp only;rw [ha,vE]
 rw [zN h32,zN h32]
 by_cases vD:m.o=35\/m.o=36
 .rw [zP vD,zP vD]
  have h:=QeK E hE hC (vaM E.M m) (szO m.o) 3 (QaE _) (QhB _) (.inr (.inr rfl));have hk:=Ql2 E hE hC (vaM E.M m) (szO m.o) 3 (QaE _) (QhB _) (.inr (.inr rfl));have hl:stE E m=if (rsv E (vaM E.M m) (szO m.o) 3).2.2=true then (QhA (rsv E (vaM E.M m) (szO m.o) 3).1 m (rsv E (vaM E.M m) (szO m.o) 3).2.1 (E.M.x.getD m.a 0),true) else (E,false):=rfl
  have hb:(rsv E (vaM E.M m) (szO m.o) 3).2.2=mO E.M (vaM E.M m) (szO m.o) 3:=h.b;rw [<- hb]
  cases hv:(rsv E (vaM E.M m) (szO m.o) 3).2.2 with
  | false=>grind
  | true =>
   rw [hv,zP rfl] at hl;rw [hl,zP rfl,zP rfl];have fV:=h.in_ hv;refine ⟨(fun h=>by cases h),fun _=>⟨?_,Qd9 (Qxv hk m _ _ (hx _) (by rw [hk.l];exact fV.1)) _ _ _ (by decide) (QaE _)⟩⟩;have ha:(rsv E (vaM E.M m) (szO m.o) 3).2.1=mA E.M (vaM E.M m) (szO m.o) 3:=h.a hv;have vE:(rsv E (vaM E.M m) (szO m.o) 3).1.M= { E.M with m:=mM E.M (vaM E.M m) (szO m.o) 3 }:=h.m;have hM:∀ (E1:Eg) (a v:Nat),(QhA E1 m a v).M= { E1.M with m:=stM m.o E1.M.m a v }:=fun E1 a v=>by unfold QhA;dsimp only;split<;>rfl
   unfold fnE fnM;dsimp only;rw [hM,ha,vE]
 rw [zN vD,zN vD]
 by_cases h40:40<=m.o/\m.o<=45
 .rw [zP h40,zP h40]
  refine ⟨(fun h=>by cases h),fun _=>⟨rfl,Qd9 hK _ _ _ (by decide) ?_⟩⟩;split<;>exact QaE _
 rw [zN h40,zN h40]
 by_cases h48:m.o=48
 .rw [zP h48,zP h48]
  exact ⟨(fun h=>by cases h),fun _=>⟨rfl,Qd9 hK _ _ _ (QaE _) (QaE _)⟩⟩
 rw [zN h48,zN h48]
 by_cases h49:m.o=49
 .rw [zP h49,zP h49]
  exact ⟨(fun h=>by cases h),fun _=>⟨rfl,Qd9 hK _ _ _ (QaE _) (QaE _)⟩⟩
 rw [zN h49,zN h49]
 by_cases gZ:QbS m.o=true
 .rw [zP gZ,zP gZ]
  refine ⟨(fun h=>by cases h),fun _=>⟨rfl,Qd9 hK _ _ _ (QcS _ _ _ (hx _) ?_) (QaE _)⟩⟩;split
  .exact hx _
  .exact qO
 rw [zN gZ,zN gZ];exact ⟨fun _=>⟨rfl,rfl⟩,(fun h=>by cases h)⟩
end Go.Proofs.YtflaceijiphfdaaGreat
