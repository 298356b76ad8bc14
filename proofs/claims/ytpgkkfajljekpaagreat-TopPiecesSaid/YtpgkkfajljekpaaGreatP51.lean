import Derived.Test.YtpgkkfajljekpaaGreatP48
set_option linter.unusedSimpArgs false
set_option linter.unusedVariables false
set_option maxHeartbeats 0
set_option maxRecDepth 100000
namespace Go.Proofs.YtpgkkfajljekpaaGreat
open Go Go.RowKit
theorem Qy6 (E:Eg) (hE:E.ok) (hC:Coh E) (lim:Nat) (qV:lim<18446744073709551616) (hw:E.M.wt=false) (hi:QcS E.M=false) (hK:(rsv E E.M.pc 4 1).2.2=true) :
  FN 74 [.s (.ptr 0 0),.s (.w lim)] E.H (. =(QfM (miL (fnd (rsv E E.M.pc 4 1).1 (rsv E E.M.pc 4 1).2.1).2.l) lim 0 { (fnd (rsv E E.M.pc 4 1).1 (rsv E E.M.pc 4 1).2.1).1 with f:=(fnd (rsv E E.M.pc 4 1).1 (rsv E E.M.pc 4 1).2.1).2.A / 128,s:=false } |> fun r=>Eg.R r.1 (.a (.s (.w (r.2:Nat)))))):=by
 have cl:=Qdm E.M hE.M;have fC:=Qab hE.M.cr 0;have JQ:=Qab hE.M.cr 7;have zE:=Qe8 E.M;have a2:=Qhq (E.M.c.getD 0 0) fC;have an:=QhU (Qfx E.M) (E.M.c.getD 7 0) zE JQ;obtain ⟨ir,yH⟩:∃ k,E.M.c.getD 0 0 / 2%2=k:=⟨_,rfl⟩;obtain ⟨en,yO⟩:∃ k,Qfx E.M &&& E.M.c.getD 7 0=k:=⟨_,rfl⟩;rw [yH] at a2;rw [yO] at an;have hint:QcS E.M=decide (ir=1/\en≠0):=by unfold QcS QiO;rw [yH,yO]
 have JZ:ir<2:=by omega
 clear yH yO;generalize Qfx E.M=ln at *;rw [hi] at hint;have hint:=of_decide_eq_false hint.symm;clear hi;have ca:=QfB E hE E.M.pc 4 1 hE.M.pr (.inr rfl);have hr:=QeW E hE hC E.M.pc 4 1 hE.M.pr (.inr rfl) (.inl rfl);have qZ:=QyZ E hE hC E.M.pc hE.M.pr hK;obtain ⟨X,T1,B1,s1,he,hXl,hok1,qJ⟩:=QhG E hE E.M.pc 4 1 hE.M.pr;have HZ:=hr.coh;have hA2:=(hr.in_ hK).2;rw [hK] at ca;clear qJ hr hK;generalize (rsv E E.M.pc 4 1).2.1=A at *;rw [he] at ca hok1 HZ |-;clear he;have zJ:(⟨{ E.M with m:=X },T1,B1,E.o,E.f,s1⟩:Eg).M.m.length=E.M.m.length:=hXl;rw [<- zJ] at qZ;clear zJ;have cf:=QBO _ hok1 A hA2;obtain ⟨B2,JU,hok2,hcoh2,hb2⟩:=QvL _ hok1 HZ A qZ;obtain ⟨l,FJ,hl2,jG,KH⟩:=Qp5 X X.length A hok1.M.mr;rw [JU] at cf hok2 hcoh2 |-;rw [hb2] at cf |-;have ZP:(fdB X X.length A 16).A<4294967296:=Qvl _ _ _ hA2;change Fn _ _ _ _ (. =Eg.R _ (.a (.agg (fdB X X.length A 16).C))) at cf;show Fn _ _ _ _ (. =Eg.R (QfM (miL (fdB X X.length A 16).l) lim 0 ⟨{ E.M with m:=X },T1,B2,E.o,(fdB X X.length A 16).A / 128,false⟩).1 (.a (.s (.w ((QfM (miL (fdB X X.length A 16).l) lim 0 ⟨{ E.M with m:=X },T1,B2,E.o,(fdB X X.length A 16).A / 128,false⟩).2:Nat)))));clear JU hb2 qZ hl2;generalize fdB X X.length A 16=b at *;obtain ⟨bA,bL,bl⟩:=b;dsimp only at FJ ZP |-;subst FJ;rw [Qx5];have cfr:=Qjl bA ZP bL (l.map Mi.z) (l.map Mi.z).length;dsimp only [Bk.C] at cf;rw [Qil,List.length_map] at cf cfr;obtain ⟨⟨Ez,dz⟩,hz⟩:∃ r,QfM l lim 0 ⟨{ E.M with m:=X },T1,B2,E.o,bA / 128,false⟩=r:=⟨_,rfl⟩;rw [hz];dsimp only;have hok3:(⟨{ E.M with m:=X },T1,B2,E.o,bA / 128,false⟩:Eg).ok:=⟨hok2.M,hok2.T,hok2.tl,hok2.B,hok2.bl,hok2.o,hok2.ol,by show bA / 128<_;omega⟩;have wD:Coh (⟨{ E.M with m:=X },T1,B2,E.o,bA / 128,false⟩:Eg):=⟨hcoh2.n,hcoh2.T,hcoh2.B⟩;clear hok2 hcoh2 hok1 HZ;have hfA:bA / 128<4294967296:=by omega
 have wO:=Qah T1;have zH:=Qae B1;have FT:=Qae B2;have zL:=Qaa X;have WP:=Qbb l;have KS:=QgJ l;have fH:=Qaa E.M.m;have gY:=Qah E.T;have fI:=Qae E.B;have qM:=(QaA hE.o).2.1;obtain ⟨hM,hT,_,hB,_,_,_,_⟩:=hE;obtain ⟨M,T,B,o,f,s⟩:=E;dsimp only [Eg.H,Eg.R,Eg.Rk,Eg.C,wrt] at *;generalize YN:wsv X=XV,hT1v:tes T1=TT1,hB1v:bks B1=BB1,hB2v:bks B2=BB2,mcs l=LL,ht1n:T1.length=t1n,hb1n:B1.length=b1n,hb2n:B2.length=b2n,HD:l.length=rl,bA / 128=bF at *;obtain ⟨hx,hc,hY,gA,gH,gB,gI,gD,gE,gF⟩:=hM;obtain ⟨x,pc,c,m,_,_,_,_,d,n,_,_,ct,wt⟩:=M;dsimp only at *;cases QJP hx;cases zC8 hc;cases d;cases n;dsimp only [Mc.C,Mc.D,Dk.C,Nk.C,Dk.ok,Nk.ok] at *;subst hw
 try dsimp only [cR,Mc.C,Mc.D,Dk.C,Nk.C] at *
 try simp only [Qaf,zca,zna,List.getD_cons_succ,List.getD_cons_zero] at *
 generalize gO:wsv m=XX,hX3:bks B=BB,hX4:OLs o=OO,gJ:m.length=nn,gM:B.length=bn,gP:o.length=on,gU:tes T=TT,htn:T.length=tn,hXl3:X.length=xn at *;subst hXl;clear gO gU hX3 gJ gM htn hT hB hY gA gH gB gI gD gE gF hB1v hb1n;refine fnW Tryz.func74 ?_;(repeat' ((conv=>whnf);first|exact zi2|(refine zj0 ?_;intro hb)|refine QHm ?_|(refine Qaz cl ?_)|(refine Qaw ca ?_)|(refine Qaw cf ?_)|(refine zpu cfr ?_)|refine zse ?_|refine zbb ?_ ?_));all_goals (conv=>whnf)
 all_goals first|skip
 all_goals
  refine Qel (x:=vc Tryz.prog tys Tryz.f74.ntmps 5 bdU) (by kernel_rfl) ?_;refine Qx0 (fun mm σ=>∃ (E:Eg) (j d:Nat),mm+j=rl/\E.ok/\Coh E/\d<=lim/\QfM (l.drop j) lim d E=(Ez,dz)/\σ=QmB lim rl j d E LL) (QsI Ez dz) 0 ?_ ?_ ?_
  .refine ⟨rl,_,?_,_,0,0,by omega,hok3,wD,Nat.zero_le _,by rw [List.drop_zero];exact hz,rfl⟩
   dsimp only [QmB,Qv4,Eg.C,Mc.C,Mc.D,Dk.C,Nk.C];simp only [Qaf,zca,zna];rw [YN,hT1v,hB2v,hX4,hXl3,ht1n,hb2n,gP];refine QG5 70 65536000 rfl rfl ?_
   first|(exact zwV [(0,some 0),(1,some 1),(2,some 2),(3,some 3),(4,some 4),(5,some 458880),(6,some 458881),(7,some 458882),(8,some 458883),(9,some 65536000)])
  .rintro mm σ ⟨E,j,d,yY,hok,fF,uG,jJ,rfl⟩ K hB hN
   by_cases hj:j<rl
   .obtain ⟨m1,hm1⟩:∃ m1,l[j]?=some m1:=⟨l[j]'(by rw [HD];omega),zgg (by omega)⟩
    have seg:=KS j m1 hm1;obtain ⟨qA,uL,vK⟩:=jG m1 (List.mem_of_getElem? hm1);rw [Qcm l j m1 hm1,QjE] at jJ
    by_cases hA:lim-d<m1.n.toNat
    .rw [zP hA] at jJ
     injection jJ with h1 h2
     subst h1 h2;exact QGl lim rl j d qV LL WP E hok fF uG K m1 qA uL vK hj KH seg hA hB
    rw [zN hA] at jJ
    cases wG:(exO E m1).2 with
    | false =>
     rw [zP wG] at jJ;injection jJ with h1 h2
     subst h1 h2;exact QGm lim rl j d qV LL WP E hok fF uG K m1 qA uL vK hj KH seg hA wG hB
    | true =>
     rw [zN (by rw [wG];decide)] at jJ;obtain ⟨_,_,_,_,_,_,HL,_,zJ,wQ,vE⟩:=Ql2 E hok fF m1 qA wG;clear HL
     cases hs:(exO E m1).1.s with
     | true =>
      rw [zP hs] at jJ;injection jJ with h1 h2
      subst h1 h2;exact QGn lim rl j d qV LL WP E hok fF uG K m1 qA uL vK hj KH seg hA wG hs hB
     | false =>
      rw [zN (by rw [hs];decide)] at jJ;exact QGo lim rl j d qV LL WP E hok fF uG K m1 qA uL vK hj KH seg hA wG hs fun σ1 hw=>hN (mm-1) _ σ1 (by omega) hw ⟨_,j+1,d+m1.n.toNat,by omega,Qhv wQ _,Qgs vE _,by omega,jJ,rfl⟩
   .obtain rfl:j=rl:=by omega
    rw [List.drop_eq_nil_of_le (by omega)] at jJ;change (E,d)=(Ez,dz) at jJ;injection jJ with h1 h2
    subst h1 h2;exact QGk lim j j d qV LL WP E hok fF uG K rfl KH hB
  .have hok:Ez.ok:=by
    have h:=QqY l lim 0 _ hok3 wD jG;rw [hz] at h;exact h
   have fF:=wD;clear hz hok3 wD KS jG cf ca cl cfr;have wH:=Qaa Ez.M.m;have wI:=Qah Ez.T;have wJ:=Qae Ez.B;have yL:=(QaA hok.o).2.1;unfold QsI QAC;obtain ⟨hME,HX,_,HS,_,GP,_,_⟩:=hok;have yN:=hME.x;have gK:=hME.c;have GC:Ez.M.ct<18446744073709551616:=hME.dv.2.2.2.1;clear hME HX HS GP fF;obtain ⟨⟨_,_,_,me,_,_,_,_,fe,ne,_,_,_,_,_⟩,Te,Be,oe,_,_⟩:=Ez;cases fe;cases ne;dsimp only at yN gK;cases QJP yN;cases zC8 gK
   try dsimp only [Eg.H,Eg.R,Eg.C,Mc.C,Mc.D,Dk.C,Nk.C,ctE] at *
   try simp only [Qaf,zca,zna] at *
   generalize wsv me=Xe,tes Te=TTe,bks Be=BBe,OLs oe=OOe,me.length=men,Te.length=ten,Be.length=ben,oe.length=oen at *;exact QJR
theorem Qxf (E:Eg) (lim:Nat) (hE:E.ok) (hC:Coh E) (qV:lim<18446744073709551616):FN 74 [.s (.ptr 0 0),.s (.w lim)] E.H (. =(Qfe lim E).1.R (.a (.s (.w ((Qfe lim E).2:Nat))))):=by
 unfold Qfe
 by_cases hw:E.M.wt=true
 .rw [zP (.inl hw)]
  exact Qy3 E hE hC lim qV hw
 have hw:=Bool.eq_false_iff.2 hw
 by_cases hi:QcS E.M=true
 .rw [zP (.inr hi)]
  exact Qy4 E hE hC lim qV hw hi
 have hi:=Bool.eq_false_iff.2 hi;rw [zN (fun h=>by rcases h with h|h<;>simp_all)]
 by_cases hK:(rsv E E.M.pc 4 1).2.2=false
 .rw [zP hK]
  exact Qy5 E hE hC lim qV hw hi hK
 .rw [zN hK]
  exact Qy6 E hE hC lim qV hw hi (by simpa using hK)
theorem QCh (m:Mi) (l:List Mi) (lim d:Nat) (E:Eg):QfM (m::l) lim d E=if lim-d<m.n.toNat then (E,d) else if (exO E m).2=false then (E,d) else if (exO E m).1.s=true then (ctE m.n.toNat (exO E m).1,d+m.n.toNat) else QfM l lim (d+m.n.toNat) (ctE m.n.toNat (exO E m).1):=rfl
def Qoi (M:Mc) (x:List Nat) (p:Nat):Mc:= { M with x:=x,pc:=M.pc+4*p,ct:=M.ct+p }
structure Bs (X:List Nat) (f q p:Nat) (x:List Nat) (E:Eg):Prop where
 (ok:E.ok) (coh:Coh E) (s:E.s=false) (fr:E.f=f) (may:QbK E.M=true) (ht:E.M.ht=false) (wt:E.M.wt=false) (int:QcS E.M=false)
 (wd:∀ j,j / 32=f->E.M.m.getD j 0=X.getD j 0) (pc:E.M.pc+4*p<4294967296) (ft:Ftc E.M (E.M.pc+4*p) q)
 (x16:x.length=16) (xr:ZL x) (x0:x.getD 0 0=0)
structure Dn (lim d:Nat) (E:Eg) (R:Eg × Nat):Prop where
 (le:d<=R.2) (li:R.2<=lim) (run:Qg9 (R.2-d) E.M R.1.M) (ok:R.1.ok) (coh:Coh R.1) (o:R.1.o=E.o)
theorem Qpe {lim d:Nat} {E:Eg} (h:d<=lim) (hE:E.ok) (hC:Coh E):Dn lim d E (E,d):=⟨Nat.le_refl _,h,by show Qg9 (d-d) _ _;rw [Nat.sub_self];rfl,hE,hC,rfl⟩
theorem QoK {X:List Nat} {f q p:Nat} {x:List Nat} {E:Eg} (h:Bs X f q p x E) (hq:q / 32=f) (qN:E.M.ct+p<1152921504606846976) (hd:dOk (X.getD q 0)=true) {r:List Nat × Nat × List Nat} (hr:opT x E.M.c E.M.m (E.M.pc+4*p) (bM (X.getD q 0))=some r) :
  Qg9 1 (Qoi E.M x p) { E.M with x:=r.1,pc:=r.2.1,m:=r.2.2,ct:=E.M.ct+p+1 }:=by
 have hok:(Qoi E.M x p).ok:=by
  obtain ⟨_,a2,_,a4,_,a6,a7,a8,a9,b1,b2,b3,_,b5⟩:=h.ok.M;exact ⟨h.x16,a2,h.xr,a4,h.pc,a6,a7,a8,a9,b1,b2,b3,by show E.M.ct+p<_;omega,b5⟩
 have qG:QbK (Qoi E.M x p)=true:=QqH E.M x E.M.m _ _ h.may h.x0 rfl (by omega);obtain ⟨g1,g2,g3⟩:=QGb (M:=Qoi E.M x p) hok qG h.ht h.wt qN h.int (q:=q) (w:=X.getD q 0) ⟨h.ft.o,h.ft.a,h.ft.k⟩ (h.wd q hq) hd hr;refine Quu g1 g2 ?_;rw [g3];unfold Qda pvT Qoi;dsimp only;rw [Nat.mod_eq_of_lt (show E.M.ct+p+1<18446744073709551616 by omega)]
theorem QmF (x:List Nat) (a u v:Nat):QaD (QaD x a u) a v=QaD x a v:=by grind [QaD,List.set_set]
theorem QvW {x c m:List Nat} {P:Nat} {o:Mi} (h:o.o=24):opT x c m P o=some (QaD x o.a o.k,w32 ((P:Nat)+4),m):=by
 unfold opT;rw [zP h]
theorem QwE {X:List Nat} {f q p n:Nat} {x:List Nat} {E E1:Eg} (h:Bs X f q p x E) (hq:q / 32=f) (uM:q%32<31) (hK:Keep E E1) (hs:E1.s=false) {r:List Nat × Nat × List Nat} (hM:E1.M=pvT E.M r) (gQ:r.2.1=E.M.pc+4*p+4) (hr0:r.1.getD 0 0=0) (qN:(E1.M.ct+n)<=1152921504606846976) :
  Bs X f (q+1) 0 r.1 (ctE n E1):=by
 obtain ⟨_,k2,k3⟩:=hK.s0 hs;have gI:=h.ok.M.ml;obtain ⟨F,_⟩:=Qia h.coh.n h.pc h.ft uM (by omega);have hm:E1.M.m=r.2.2:=by rw [hM];rfl
 have hl:r.2.2.length=E.M.m.length:=by rw [<- hm];exact hK.l
 have F2:=QxI (m1:=r.2.2) h.coh.n hl (by rw [<- hm];exact k3) F;have hX:E1.M.x=r.1:=by rw [hM];rfl
 have hP:E1.M.pc=r.2.1:=by rw [hM];rfl
 have hC:E1.M.ct=E.M.ct:=by rw [hM];rfl
 refine ⟨Qhv hK.ok n,Qgs hK.coh n,hs,hK.f.trans h.fr,?_,?_,?_,?_,fun j hj=>?_,?_,?_,?_,?_,hr0⟩
 .show QbK { E1.M with ct:=(E1.M.ct+n)%18446744073709551616 }=true
  rw [Nat.mod_eq_of_lt (by omega),hC,hM];exact QqH E.M r.1 r.2.2 r.2.1 _ h.may hr0 hl (by omega)
 .show E1.M.ht=false;rw [hM];exact h.ht
 .show E1.M.wt=false;rw [hM];exact h.wt
 .show QcS { E1.M with ct:=_ }=false
  rw [hM];exact h.int
 .show E1.M.m.getD j 0=_
  rw [k2 j (by rw [h.fr];exact hj)];exact h.wd j hj
 .grind [pvT,ctE]
 .have e:Ftc (ctE n E1).M (E.M.pc+4*p+4) (q+1):=by
   have e2:∀ N:Mc,N.c=E.M.c->N.m=r.2.2->Ftc N (E.M.pc+4*p+4) (q+1):=fun N n1 n2=>by
    obtain ⟨f1,f2,f3⟩:=F2;unfold mO at f1;unfold mA at f2;unfold mM at f3;refine ⟨?_,?_,?_⟩
    .grind [mO,cR,pvT,ctE]
    .grind [mA,cR,pvT,ctE]
    .grind [mM,cR,pvT,ctE]
   exact e2 _ hK.c hm
  show Ftc _ ((ctE n E1).M.pc+4*0) _;rw [show (ctE n E1).M.pc+4*0=E.M.pc+4*p+4 by show E1.M.pc+4*0=_;rw [hP,gQ]];exact e
 .show r.1.length=16
  rw [<- hX];exact hK.ok.M.x
 .rw [<- hX];exact hK.ok.M.xr
theorem QIZ (pc p:Nat) (h:pc+4*p<4294967296):lpc pc ((1:Int)+(p:Int))=pc+4*p:=by
 unfold lpc w32;omega
theorem Quv (m:Mi) (l:List Mi) (is:List Bool) (v:List Nat):rwL (m::l) is v=Qa5 m is v::rwL l (QfI (Qa5 m is v).o (Qa5 m is v).a is) (Qe5 (Qa5 m is v).o (Qa5 m is v).a (Qa5 m is v).k v):=rfl
theorem Qyh (X:List Nat) (hXr:ZL X) (f lim:Nat):∀ (cnt q:Nat) (is:List Bool) (v:List Nat) (p d:Nat) (E:Eg) (x:List Nat),
  is.length=16->v.length=16->(ZL v)->q / 32=f->q%32+cnt<=32->bl X cnt q≠ []->Bs X f q p x E->d<=lim->E.M.ct+(lim-d)<=1152921504606846976->Qkq is v x ->
  (x=E.M.x\/∃ m l z,rwL (bl X cnt q) is v=m::l/\m.o=24/\x=QaD E.M.x m.a z)->(p<=lim-d->Qg9 p E.M (Qoi E.M x p)) ->
  Dn lim d E (QfM (mrg (rwL (bl X cnt q) is v) p) lim d E):=by
 intro cnt
 induction cnt with
 | zero=>intro q is v p d E x _ _ _ _ _ h;exact absurd rfl h
 | succ cnt ih =>
  intro q is v p d E x UE hv jB hq uM fJ hB uG qN JR hx hrun;have YQ:bl X (cnt+1) q=if dOk (X.getD q 0)=true then (if Qcn (dOp (X.getD q 0))=true then [bM (X.getD q 0)] else bM (X.getD q 0)::bl X cnt (q+1)) else []:=rfl
  have hd:dOk (X.getD q 0)=true:=by grind
  rw [zP hd] at YQ;obtain ⟨T,hT,hTe⟩:∃ T,bl X (cnt+1) q=bM (X.getD q 0)::T/\(T≠ []->Qcn (dOp (X.getD q 0))=false/\T=bl X cnt (q+1)):=by grind
  clear YQ;rw [hT] at hx |-;rw [Quv] at hx |-;have wU:X.getD q 0<4294967296:=Qab hXr q;have qA:Qbo (bM (X.getD q 0)):=by grind [QwC,Qab,bM,List.mem_cons_self,bl,Qkq,rwL,QaD]
  obtain ⟨m,hm⟩:∃ m,Qa5 (bM (X.getD q 0)) is v=m:=⟨_,rfl⟩;have hok1:=Qiv (bM (X.getD q 0)) is v jB qA;have uL:m.n=1:=by rw [<- hm,Qv2];exact (QFr _ hd).2.2.2.2
  have VI:=fun c mm P=>QCf x c mm P (bM (X.getD q 0)) is v qA hB.xr hB.x0 JR
  rw [hm] at hok1 hx VI |-;have gW:=Qos m.o m.a m.k is v;have vT:=QhS m.o m.a m.k v hok1.2.2.2.1 jB
  have emit:∀ (rest:List Mi),(rest= []\/T≠ []/\rest=mrg (rwL T (QfI m.o m.a is) (Qe5 m.o m.a m.k v)) 0)->Dn lim d E (QfM ({ m with n:=m.n+(p:Int) }::rest) lim d E):=fun rest jI=>by
   obtain ⟨e,he⟩:∃ e:Mi,e= { m with n:=m.n+(p:Int) }:=⟨_,rfl⟩;rw [<- he,QCh];have yO:e.n=1+(p:Int):=by rw [he,<- uL]
   have hen2:e.n.toNat=p+1:=by rw [yO];omega
   have heok:Qbo e:=by rw [he];exact ⟨hok1.1,hok1.2.1,hok1.2.2.1,hok1.2.2.2.1⟩
   rw [hen2]
   by_cases hl:lim-d<p+1
   .rw [zP hl];exact Qpe uG hB.ok hB.coh
   rw [zN hl];obtain ⟨hF,hTr⟩:=QpS E hB.ok hB.coh e heok
   cases jX:(exO E e).2 with
   | false=>rw [zP rfl];exact Qpe uG hB.ok hB.coh
   | true =>
    rw [zN (fun h=>by cases h)];obtain ⟨uZ,hK⟩:=hTr jX;generalize (exO E e).1=E1 at *;clear hF hTr jX;rw [QCb,yO,QIZ _ _ hB.pc] at uZ;have hen3:opT E.M.x E.M.c E.M.m (E.M.pc+4*p) e=opT E.M.x E.M.c E.M.m (E.M.pc+4*p) m:=by rw [he];rfl
    rw [hen3] at uZ;obtain ⟨r,_,hMr⟩:∃ r,opT E.M.x E.M.c E.M.m (E.M.pc+4*p) m=some r/\pvT E.M r=E1.M:=by simp_all
    have zA:opT x E.M.c E.M.m (E.M.pc+4*p) m=some r:=by grind [QvW,QmF,bl,Qkq,rwL,QaD,Qg9,Qoi]
    have hr2:=zA;rw [VI] at hr2;have uN:=QdR (hrun (by omega)) (QoK hB hq (by omega) hd hr2);have hctM:E1.M.ct=E.M.ct:=by rw [<- hMr];rfl
    have vV:({ E.M with x:=r.1,pc:=r.2.1,m:=r.2.2,ct:=E.M.ct+p+1 }:Mc)=(ctE (p+1) E1).M:=by
     show _= { E1.M with ct:=(E1.M.ct+(p+1))%18446744073709551616 };rw [Nat.mod_eq_of_lt (by omega),<- hMr];rfl
    rw [vV] at uN
    cases hs:E1.s with
    | true =>
     rw [zP rfl];exact ⟨by show d<=d+(p+1);omega,by show d+(p+1)<=lim;omega,by show Qg9 (d+(p+1)-d) _ _;rw [show d+(p+1)-d=p+1 by omega];exact uN,Qhv hK.ok _,Qgs hK.coh _,hK.o⟩
    | false =>
     rw [zN (fun h=>by cases h)];rcases jI with jI|⟨wO,jI⟩
     .subst jI
      exact ⟨by show d<=d+(p+1);omega,by show d+(p+1)<=lim;omega,by show Qg9 (d+(p+1)-d) _ _;rw [show d+(p+1)-d=p+1 by omega];exact uN,Qhv hK.ok _,Qgs hK.coh _,hK.o⟩
     .subst jI
      obtain ⟨uS,zD⟩:=hTe wO;have hcnt:0<cnt:=by grind [bl,Qkq,rwL,QaD,Qg9,Qoi,QfM,mrg]
      have hpc4:=(Qia hB.coh.n hB.pc hB.ft (by omega) (by have:=hB.ok.M.ml;omega)).2
      have hpc1:r.2.1=E.M.pc+4*p+4:=by
       have h1:=QCe hr2 uS;rw [h1];unfold w32;omega
      obtain ⟨z,hz,_⟩:=QCg zA;have hr0:r.1.getD 0 0=0:=by rw [hz];exact QrO _ _ _ hB.x0
      have UN:=QwE (n:=p+1) hB hq (by omega) hK hs hMr.symm hpc1 hr0 (by rw [hctM];omega);have GA:=Qjc UE hv hB.x16 hok1.1 JR zA;have hEx:(ctE (p+1) E1).M.x=r.1:=by show E1.M.x=_;rw [<- hMr];rfl
      have hEc:(ctE (p+1) E1).M.ct=E.M.ct+(p+1):=by grind
      have hD:=ih (q+1) (QfI m.o m.a is) (Qe5 m.o m.a m.k v) 0 (d+(p+1)) (ctE (p+1) E1) r.1 (by rw [gW.1,UE]) (by rw [gW.2,hv]) vT (by omega) (by omega) (by rw [<- zD];exact wO) UN (by omega) (by rw [hEc];omega) GA (.inl hEx.symm) (fun _=>by grind [ctE,Qoi,bl,Qkq,rwL,QaD,Qg9,QfM]);rw [<- zD,show ((0:Nat):Int)=0 from rfl] at hD;generalize QfM (mrg (rwL T (QfI m.o m.a is) (Qe5 m.o m.a m.k v)) 0) lim (d+(p+1)) (ctE (p+1) E1)=R at *;obtain ⟨u1,u2,u3,u4,u5,u6⟩:=hD;refine ⟨by omega,u2,?_,u4,u5,u6.trans hK.o⟩;have:=QdR uN u3;rw [show p+1+(R.2-(d+(p+1)))=R.2-d by omega] at this;exact this
  cases hTc:rwL T (QfI m.o m.a is) (Qe5 m.o m.a m.k v) with
  | nil=>grind [QfM,bl,Qkq,rwL,QaD,Qg9,Qoi,mrg]
  | cons m2 l =>
   have wO:T≠ []:=fun h=>by rw [h] at hTc;cases hTc
   show Dn lim d E (QfM (if QsK m m2=true then mrg (m2::l) (m.n+(p:Int)) else { m with n:=m.n+(p:Int) }::mrg (m2::l) 0) lim d E)
   by_cases hu:QsK m m2=true
   case neg=>grind
   rw [zP hu,uL,show (1:Int)+(p:Int)=((p+1:Nat):Int) by omega,<- hTc];obtain ⟨uS,zD⟩:=hTe wO;have hcnt:0<cnt:=by grind [bl,Qkq,rwL,QaD,Qg9,Qoi,QfM,mrg]
   obtain ⟨hF4,hpc4⟩:=Qia hB.coh.n hB.pc hB.ft (by omega) (by have:=hB.ok.M.ml;omega)
   obtain ⟨val,zA,vI,hval⟩:∃ val,opT x E.M.c E.M.m (E.M.pc+4*p) m=some (QaD x m.a val,w32 (((E.M.pc+4*p:Nat):Int)+4),E.M.m)/\(m.o=24\/m.a=0)/\val<4294967296:=by
    unfold QsK at hu
    by_cases vI:m.o=24
    .exact ⟨m.k,QvW vI,.inl vI,hok1.2.2.2.1⟩
    .rw [zN vI,zba,zde] at hu
     have har2:=(Qgi _).1 hu.2;refine ⟨Qbs m.o (x.getD m.b 0) (if m.o<=13 then x.getD m.c 0 else m.k),?_,.inr hu.1,?_⟩
     .grind [opT,bl,Qkq,rwL,QaD,Qg9,Qoi,QfM]
     .refine QcU _ _ _ (Qab hB.xr _) ?_
      split
      .exact Qab hB.xr _
      .grind
   have hr2:=zA;rw [VI] at hr2;have hw32:w32 (((E.M.pc+4*p:Nat):Int)+4)=E.M.pc+4*(p+1):=by unfold w32;omega
   have GA:=Qjc UE hv hB.x16 hok1.1 JR zA;have gZ:=Qlr hB.x16 hB.xr m.a val hval;have UN:Bs X f (q+1) (p+1) (QaD x m.a val) E:=⟨hB.ok,hB.coh,hB.s,hB.fr,hB.may,hB.ht,hB.wt,hB.int,hB.wd,by omega,by rw [show E.M.pc+4*(p+1)=E.M.pc+4*p+4 by omega];exact hF4,gZ.1,gZ.2,QrO _ _ _ hB.x0⟩;rw [zD] at hTc |-;refine ih (q+1) (QfI m.o m.a is) (Qe5 m.o m.a m.k v) (p+1) d E (QaD x m.a val) (by rw [gW.1,UE]) (by rw [gW.2,hv]) vT (by omega) (by omega) (by rw [<- zD];exact wO) UN uG qN GA ?_ (fun hp=>?_)
   .grind [QCH,QsK,u1,QmF,bl,Qkq,rwL,QaD]
   .have:=QdR (hrun (by omega)) (QoK hB hq (by omega) hd hr2)
    dsimp only at this;rw [hw32] at this;exact this
def Qb3 (M:Mc):Mc:= { M with m:=mM M M.pc 4 1 }
theorem Qjn {M:Mc} (o:mO M M.pc 4 1=true) (hn:mpg M.m.length*32=M.m.length):mO (Qb3 M) M.pc 4 1=true/\mA (Qb3 M) M.pc 4 1=mA M M.pc 4 1/\mM (Qb3 M) M.pc 4 1=(Qb3 M).m/\(Qb3 M).m.length=M.m.length/\mA M M.pc 4 1%4=0:=by
 have hl:(Qb3 M).m.length=M.m.length:=Qbh _ _ _ _ _ _ _;unfold mO at o;have o0:=o;unfold rsO at o;simp only [zba,zde] at o;obtain ⟨⟨⟨o1,o2⟩,o3⟩,o4⟩:=o;have ha:mA M M.pc 4 1=if Qdb (M.c.getD 0 0)=true then frW (QaQ M.m (cR M) M.pc)*128+M.pc%128 else M.pc:=by unfold mA rsA;rw [zP o0]
 by_cases qC:Qdb (M.c.getD 0 0)=true
 .rw [zP qC] at o4 ha
  have hm:(Qb3 M).m=M.m.set (cR M*32+M.pc / 128) (QbI (QaQ M.m (cR M) M.pc) 1):=by
   show rsM _ _ _ _ _ _ _=_;unfold rsM;rw [zP ⟨o0,qC⟩];have e4:Qa8 (cR M) M.pc / 4=cR M*32+M.pc / 128:=by unfold Qa8;omega
   rw [e4];rfl
  unfold Qbm at o4;simp only [zba,zde] at o4;obtain ⟨⟨⟨⟨_,w2⟩,w3⟩,w4⟩,w5⟩:=o4;have hj:cR M*32+M.pc / 128<M.m.length:=by omega
  have hP:QaQ (Qb3 M).m (cR M) M.pc=QbI (QaQ M.m (cR M) M.pc) 1:=by grind [QaQ,QeL,mO,mpg,Qb3,mA,mM]
  have o7:rsO (Qb3 M).m (Qb3 M).m.length (M.c.getD 0 0) (cR M) M.pc ((4:Nat):Int) 1=true:=by
   show rsO (Qb3 M).m (Qb3 M).m.length (M.c.getD 0 0) (cR M) M.pc ((4:Nat):Int) 1=true;unfold rsO Qbm;rw [o1,o2,zdt o3,zP qC,hP,QvY,Qh9,hl,zdt w2,zdt w3,w4,zdt w5];rfl
  refine ⟨o7,?_,?_,hl,by rw [ha];omega⟩
  .grind [rsA,Qb3,cR,Qh9,mO,mpg,mA,mM]
  .show rsM (Qb3 M).m (Qb3 M).m.length (M.c.getD 0 0) (cR M) M.pc ((4:Nat):Int) 1=_
   unfold rsM;rw [zP ⟨o7,qC⟩];have e4:Qa8 (cR M) M.pc / 4=cR M*32+M.pc / 128:=by unfold Qa8;omega
   rw [e4];have:(Qb3 M).m.getD (cR M*32+M.pc / 128) 0=QbI (QaQ M.m (cR M) M.pc) 1:=hP;have e5:QbI ((Qb3 M).m.getD (cR M*32+M.pc / 128) 0) 1=(Qb3 M).m.getD (cR M*32+M.pc / 128) 0:=by rw [this,Qr6]
   rw [e5];exact QrP _ _
 .rw [zN qC] at o4 ha
  have hm:(Qb3 M).m=M.m:=by grind [rsM,mO,mpg,Qb3,mA,mM]
  have hM:Qb3 M=M:=by
   show ({ M with m:=(Qb3 M).m }:Mc)=M;rw [hm]
  refine ⟨by rw [hM];exact o0,by rw [hM],?_,hl,by rw [ha];omega⟩;rw [hM];show rsM _ _ _ _ _ _ _=_;unfold rsM;rw [zN (fun h=>qC h.2)]
theorem QiT {M:Mc} (hi:QcS M=false) (o:mO M M.pc 4 1=true) (hn:mpg M.m.length*32=M.m.length) (w:Nat):Qa0 (Qb3 M) w=Qa0 M w/\QbM (Qb3 M)=QbM M/\QfA (Qb3 M)=QfA M:=by
 obtain ⟨h1,h2,h3,h4,_⟩:=Qjn o hn;have zQ:QcS (Qb3 M)=false:=hi;have hP:Qc4 M=M.pc:=by unfold Qc4;rw [hi,zN (by decide)]
 have hC:Qc3 M=M.c:=by unfold Qc3;rw [hi,zN (by decide)]
 have hP2:Qc4 (Qb3 M)=M.pc:=by unfold Qc4;rw [zQ,zN (by decide)];rfl
 have VW:Qc3 (Qb3 M)=M.c:=by unfold Qc3;rw [zQ,zN (by decide)];rfl
 have UJ:rsK M.m M.m.length (M.c.getD 0 0) (M.c.getD 6 0) M.pc 4 1=0:=(QeV _ _ _ _ _ _ _).2 o;have hrk2:rsK (Qb3 M).m (Qb3 M).m.length (M.c.getD 0 0) (M.c.getD 6 0) M.pc 4 1=0:=(QeV _ _ _ _ _ _ _).2 h1;have hrm:rsM M.m M.m.length (M.c.getD 0 0) (M.c.getD 6 0) M.pc 4 1=(Qb3 M).m:=rfl;have hrm2:rsM (Qb3 M).m (Qb3 M).m.length (M.c.getD 0 0) (M.c.getD 6 0) M.pc 4 1=(Qb3 M).m:=h3;have hra:rsA (Qb3 M).m (Qb3 M).m.length (M.c.getD 0 0) (M.c.getD 6 0) M.pc 4 1=rsA M.m M.m.length (M.c.getD 0 0) (M.c.getD 6 0) M.pc 4 1:=h2
 have yV:ftW (Qb3 M).m (Qb3 M).m.length (M.c.getD 0 0) (M.c.getD 6 0) M.pc=ftW M.m M.m.length (M.c.getD 0 0) (M.c.getD 6 0) M.pc:=by
  unfold ftW;rw [zP UJ,zP hrk2,hrm,hrm2,hra]
 have hq:QaG (Qb3 M)=QaG M:=by grind [QaG,exS,Qb3,QcS,mO,mpg,Qa0,QbM]
 have hs:QaE (Qb3 M)=QaE M:=by
  unfold QaE;rw [hq];rfl
 have gN:QbM (Qb3 M)=QbM M:=by
  unfold QbM QbK;rw [h4];rfl
 refine ⟨?_,gN,?_⟩
 .unfold Qa0
  rw [hq,hs]
 .unfold QfA
  rw [gN];congr 1;unfold Qmt Qny;rw [hP,hC,hP2,VW,h4]
  by_cases hk:M.c.getD 0 0%2=1
  .have qC:¬ Qdb (M.c.getD 0 0)=true:=by unfold Qdb;rw [zde];omega
   have hm:(Qb3 M).m=M.m:=by grind [rsM,QcS,mO,mpg,Qa0,Qb3,QbM,QfA]
   rw [hm]
  .grind
theorem QnH {M M':Mc} {k:Nat} (hi:QcS M=false) (o:mO M M.pc 4 1=true) (hn:mpg M.m.length*32=M.m.length) (h:Qg9 (k+1) (Qb3 M) M'):Qg9 (k+1) M M':=by
 obtain ⟨h1,h2,h3⟩:=QiT hi o hn 0;obtain ⟨M1,g1,g2,g3,g4⟩:=h;exact ⟨M1,by rw [<- h2];exact g1,by rw [<- h3];exact g2,by rw [<- h1];exact g3,g4⟩
theorem Qy0 (E:Eg) (hE:E.ok) (hC:Coh E) (va:Nat) (gX:va<4294967296) (h:(rsv E va 4 1).2.2=true):ld4 E.M.m.length (rsv E va 4 1).2.1=true:=by
 have hr:=QeW E hE hC va 4 1 gX (.inr rfl) (.inl rfl);have fX:=hr.in_ h;have ha:=hr.a h;have hb:=hr.b;rw [h] at hb;have hn:=hC.n
 have h4:va%4=0:=by
  have hb:=hb.symm;unfold sO rsO at hb;simp only [zba] at hb;have:=of_decide_eq_true hb.1.2;omega
 have JM:(rsv E va 4 1).2.1%4=0:=by grind [sA,rsA,rsv,ld4]
 unfold ld4;rw [zdt JM,Bool.true_and];exact zdt (by omega)
structure RunK (lim:Nat) (E:Eg) (R:Eg × Nat):Prop where
 (li:R.2<=lim) (ok:R.1.ok) (coh:Coh R.1) (o:R.1.o=E.o)
 (pos:0<R.2->Qg9 R.2 E.M R.1.M)
 (zero:R.2=0->Qa0 R.1.M 0=Qa0 E.M 0/\QbM R.1.M=QbM E.M/\QfA R.1.M=QfA E.M)
theorem QIO (x:List Nat) (h:x.getD 0 0=0):Qkq isb0 Qn2 x:=fun r hr hk=>by
 rcases r with _|r
 .exact h
 .have HQ:r<15:=by omega
  exfalso;revert hk;have:∀ r:Nat,r<15->¬ isb0.getD (r+1) false=true:=by decide
  exact this r HQ
theorem QrB (E:Eg) (hE:E.ok) (hC:Coh E) (qG:QbK E.M=true) (GJ:E.M.ht=false) (lim:Nat) (qN:E.M.ct+lim<=1152921504606846976):RunK lim E (Qfe lim E):=by
 have hrf:RunK lim E (E,0):=⟨Nat.zero_le _,hE,hC,rfl,(fun h=>absurd h (Nat.lt_irrefl 0)),fun _=>⟨rfl,rfl,rfl⟩⟩;unfold Qfe
 by_cases h1:E.M.wt=true\/QcS E.M=true
 .grind
 rw [zN h1];have uO:E.M.wt=false:=by cases h:E.M.wt with|false=>rfl|true=>exact absurd (.inl h) h1
 have hi:QcS E.M=false:=by cases h:QcS E.M with|false=>rfl|true=>exact absurd (.inr h) h1
 by_cases h2:(rsv E E.M.pc 4 1).2.2=false
 .grind
 rw [zN h2];have h2:(rsv E E.M.pc 4 1).2.2=true:=by cases h:(rsv E E.M.pc 4 1).2.2 with|true=>rfl|false=>exact absurd h h2
 have hr:=QeW E hE hC E.M.pc 4 1 hE.M.pr (.inr rfl) (.inl rfl);have qZ:=Qy0 E hE hC E.M.pc hE.M.pr h2;have hO:mO E.M E.M.pc 4 1=true:=by rw [<- h2];exact hr.b.symm
 have hA:(rsv E E.M.pc 4 1).2.1=mA E.M E.M.pc 4 1:=hr.a h2;have FC:(rsv E E.M.pc 4 1).1.M=Qb3 E.M:=hr.m;obtain ⟨t1,t2,t3,t4,_⟩:=Qjn hO hC.n;obtain ⟨u1,u2,u3⟩:=QiT hi hO hC.n 0;have k1:=hr.ok;have k2:=hr.coh;have k3:=hr.o;rw [hA] at qZ |-;generalize (rsv E E.M.pc 4 1).1=E1 at *;clear hr h1 h2 hrf;have FJ:E1.M.m.length=E.M.m.length:=by rw [FC];exact t4
 obtain ⟨B2,JU,hok2,hcoh2,hb2⟩:=QvL E1 k1 k2 (mA E.M E.M.pc 4 1) (by rw [FJ];exact qZ);obtain ⟨l,hl,hl2,_,_⟩:=Qp5 E1.M.m E1.M.m.length (mA E.M E.M.pc 4 1) k1.M.mr;rw [JU] at hok2 hcoh2 |-;rw [hb2,hl,Qx5];have FD:bok E1.M.m.length (mA E.M E.M.pc 4 1) 16=true:=by unfold bok;rw [FJ,qZ];rfl
 have ZP:(fdB E1.M.m E1.M.m.length (mA E.M E.M.pc 4 1) 16).A=mA E.M E.M.pc 4 1:=by
  show blA _ _ _=_;unfold blA;rw [zP FD]
 rw [ZP];have hbL:blL E1.M.m E1.M.m.length (mA E.M E.M.pc 4 1) 16=bl E1.M.m (lmt (mA E.M E.M.pc 4 1) 16) (mA E.M E.M.pc 4 1 / 4):=by unfold blL;rw [zP FD]
 have hA2:mA E.M E.M.pc 4 1 / 4<E.M.m.length:=Qeo qZ;have gI:=hE.M.ml;clear JU hb2 hl;generalize mA E.M E.M.pc 4 1=A at *;have hok3:(⟨E1.M,E1.T,B2,E1.o,A / 128,false⟩:Eg).ok:=⟨hok2.M,hok2.T,hok2.tl,hok2.B,hok2.bl,hok2.o,hok2.ol,by show A / 128<_;omega⟩;have wD:Coh (⟨E1.M,E1.T,B2,E1.o,A / 128,false⟩:Eg):=⟨hcoh2.n,hcoh2.T,hcoh2.B⟩;show RunK lim E (QfM l lim 0 ⟨E1.M,E1.T,B2,E1.o,A / 128,false⟩);have hz:QfM [] lim 0 (⟨E1.M,E1.T,B2,E1.o,A / 128,false⟩:Eg)=(⟨E1.M,E1.T,B2,E1.o,A / 128,false⟩,0):=rfl
 by_cases fJ:bl E1.M.m (lmt A 16) (A / 4)= []
 .rw [hbL,fJ] at hl2
  change l= [] at hl2;subst hl2;rw [hz];exact ⟨Nat.zero_le _,hok3,wD,k3,(fun h=>absurd h (Nat.lt_irrefl 0)),fun _=>by grind⟩
 .rw [hbL,zN (fun h=>fJ (List.eq_nil_of_length_eq_zero h))] at hl2
  subst hl2;have VM:E.M.x.getD 0 0=0:=by grind [QbK,Qfe]
  have YW:A / 4%32+lmt A 16<=32:=by unfold lmt;omega
  have hB:Bs E1.M.m (A / 128) (A / 4) 0 E1.M.x ⟨E1.M,E1.T,B2,E1.o,A / 128,false⟩:=by
   refine ⟨hok3,wD,rfl,rfl,?_,?_,?_,?_,fun j hj=>rfl,?_,?_,k1.M.x,k1.M.xr,?_⟩
   .show QbK E1.M=true
    have:QbM (Qb3 E.M)=QbM E.M:=u2;rw [FC];exact QqH E.M E.M.x (Qb3 E.M).m E.M.pc E.M.ct qG VM t4 (by omega)
   .show E1.M.ht=false;rw [FC];exact GJ
   .show E1.M.wt=false;rw [FC];exact uO
   .show QcS E1.M=false;rw [FC];exact hi
   .show E1.M.pc+4*0<_
    have:=k1.M.pr;omega
   .show Ftc E1.M (E1.M.pc+4*0) (A / 4)
    rw [FC];show Ftc (Qb3 E.M) E.M.pc (A / 4);exact ⟨t1,by rw [t2];omega,t3⟩
   .rw [FC];exact VM
  have hD:=Qyh E1.M.m k1.M.mr (A / 128) lim (lmt A 16) (A / 4) isb0 Qn2 0 0 ⟨E1.M,E1.T,B2,E1.o,A / 128,false⟩ E1.M.x rfl rfl QiG (by omega) YW fJ hB (Nat.zero_le _) (by show E1.M.ct+(lim-0)<=_;rw [FC];show E.M.ct+(lim-0)<=_;omega) (QIO _ (by rw [FC];exact VM)) (.inl rfl) (fun _=>rfl);change Dn lim 0 _ (QfM (Qp8 (bl E1.M.m (lmt A 16) (A / 4))) lim 0 _) at hD;generalize QfM (Qp8 (bl E1.M.m (lmt A 16) (A / 4))) lim 0 ⟨E1.M,E1.T,B2,E1.o,A / 128,false⟩=R at *;obtain ⟨_,d2,d3,d4,d5,d6⟩:=hD;rw [Nat.sub_zero] at d3;change Qg9 R.2 E1.M R.1.M at d3;rw [FC] at d3;refine ⟨d2,d4,d5,d6.trans k3,fun hp=>?_,fun h0=>?_⟩
  .obtain ⟨k,hk⟩:∃ k,R.2=k+1:=⟨R.2-1,by omega⟩
   rw [hk] at d3 |-;exact QnH hi hO hC.n d3
  .rw [h0] at d3
   have d3:Qb3 E.M=R.1.M:=d3;rw [<- d3];exact ⟨u1,u2,u3⟩
theorem Qzs (l:List Nat):∀ E:Eg,(l.foldl QcI E).M=E.M/\(l.foldl QcI E).o=E.o/\(l.foldl QcI E).B.Sublist E.B/\(∀ b∈(l.foldl QcI E).B,∀ i∈l,fk b≠(i:Int))/\((l.foldl QcI E).T= []\/(l.foldl QcI E).T=E.T/\cR E.M ∉ l):=by
 induction l with
 | nil=>grind
 | cons a l ih =>
  intro E;obtain ⟨h1,h2,h3,_,_⟩:=ih (QcI E a);have e1:(QcI E a).M=E.M:=by unfold QcI;split<;>rfl
  have e2:(QcI E a).o=E.o:=by unfold QcI;split<;>rfl
  have e3:(QcI E a).B=E.B.filter (fun b=>decide (fk b≠(a:Int))):=by unfold QcI;split<;>rfl
  have e4:(QcI E a).T=if a=cR E.M then [] else E.T:=by unfold QcI;split<;>rfl
  show (l.foldl QcI (QcI E a)).M=_/\_;refine ⟨h1.trans e1,h2.trans e2,(h3.trans (by rw [e3];exact List.filter_sublist)),fun b hb i hi=>?_,?_⟩
  .grind
  .grind
theorem Qzt (M0:Mc) (E:Eg) (hl:E.M.m.length=M0.m.length) (hn:mpg M0.m.length*32=M0.m.length) (hT:Qh1 E.T M0.m M0.m.length (cR M0)=true) (hB:Qho M0.m M0.m.length E.B):Coh (stl M0 E):=by
 have e1:(Qkn (cR M0) E).M=E.M:=by unfold Qkn;split<;>rfl
 have e2:(Qkn (cR M0) E).B=E.B:=by unfold Qkn;split<;>rfl
 obtain ⟨h1,_,h3,h4,h5⟩:=Qzs (Qd2 M0.m E.M.m E.M.m.length) (Qkn (cR M0) E);have hcs:=fun i h j hj=>Qi5 (a:=M0.m) (b:=E.M.m) (n:=E.M.m.length) hl.symm rfl (by rw [hl];exact hn) i h j hj
 have gN:stl M0 E=(Qd2 M0.m E.M.m E.M.m.length).foldl QcI (Qkn (cR M0) E):=rfl;rw [gN];generalize (Qd2 M0.m E.M.m E.M.m.length).foldl QcI (Qkn (cR M0) E)=F at *;rw [e1] at h1 h5;rw [e2] at h3;refine ⟨by rw [h1,hl];exact hn,?_,?_⟩
 .grind [QlW,Qkn,Qjb,cR,mpg,Qh1,Qho,stl]
 .rw [h1,hl]
  refine QkE M0.m E.M.m _ E.B F.B h3 (fun b hb j hj=>?_) hB;exact hcs (b.A / 128) (fun hm=>h4 b hb _ hm rfl) j hj
theorem QrQ (E:Eg) (hE:E.ok) (hC:Coh E) (vR:E.o.length<900000) (w:Nat) (hw:w<4294967296):(sgl w E).ok/\Coh (sgl w E)/\(sgl w E).M=(QbS E.M w).1/\(sgl w E).o=E.o++(QbS E.M w).2.toList:=by
 obtain ⟨g1,g2,g3⟩:=Qg2 E.M hE.M w hw;have qW:Qbk (E.o++(QbS E.M w).2.toList):=QcO (O:=(QbS E.M w).2) hE.o g2;have wS:(E.o++(QbS E.M w).2.toList).length<=900000:=by grind
 have HT:(⟨(QbS E.M w).1,E.T,E.B,E.o++(QbS E.M w).2.toList,E.f,E.s⟩:Eg).ok:=⟨g1,hE.T,hE.tl,hE.B,hE.bl,qW,wS,hE.f⟩;obtain ⟨_,_,_,he,hok⟩:=Qr0 E.M _ HT;have hcoh:=Qzt E.M ⟨(QbS E.M w).1,E.T,E.B,E.o++(QbS E.M w).2.toList,E.f,E.s⟩ g3 hC.n hC.T hC.B;have hs:sgl w E=stl E.M ⟨(QbS E.M w).1,E.T,E.B,E.o++(QbS E.M w).2.toList,E.f,E.s⟩:=rfl;rw [hs];exact ⟨hok,hcoh,by rw [he],by rw [he]⟩
def QmV:Nat->Mc->List (List SV)->Mc->Prop
 | 0,M,l,M'=>M=M'/\l= []
 | k+1,M,l,M'=>∃ M1 o l',QbM M=false/\QfA M=false/\Qa0 M 0=(M1,o)/\l=o.toList++l'/\QmV k M1 l' M'
theorem QrC:∀ {k:Nat} {M M':Mc},Qg9 k M M'->QmV k M [] M'
 | 0,M,M',h=>⟨h,rfl⟩
 | k+1,M,M',⟨M1,h1,h2,h3,h4⟩=>⟨M1,none,[],h1,h2,h3,rfl,QrC h4⟩
theorem Qff:∀ {k j:Nat} {M M1 M2:Mc} {l l':List (List SV)},QmV k M l M1->QmV j M1 l' M2->QmV (k+j) M (l++l') M2
 | 0,j,M,M1,M2,l,l',⟨h1,h2⟩,g=>by subst h1 h2;rw [Nat.zero_add];exact g
 | k+1,j,M,M1,M2,l,l',⟨N,o,l1,h1,h2,h3,h4,h5⟩,g=>by
  rw [show k+1+j=(k+j)+1 by omega];exact ⟨N,o,l1++l',h1,h2,h3,by rw [h4,List.append_assoc],Qff h5 g⟩
theorem QmA {M M1:Mc} {o:Option (List SV)} (h1:QbM M=false) (h2:QfA M=false) (h3:Qa0 M 0=(M1,o)):QmV 1 M o.toList M1:=⟨M1,o,[],h1,h2,h3,(List.append_nil _).symm,rfl,rfl⟩
theorem Qr2 {M:Mc} (h:QbM M=false):QbK M=true/\M.ht=false/\Qhy M=false/\M.ct<1152921504606846976:=by grind [QbM,Bool.or_eq_false_iff,Bool.not_eq_false',QbK,Qhy]
theorem QBU (M:Mc) (p:Int):(inM M p).ct=M.ct:=by unfold inM;split<;>rfl
theorem Qyn (M:Mc) (p:Int) (v:Nat):(QbA M p v).1.ct=M.ct:=by
 unfold QbA
 repeat' split
 all_goals rfl
theorem Qoq (M:Mc) (w:Nat) (h:M.ct<1152921504606846976):(Qa0 M w).1.ct=M.ct+1:=by
 have hm:(M.ct+1)%18446744073709551616=M.ct+1:=Nat.mod_eq_of_lt (by omega);unfold Qa0;split
 .show ((inM (QaE M) (eP (QaG M).e)).ct+1)%18446744073709551616=_
  rw [QBU];exact hm
 split
 .show ((QbA (QaE M) (eP (QaG M).e) (eV (QaG M).e)).1.ct+1)%18446744073709551616=_
  rw [Qyn];exact hm
 split
 .exact hm
 split
 .exact hm
 .exact hm
theorem QeX:∀ {k:Nat} {M M':Mc} {l:List (List SV)},M.ok->QbK M=true->QmV k M l M'->M'.ok/\QbK M'=true/\M'.ct=M.ct+k
 | 0,M,M',l,h,hm,⟨h1,h2⟩=>by subst h1;exact ⟨h,hm,rfl⟩
 | k+1,M,M',l,h,hm,⟨N,o,l1,h1,h2,h3,h4,h5⟩=>by
  have e1:N=(Qa0 M 0).1:=by rw [h3]
  have hN:N.ok:=by rw [e1];exact QcA M h 0 (by decide)
  have hmN:QbK N=true:=by rw [e1];exact QfS M h 0 hm h1
  have hcN:N.ct=M.ct+1:=by rw [e1];exact Qoq M 0 (Qr2 h1).2.2.2
  obtain ⟨q1,q2,_⟩:=QeX hN hmN h5;exact ⟨q1,q2,by omega⟩
structure Adv (lim n:Nat) (E:Eg) (R:Eg × Nat):Prop where
 (le:n<=R.2) (li:R.2<=lim) (ok:R.1.ok) (coh:Coh R.1) (may:QbK R.1.M=true)
 (run:∃ l,R.1.o=E.o++l/\QmV (R.2-n) E.M l R.1.M) (fin:R.2=lim\/Qog R.1.M=true) (ol:R.1.o.length<=E.o.length+(R.2-n))
theorem Qji {M:Mc} (hm:QbK M=true) (h:Qog M=false):QbM M=false/\QfA M=false/\M.ht=false/\M.ct<1152921504606846976:=by grind [Qog,Bool.or_eq_false_iff,QbM,QbK,QfA]
theorem QhR:∀ (k lim n:Nat) (E:Eg),E.ok->Coh E->QbK E.M=true->n<=lim->lim-n<=k->E.M.ct+(lim-n)<=1152921504606846976->E.o.length+(lim-n)<=900000->Adv lim n E (QmW k lim n E)
 | 0,lim,n,E,hE,hC,hm,h1,h2,h3,h4=>by
  have:n=lim:=by omega
  exact ⟨Nat.le_refl _,h1,hE,hC,hm,⟨[],(List.append_nil _).symm,by show QmV (n-n) _ _ _;rw [Nat.sub_self];exact ⟨rfl,rfl⟩⟩,.inl this,by show E.o.length<=_;omega⟩
 | k+1,lim,n,E,hE,hC,hm,h1,h2,h3,h4=>by
  unfold QmW
  by_cases hc:n<lim/\Qog E.M=false
  case neg =>
   rw [zN hc];refine ⟨Nat.le_refl _,h1,hE,hC,hm,⟨[],(List.append_nil _).symm,by show QmV (n-n) _ _ _;rw [Nat.sub_self];exact ⟨rfl,rfl⟩⟩,?_,by show E.o.length<=_;omega⟩
   by_cases hn:n<lim
   .grind
   .omega
  rw [zP hc];obtain ⟨p1,p2,p3,_⟩:=Qji hm hc.2;have hR:=QrB E hE hC hm p3 (lim-n) (by omega);generalize Qfe (lim-n) E=R at *;obtain ⟨_,r2,r3,r4,r5,r6⟩:=hR
  by_cases h0:R.2=0
  .rw [zP h0]
   obtain ⟨z1,z2,_⟩:=r6 h0;have vR:R.1.o.length<900000:=by rw [r4];omega
   obtain ⟨s1,s2,s3,s4⟩:=QrQ R.1 r2 r3 vR 0 (by decide);have gN:QbS R.1.M 0=Qa0 E.M 0:=by unfold QbS;rw [z2,p1,zN (by decide),z1]
   rw [gN] at s3 s4;rw [r4] at s4;have hrun:QmV 1 E.M (Qa0 E.M 0).2.toList (sgl 0 R.1).M:=by rw [s3];exact QmA p1 p2 rfl
   obtain ⟨_,m2,_⟩:=QeX hE.M hm hrun;have qK:(sgl 0 R.1).o.length<=E.o.length+1:=by grind
   generalize sgl 0 R.1=E1 at *;have ih:=QhR k lim (n+1) E1 s1 s2 m2 (by omega) (by omega) (by omega) (by omega);generalize QmW k lim (n+1) E1=Q at *;obtain ⟨_,q2,q3,q4,q5,⟨l,q6,q7⟩,q8,q9⟩:=ih;refine ⟨by omega,q2,q3,q4,q5,⟨(Qa0 E.M 0).2.toList++l,by rw [q6,s4,List.append_assoc],?_⟩,q8,by omega⟩;have:=Qff hrun q7;rw [show 1+(Q.2-(n+1))=Q.2-n by omega] at this;exact this
  .rw [zN h0]
   have hrun:=QrC (r5 (by omega));obtain ⟨_,m2,_⟩:=QeX hE.M hm hrun;have ih:=QhR k lim (n+R.2) R.1 r2 r3 m2 (by omega) (by omega) (by omega) (by rw [r4];omega);generalize QmW k lim (n+R.2) R.1=Q at *;obtain ⟨_,q2,q3,q4,q5,⟨l,q6,q7⟩,q8,q9⟩:=ih;refine ⟨by omega,q2,q3,q4,q5,⟨l,by rw [q6,r4],?_⟩,q8,by rw [r4] at q9;omega⟩;have:=Qff hrun q7;rw [show R.2+(Q.2-(n+R.2))=Q.2-n by omega,zna] at this;exact this
end Go.Proofs.YtpgkkfajljekpaaGreat
