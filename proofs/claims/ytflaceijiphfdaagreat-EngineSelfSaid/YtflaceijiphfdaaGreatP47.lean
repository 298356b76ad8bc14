import Derived.Test.YtflaceijiphfdaaGreatP44
import Derived.Test.YtflaceijiphfdaaGreatP46
set_option linter.unusedSimpArgs false
set_option linter.unusedVariables false
set_option maxHeartbeats 0
set_option maxRecDepth 100000
namespace Go.Proofs.YtflaceijiphfdaaGreat
open Go Go.RowKit
theorem QFS (lim rl j d:Nat) (qM:lim<18446744073709551616) (L:List SV) (WT:Qaq L=true) (E:Eg) (hok:E.ok) (fE:Coh E) (zL:d<=lim) (K:Exit->St->Prop) (m1:Mi) (fW:Qbn m1) (zR:1<=m1.n) (wC:m1.n<=16) (hj:j<rl) (uG:rl<=16) (seg:(m1.C).length=6/\∀ (i:Nat) s,(m1.C)[i]?=some s->L[j*6+i]?=some s) (hA:¬ lim-d<m1.n.toNat) (vT:(exO E m1).2=false) (hB:∀ σ1,Wk Tryz.f48.ntmps 5 σ1 (Qsn E d)->K (.exit 0) σ1) :
  vc Tryz.prog tys Tryz.f48.ntmps 5 bdU (Qmk lim rl j d E L) K:=by
 unfold Qmk QvD;unfold Qsn QAd at hB;have ce_:=Qpy E hok fE m1 fW ⟨zR,wC⟩;obtain ⟨nN,KZ⟩:∃ nN:Nat,m1.n=(nN:Int):=⟨m1.n.toNat,by omega⟩;have JA:m1.n.toNat=nN:=by omega
 rw [JA] at hA;have q2:IntKind.i64.wrap ((j:Int)+1)=((j+1:Nat):Int):=QbF;have q3:IntKind.u64.wrap ((lim:Int)-(d:Int))=((lim-d:Nat):Int):=Qg8;have ix1:0+((j:Nat):Int).toNat * ty126.size=j*6:=QuK;have vU:=Qaa E.M.m;have vV:=Qaf E.T;have vW:=Qad E.B;have wY:=(Qaz hok.o).2.1;have WR:=((Qpz E hok fE m1 fW).1 vT).1;rw [WR,vT] at ce_;clear WR vT;have q4:=q3;have q5:=q3;obtain ⟨_,_,_,_,mk⟩:=m1;dsimp only [Mi.C] at *;subst KZ;obtain ⟨hME,uZ,_,uX,_,HO,_,_⟩:=hok;have yM:=hME.x;have gM:=hME.c;have HF:E.M.ct<18446744073709551616:=hME.dv.2.2.2.1;clear hME uZ uX HO fE;obtain ⟨⟨_,_,_,me,_,_,_,_,fe,ne,_,_,_,_,_⟩,Te,Be,oe,_,_⟩:=E;cases fe;cases ne;dsimp only at yM gM;cases QaO yM;cases zC8 gM
 try dsimp only [Eg.H,Eg.R,Eg.C,Mc.C,Mc.D,Dk.C,Nk.C,ctE] at *
 try simp only [Qai,zca,zna] at *
 generalize wsv me=Xe,tes Te=TTe,bks Be=BBe,OLs oe=OOe,me.length=men,Te.length=ten,Be.length=ben,oe.length=oen,lim-d=ld at *;exact QC8
theorem QFT (lim rl j d:Nat) (qM:lim<18446744073709551616) (L:List SV) (WT:Qaq L=true) (E:Eg) (hok:E.ok) (fE:Coh E) (zL:d<=lim) (K:Exit->St->Prop) (m1:Mi) (fW:Qbn m1) (zR:1<=m1.n) (wC:m1.n<=16) (hj:j<rl) (uG:rl<=16) (seg:(m1.C).length=6/\∀ (i:Nat) s,(m1.C)[i]?=some s->L[j*6+i]?=some s) (hA:¬ lim-d<m1.n.toNat) (vT:(exO E m1).2=true) (hs:(exO E m1).1.s=true) (hB:∀ σ1,Wk Tryz.f48.ntmps 5 σ1 (Qsn (ctE m1.n.toNat (exO E m1).1) (d+m1.n.toNat))->K (.exit 0) σ1) :
  vc Tryz.prog tys Tryz.f48.ntmps 5 bdU (Qmk lim rl j d E L) K:=by
 unfold Qmk QvD;unfold Qsn QAd at hB;have ce_:=Qpy E hok fE m1 fW ⟨zR,wC⟩;obtain ⟨_,_,X',T',B',_,uN,JJ,yW,wD,jW⟩:=QlP E hok fE m1 fW vT;rw [uN] at ce_ hs hB wD jW;rw [vT] at ce_;clear uN vT;dsimp only at hs;subst hs;obtain ⟨nN,KZ⟩:∃ nN:Nat,m1.n=(nN:Int):=⟨m1.n.toNat,by omega⟩;have JA:m1.n.toNat=nN:=by omega
 rw [JA] at hA hB;have q2:IntKind.i64.wrap ((j:Int)+1)=((j+1:Nat):Int):=QbF;have q3:IntKind.u64.wrap ((lim:Int)-(d:Int))=((lim-d:Nat):Int):=Qg8;have ix1:0+((j:Nat):Int).toNat * ty126.size=j*6:=QuK;have vU:=Qaa E.M.m;have vV:=Qaf E.T;have vW:=Qad E.B;have wY:=(Qaz hok.o).2.1;have q4:IntKind.u64.wrap ((E.M.ct:Int)+(nN:Int))=(((E.M.ct+nN)%18446744073709551616:Nat):Int):=by rw [QnP];omega
 have q5:IntKind.u64.wrap ((d:Int)+(nN:Int))=((d+nN:Nat):Int):=Qg8;have HR:=Qaa X';have hsT':=Qaf T';have hsB':=Qad B';cases QaO JJ;unfold ctE at hB;dsimp only at hB;generalize qY:(E.M.ct+nN)%18446744073709551616=ct2 at *;clear wD jW;obtain ⟨_,_,_,_,mk⟩:=m1;dsimp only [Mi.C] at *;subst KZ;obtain ⟨hME,uZ,_,uX,_,HO,_,_⟩:=hok;have yM:=hME.x;have gM:=hME.c;have HF:E.M.ct<18446744073709551616:=hME.dv.2.2.2.1;clear hME uZ uX HO fE;obtain ⟨⟨_,_,_,me,_,_,_,_,fe,ne,_,_,_,_,_⟩,Te,Be,oe,_,_⟩:=E;cases fe;cases ne;dsimp only at yM gM;cases QaO yM;cases zC8 gM
 try dsimp only [Eg.H,Eg.R,Eg.C,Mc.C,Mc.D,Dk.C,Nk.C,ctE] at *
 try simp only [Qai,zca,zna] at *
 generalize wsv me=Xe,tes Te=TTe,bks Be=BBe,OLs oe=OOe,me.length=men,Te.length=ten,Be.length=ben,oe.length=oen,wsv X'=X2e,tes T'=T2e,bks B'=B2e,X'.length=x2n at *;subst yW;generalize T'.length=t2n,B'.length=b2n',lim-d=ld at *;clear qY;exact QC8
theorem QFU (lim rl j d:Nat) (qM:lim<18446744073709551616) (L:List SV) (WT:Qaq L=true) (E:Eg) (hok:E.ok) (fE:Coh E) (zL:d<=lim) (K:Exit->St->Prop) (m1:Mi) (fW:Qbn m1) (zR:1<=m1.n) (wC:m1.n<=16) (hj:j<rl) (uG:rl<=16) (seg:(m1.C).length=6/\∀ (i:Nat) s,(m1.C)[i]?=some s->L[j*6+i]?=some s) (hA:¬ lim-d<m1.n.toNat) (vT:(exO E m1).2=true) (hs:(exO E m1).1.s=false) (hN:∀ σ1,Wk Tryz.f48.ntmps 5 σ1 (Qmk lim rl (j+1) (d+m1.n.toNat) (ctE m1.n.toNat (exO E m1).1) L)->K .normal σ1) :
  vc Tryz.prog tys Tryz.f48.ntmps 5 bdU (Qmk lim rl j d E L) K:=by
 unfold Qmk QvD;unfold Qmk QvD at hN;have ce_:=Qpy E hok fE m1 fW ⟨zR,wC⟩;obtain ⟨_,_,X',T',B',_,uN,JJ,yW,wD,jW⟩:=QlP E hok fE m1 fW vT;rw [uN] at ce_ hs hN wD jW;rw [vT] at ce_;clear uN vT;dsimp only at hs;subst hs;obtain ⟨nN,KZ⟩:∃ nN:Nat,m1.n=(nN:Int):=⟨m1.n.toNat,by omega⟩;have JA:m1.n.toNat=nN:=by omega
 rw [JA] at hA hN;have q2:IntKind.i64.wrap ((j:Int)+1)=((j+1:Nat):Int):=QbF;have q3:IntKind.u64.wrap ((lim:Int)-(d:Int))=((lim-d:Nat):Int):=Qg8;have ix1:0+((j:Nat):Int).toNat * ty126.size=j*6:=QuK;have vU:=Qaa E.M.m;have vV:=Qaf E.T;have vW:=Qad E.B;have wY:=(Qaz hok.o).2.1;have q4:IntKind.u64.wrap ((E.M.ct:Int)+(nN:Int))=(((E.M.ct+nN)%18446744073709551616:Nat):Int):=by rw [QnP];omega
 have q5:IntKind.u64.wrap ((d:Int)+(nN:Int))=((d+nN:Nat):Int):=Qg8;have HR:=Qaa X';have hsT':=Qaf T';have hsB':=Qad B';cases QaO JJ;unfold ctE at hN;dsimp only at hN;generalize qY:(E.M.ct+nN)%18446744073709551616=ct2 at *;clear wD jW;cases m1;dsimp only [Mi.C] at *;subst KZ;obtain ⟨hME,uZ,_,uX,_,HO,_,_⟩:=hok;have yM:=hME.x;have gM:=hME.c;have HF:E.M.ct<18446744073709551616:=hME.dv.2.2.2.1;clear hME uZ uX HO fE;obtain ⟨⟨_,_,_,me,_,_,_,_,fe,ne,_,_,_,_,_⟩,Te,Be,oe,_,_⟩:=E;cases fe;cases ne;dsimp only at yM gM;cases QaO yM;cases zC8 gM
 try dsimp only [Eg.H,Eg.R,Eg.C,Mc.C,Mc.D,Dk.C,Nk.C,ctE] at *
 try simp only [Qai,zca,zna] at *
 generalize wsv me=Xe,tes Te=TTe,bks Be=BBe,OLs oe=OOe,me.length=men,Te.length=ten,Be.length=ben,oe.length=oen,wsv X'=X2e,tes T'=T2e,bks B'=B2e,X'.length=x2n at *;subst yW;generalize T'.length=t2n,B'.length=b2n',lim-d=ld at *;clear qY;(conv=>whnf);(repeat' ((first|exact zi3|refine zj0 fun hb=>?_|refine QHw ?_|refine QvT ?_|refine Qfy ?_|refine Qek ?_|(refine Qaw ce_ ?_)|refine zse ?_|refine zbb ?_ ?_)<;>conv=>whnf))
 all_goals first|(refine hN _ ?_;(exact zwV [(0,some 0),(1,some 1),(2,some 2),(3,some 3),(4,some 4),(5,some 197248),(6,some 197249),(7,some 197250),(8,some 197251),(9,some 9)]))
theorem QyC (E:Eg) (hE:E.ok) (hC:Coh E) (lim:Nat) (qM:lim<18446744073709551616) (hw:E.M.wt=false) (hi:QcQ E.M=false) (hK:(rsv E E.M.pc 4 1).2.2=true) :
  FN 48 [.s (.ptr 0 0),.s (.w lim)] E.H (. =(QfB (miL (fnd (rsv E E.M.pc 4 1).1 (rsv E E.M.pc 4 1).2.1).2.l) lim 0 { (fnd (rsv E E.M.pc 4 1).1 (rsv E E.M.pc 4 1).2.1).1 with f:=(fnd (rsv E E.M.pc 4 1).1 (rsv E E.M.pc 4 1).2.1).2.A / 128,s:=false } |> fun r=>Eg.R r.1 (.a (.s (.w (r.2:Nat)))))):=by
 have cl:=Qde E.M hE.M;have fF:=Qab hE.M.cr 0;have KG:=Qab hE.M.cr 7;have yO:=QeY E.M;have a2:=Qhe (E.M.c.getD 0 0) fF;have an:=QhJ (Qfp E.M) (E.M.c.getD 7 0) yO KG;obtain ⟨ir,zD⟩:∃ k,E.M.c.getD 0 0 / 2%2=k:=⟨_,rfl⟩;obtain ⟨en,yA⟩:∃ k,Qfp E.M &&& E.M.c.getD 7 0=k:=⟨_,rfl⟩;rw [zD] at a2;rw [yA] at an;have hint:QcQ E.M=decide (ir=1/\en≠0):=by unfold QcQ QiA;rw [zD,yA]
 have KX:ir<2:=by omega
 clear zD yA;generalize Qfp E.M=ln at *;rw [hi] at hint;have hint:=of_decide_eq_false hint.symm;clear hi;have ca:=Qfs E hE E.M.pc 4 1 hE.M.pr (.inr rfl);have hr:=QeK E hE hC E.M.pc 4 1 hE.M.pr (.inr rfl) (.inl rfl);have qU:=Qyv E hE hC E.M.pc hE.M.pr hK;obtain ⟨X,T1,B1,s1,he,hXl,hok1,qE⟩:=Qht E hE E.M.pc 4 1 hE.M.pr;have HB:=hr.coh;have hA2:=(hr.in_ hK).2;rw [hK] at ca;clear qE hr hK;generalize (rsv E E.M.pc 4 1).2.1=A at *;rw [he] at ca hok1 HB |-;clear he;have yW:(⟨{ E.M with m:=X },T1,B1,E.o,E.f,s1⟩:Eg).M.m.length=E.M.m.length:=hXl;rw [<- yW] at qU;clear yW;have cf:=QBo _ hok1 A hA2;obtain ⟨B2,KM,hok2,hcoh2,jU⟩:=Qvj _ hok1 HB A qU;obtain ⟨l,GD,jI,jE,uO⟩:=QpM X X.length A hok1.M.mr;rw [KM] at cf hok2 hcoh2 |-;rw [jU] at cf |-;have WZ:(fdB X X.length A 16).A<4294967296:=QuV _ _ _ hA2;change Fn _ _ _ _ (. =Eg.R _ (.a (.agg (fdB X X.length A 16).C))) at cf;show Fn _ _ _ _ (. =Eg.R (QfB (miL (fdB X X.length A 16).l) lim 0 ⟨{ E.M with m:=X },T1,B2,E.o,(fdB X X.length A 16).A / 128,false⟩).1 (.a (.s (.w ((QfB (miL (fdB X X.length A 16).l) lim 0 ⟨{ E.M with m:=X },T1,B2,E.o,(fdB X X.length A 16).A / 128,false⟩).2:Nat)))));clear KM jU qU jI;generalize fdB X X.length A 16=b at *;obtain ⟨bA,bL,bl⟩:=b;dsimp only at GD WZ |-;subst GD;rw [QxC];have cfr:=Qi8 bA WZ bL (l.map Mi.z) (l.map Mi.z).length;dsimp only [Bk.C] at cf;rw [Qia,List.length_map] at cf cfr;obtain ⟨⟨Ez,dz⟩,hz⟩:∃ r,QfB l lim 0 ⟨{ E.M with m:=X },T1,B2,E.o,bA / 128,false⟩=r:=⟨_,rfl⟩;rw [hz];dsimp only;have uA:(⟨{ E.M with m:=X },T1,B2,E.o,bA / 128,false⟩:Eg).ok:=⟨hok2.M,hok2.T,hok2.tl,hok2.B,hok2.bl,hok2.o,hok2.ol,by show bA / 128<_;omega⟩;have vQ:Coh (⟨{ E.M with m:=X },T1,B2,E.o,bA / 128,false⟩:Eg):=⟨hcoh2.n,hcoh2.T,hcoh2.B⟩;clear hok2 hcoh2 hok1 HB;have hfA:bA / 128<4294967296:=by omega
 have vZ:=Qaf T1;have yT:=Qad B1;have GJ:=Qad B2;have yY:=Qaa X;have VB:=Qa9 l;have FC:=Qgy l;have fJ:=Qaa E.M.m;have gW:=Qaf E.T;have fG:=Qad E.B;have qH:=(Qaz hE.o).2.1;obtain ⟨hM,hT,_,hB,_,_,_,_⟩:=hE;obtain ⟨M,T,B,o,f,s⟩:=E;dsimp only [Eg.H,Eg.R,Eg.Rk,Eg.C,wrt] at *;generalize VW:wsv X=XV,hT1v:tes T1=TT1,hB1v:bks B1=BB1,hB2v:bks B2=BB2,mcs l=LL,ht1n:T1.length=t1n,hb1n:B1.length=b1n,hb2n:B2.length=b2n,uG:l.length=rl,bA / 128=bF at *;obtain ⟨hx,hc,hY,gA,gI,gB,gH,gE,gD,gG⟩:=hM;obtain ⟨x,pc,c,m,_,_,_,_,d,n,_,_,ct,wt⟩:=M;dsimp only at *;cases QaO hx;cases zC8 hc;cases d;cases n;dsimp only [Mc.C,Mc.D,Dk.C,Nk.C,Dk.ok,Nk.ok] at *;subst hw
 try dsimp only [cR,Mc.C,Mc.D,Dk.C,Nk.C] at *
 try simp only [Qai,zca,zna,List.getD_cons_succ,List.getD_cons_zero] at *
 generalize gP:wsv m=XX,hX3:bks B=BB,hX4:OLs o=OO,gJ:m.length=nn,gL:B.length=bn,hon:o.length=on,gT:tes T=TT,htn:T.length=tn,hXl3:X.length=xn at *;subst hXl;clear gP gT hX3 gJ gL htn hT hB hY gA gI gB gH gE gD gG hB1v hb1n;refine fnW Tryz.func48 ?_;(conv=>whnf);(repeat' ((first|exact zi2|refine zj0 fun hb=>?_|refine QGK ?_|(refine QaD cl ?_)|(refine Qaw ca ?_)|(refine Qaw cf ?_)|(refine zpu cfr ?_)|refine zse ?_|refine zbb ?_ ?_)<;>conv=>whnf))
 all_goals first|skip
 all_goals
  refine Qqj (x:=vc Tryz.prog tys Tryz.f48.ntmps 5 bdU) (by kernel_rfl) ?_;refine Qqk (fun mm σ=>∃ (E:Eg) (j d:Nat),mm+j=rl/\E.ok/\Coh E/\d<=lim/\QfB (l.drop j) lim d E=(Ez,dz)/\σ=Qmk lim rl j d E LL) (Qsn Ez dz) 0 ?_ ?_ ?_
  .refine ⟨rl,_,?_,_,0,0,by omega,uA,vQ,Nat.zero_le _,by rw [List.drop_zero];exact hz,rfl⟩
   dsimp only [Qmk,QvD,Eg.C,Mc.C,Mc.D,Dk.C,Nk.C];simp only [Qai,zca,zna];rw [VW,hT1v,hB2v,hX4,hXl3,ht1n,hb2n,hon];refine QGu 70 65536000 rfl rfl ?_
   first|(exact zwV [(0,some 0),(1,some 1),(2,some 2),(3,some 3),(4,some 4),(5,some 458880),(6,some 458881),(7,some 458882),(8,some 458883),(9,some 65536000)])
  .rintro mm σ ⟨E,j,d,yG,hok,fE,zL,jD,rfl⟩ K hB hN
   by_cases hj:j<rl
   .obtain ⟨m1,ZY⟩:∃ m1,l[j]?=some m1:=⟨l[j]'(by rw [uG];omega),zgg (by omega)⟩
    have seg:=FC j m1 ZY;obtain ⟨fW,zR,wC⟩:=jE m1 (List.mem_of_getElem? ZY);rw [Qck l j m1 ZY,Qjq] at jD
    by_cases hA:lim-d<m1.n.toNat
    .rw [zP hA] at jD
     injection jD with h1 h2
     subst h1 h2;exact QFR lim rl j d qM LL VB E hok fE zL K m1 fW zR wC hj uO seg hA hB
    rw [zN hA] at jD
    cases vT:(exO E m1).2 with
    | false =>
     rw [zP vT] at jD;injection jD with h1 h2
     subst h1 h2;exact QFS lim rl j d qM LL VB E hok fE zL K m1 fW zR wC hj uO seg hA vT hB
    | true =>
     rw [zN (by rw [vT];decide)] at jD;obtain ⟨_,_,_,_,_,_,uN,_,yW,wD,jW⟩:=QlP E hok fE m1 fW vT;clear uN
     cases hs:(exO E m1).1.s with
     | true =>
      rw [zP hs] at jD;injection jD with h1 h2
      subst h1 h2;exact QFT lim rl j d qM LL VB E hok fE zL K m1 fW zR wC hj uO seg hA vT hs hB
     | false =>
      rw [zN (by rw [hs];decide)] at jD;exact QFU lim rl j d qM LL VB E hok fE zL K m1 fW zR wC hj uO seg hA vT hs fun σ1 hw=>hN (mm-1) _ σ1 (by omega) hw ⟨_,j+1,d+m1.n.toNat,by omega,Qhi wD _,Qgg jW _,by omega,jD,rfl⟩
   .obtain rfl:j=rl:=by omega
    rw [List.drop_eq_nil_of_le (by omega)] at jD;change (E,d)=(Ez,dz) at jD;injection jD with h1 h2
    subst h1 h2;exact QFQ lim j j d qM LL VB E hok fE zL K rfl uO hB
  .have hok:Ez.ok:=by
    have h:=QqG l lim 0 _ uA vQ jE;rw [hz] at h;exact h
   have fE:=vQ;clear hz uA vQ FC jE cf ca cl cfr;have vU:=Qaa Ez.M.m;have vV:=Qaf Ez.T;have vW:=Qad Ez.B;have wY:=(Qaz hok.o).2.1;unfold Qsn QAd;obtain ⟨hME,uZ,_,uX,_,HO,_,_⟩:=hok;have yM:=hME.x;have gM:=hME.c;have HF:Ez.M.ct<18446744073709551616:=hME.dv.2.2.2.1;clear hME uZ uX HO fE;obtain ⟨⟨_,_,_,me,_,_,_,_,fe,ne,_,_,_,_,_⟩,Te,Be,oe,_,_⟩:=Ez;cases fe;cases ne;dsimp only at yM gM;cases QaO yM;cases zC8 gM
   try dsimp only [Eg.H,Eg.R,Eg.C,Mc.C,Mc.D,Dk.C,Nk.C,ctE] at *
   try simp only [Qai,zca,zna] at *
   generalize wsv me=Xe,tes Te=TTe,bks Be=BBe,OLs oe=OOe,me.length=men,Te.length=ten,Be.length=ben,oe.length=oen at *;exact QD9
theorem QwN (E:Eg) (lim:Nat) (hE:E.ok) (hC:Coh E) (qM:lim<18446744073709551616):FN 48 [.s (.ptr 0 0),.s (.w lim)] E.H (. =(QeT lim E).1.R (.a (.s (.w ((QeT lim E).2:Nat))))):=by
 unfold QeT
 by_cases hw:E.M.wt=true
 .rw [zP (.inl hw)]
  exact Qyz E hE hC lim qM hw
 have hw:=Bool.eq_false_iff.2 hw
 by_cases hi:QcQ E.M=true
 .rw [zP (.inr hi)]
  exact QyA E hE hC lim qM hw hi
 have hi:=Bool.eq_false_iff.2 hi;rw [zN (fun h=>by rcases h with h|h<;>simp_all)]
 by_cases hK:(rsv E E.M.pc 4 1).2.2=false
 .rw [zP hK]
  exact QyB E hE hC lim qM hw hi hK
 .rw [zN hK]
  exact QyC E hE hC lim qM hw hi (by simpa using hK)
end Go.Proofs.YtflaceijiphfdaaGreat
