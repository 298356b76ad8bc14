import Derived.Test.YtflelebfmdggkaaGreatP159
import Derived.Test.YtflelebfmdggkaaGreatP160
set_option linter.unusedSimpArgs false
set_option linter.unusedVariables false
set_option maxHeartbeats 100000000
set_option maxRecDepth 100000
namespace Go.Proofs.YtflelebfmdggkaaGreat
open Go Go.RowKit
theorem Qxv (E:Eg) (hE:E.ok) (hC:Coh E) (lim:Nat) (qU:lim<18446744073709551616) (hw:E.M.wt=false) (hi:QcV E.M=false) (hK:(rsv E E.M.pc 4 1).2.2=true) :
  FN 44 [.s (.ptr 0 0),.s (.w lim)] E.H (. =(QfD (miL (fnd (rsv E E.M.pc 4 1).1 (rsv E E.M.pc 4 1).2.1).2.l) lim 0 { (fnd (rsv E E.M.pc 4 1).1 (rsv E E.M.pc 4 1).2.1).1 with f:=(fnd (rsv E E.M.pc 4 1).1 (rsv E E.M.pc 4 1).2.1).2.A / 128,s:=false } |> fun r=>Eg.R r.1 (.a (.s (.w (r.2:Nat)))))):=by
 have cl:=QdC E.M hE.M;have fD:=Qab hE.M.cr 0;have JL:=Qab hE.M.cr 7;have yU:=Qe7 E.M;have a2:=Qhc (E.M.c.getD 0 0) fD;have an:=Qii (Qft E.M) (E.M.c.getD 7 0) yU JL;obtain ⟨ir,yD⟩:∃ k,E.M.c.getD 0 0 / 2%2=k:=⟨_,rfl⟩;obtain ⟨en,yI⟩:∃ k,Qft E.M &&& E.M.c.getD 7 0=k:=⟨_,rfl⟩;rw [yD] at a2;rw [yI] at an;have hint:QcV E.M=decide (ir=1/\en≠0):=by unfold QcV Qiz;rw [yD,yI]
 have KS:ir<2:=by omega
 clear yD yI;generalize Qft E.M=ln at *;rw [hi] at hint;have hint:=of_decide_eq_false hint.symm;clear hi;have ca:=Qfq E hE E.M.pc 4 1 hE.M.pr (.inr rfl);have hr:=Qeu E hE hC E.M.pc 4 1 hE.M.pr (.inr rfl) (.inl rfl);have qY:=Qwe E hE hC E.M.pc hE.M.pr hK;obtain ⟨X,T1,B1,s1,he,hXl,hok1,qH⟩:=Qhf E hE E.M.pc 4 1 hE.M.pr;have GK:=hr.coh;have hA2:=(hr.in_ hK).2;rw [hK] at ca;clear qH hr hK;generalize (rsv E E.M.pc 4 1).2.1=A at *;rw [he] at ca hok1 GK |-;clear he;have zE:(⟨{ E.M with m:=X },T1,B1,E.o,E.f,s1⟩:Eg).M.m.length=E.M.m.length:=hXl;rw [<- zE] at qY;clear zE;have cf:=QDv _ hok1 A hA2;obtain ⟨B2,JF,hok2,hcoh2,hb2⟩:=QuX _ hok1 GK A qY;obtain ⟨l,GL,hl2,jF,wQ⟩:=QpY X X.length A hok1.M.mr;rw [JF] at cf hok2 hcoh2 |-;rw [hb2] at cf |-;have YZ:(fdB X X.length A 16).A<4294967296:=Qu8 _ _ _ hA2;change Fn _ _ _ _ (. =Eg.R _ (.a (.agg (fdB X X.length A 16).C))) at cf;show Fn _ _ _ _ (. =Eg.R (QfD (miL (fdB X X.length A 16).l) lim 0 ⟨{ E.M with m:=X },T1,B2,E.o,(fdB X X.length A 16).A / 128,false⟩).1 (.a (.s (.w ((QfD (miL (fdB X X.length A 16).l) lim 0 ⟨{ E.M with m:=X },T1,B2,E.o,(fdB X X.length A 16).A / 128,false⟩).2:Nat)))));clear JF hb2 qY hl2;generalize fdB X X.length A 16=b at *;obtain ⟨bA,bL,bl⟩:=b;dsimp only at GL YZ |-;subst GL;rw [Qzf];have cfr:=QjP bA YZ bL (l.map Mi.z) (l.map Mi.z).length;dsimp only [Bk.C] at cf;rw [Qh7,List.length_map] at cf cfr;obtain ⟨⟨Ez,dz⟩,hz⟩:∃ r,QfD l lim 0 ⟨{ E.M with m:=X },T1,B2,E.o,bA / 128,false⟩=r:=⟨_,rfl⟩;rw [hz];dsimp only;have hok3:(⟨{ E.M with m:=X },T1,B2,E.o,bA / 128,false⟩:Eg).ok:=⟨hok2.M,hok2.T,hok2.tl,hok2.B,hok2.bl,hok2.o,hok2.ol,by show bA / 128<_;omega⟩;have vW:Coh (⟨{ E.M with m:=X },T1,B2,E.o,bA / 128,false⟩:Eg):=⟨hcoh2.n,hcoh2.T,hcoh2.B⟩;clear hok2 hcoh2 hok1 GK;have hfA:bA / 128<4294967296:=by omega
 have wJ:=Qaf T1;have zB:=Qad B1;have KA:=Qad B2;have zH:=Qaa X;have VK:=Qbb l;have FE:=Qf8 l;have fJ:=Qaa E.M.m;have gY:=Qaf E.T;have fH:=Qad E.B;have qK:=(QaA hE.o).2.1;obtain ⟨hM,hT,_,hB,_,_,_,_⟩:=hE;obtain ⟨M,T,B,o,f,s⟩:=E;dsimp only [Eg.H,Eg.R,Eg.Rk,Eg.C,wrt] at *;generalize YI:wsv X=XV,hT1v:tes T1=TT1,hB1v:bks B1=BB1,hB2v:bks B2=BB2,mcs l=LL,ht1n:T1.length=t1n,hb1n:B1.length=b1n,hb2n:B2.length=b2n,FB:l.length=rl,bA / 128=bF at *;obtain ⟨hx,hc,hY,gA,gH,gB,gI,gE,gD,gF⟩:=hM;obtain ⟨x,pc,c,m,_,_,_,_,d,n,_,_,ct,wt⟩:=M;dsimp only at *;cases zC16 hx;cases zC8 hc;cases d;cases n;dsimp only [Mc.C,Mc.D,Dk.C,Nk.C,Dk.ok,Nk.ok] at *;subst hw
 try dsimp only [cR,Mc.C,Mc.D,Dk.C,Nk.C] at *
 try simp only [Qah,zca,zna,List.getD_cons_succ,List.getD_cons_zero] at *
 generalize gO:wsv m=XX,hX3:bks B=BB,hX4:OLs o=OO,gJ:m.length=nn,gM:B.length=bn,gP:o.length=on,gU:tes T=TT,htn:T.length=tn,hXl3:X.length=xn at *;subst hXl;clear gO gU hX3 gJ gM htn hT hB hY gA gH gB gI gE gD gF hB1v hb1n;refine fnW Tryz.func44 ?_;(repeat' ((conv=>whnf);first|exact zi2|(refine zj0 ?_;intro hb)|refine QHh ?_|(refine QaD cl ?_)|(refine Qax ca ?_)|(refine Qax cf ?_)|(refine zpu cfr ?_)|refine zse ?_|refine zbb ?_ ?_));all_goals (conv=>whnf)
 all_goals first|skip
 all_goals
  refine QkS (x:=vc Tryz.prog tys Tryz.f44.ntmps 5 bdU) (by kernel_rfl) ?_;refine Qr8 (fun mm σ=>∃ (E:Eg) (j d:Nat),mm+j=rl/\E.ok/\Coh E/\d<=lim/\QfD (l.drop j) lim d E=(Ez,dz)/\σ=Qmx lim rl j d E LL) (QsB Ez dz) 0 ?_ ?_ ?_
  .refine ⟨rl,_,?_,_,0,0,by omega,hok3,vW,Nat.zero_le _,by rw [List.drop_zero];exact hz,rfl⟩
   dsimp only [Qmx,Qu6,Eg.C,Mc.C,Mc.D,Dk.C,Nk.C];simp only [Qah,zca,zna];rw [YI,hT1v,hB2v,hX4,hXl3,ht1n,hb2n,gP];refine QFO 70 65536000 rfl rfl ?_
   first|(exact zwV [(0,some 0),(1,some 1),(2,some 2),(3,some 3),(4,some 4),(5,some 458880),(6,some 458881),(7,some 458882),(8,some 458883),(9,some 65536000)])
  .rintro mm σ ⟨E,j,d,yP,hok,fG,zT,jG,rfl⟩ K hB hN
   by_cases hj:j<rl
   .obtain ⟨m1,UX⟩:∃ m1,l[j]?=some m1:=⟨l[j]'(by rw [FB];omega),List.getElem?_eq_getElem (by omega)⟩
    have seg:=FE j m1 UX;obtain ⟨qD,zY,vI⟩:=jF m1 (List.mem_of_getElem? UX);rw [Qcp l j m1 UX,QjS] at jG
    by_cases hA:lim-d<m1.n.toNat
    .rw [zP hA] at jG
     injection jG with h1 h2
     subst h1 h2;exact QF5 lim rl j d qU LL VK E hok fG zT K m1 qD zY vI hj wQ seg hA hB
    rw [zN hA] at jG
    cases wC:(exO E m1).2 with
    | false =>
     rw [zP wC] at jG;injection jG with h1 h2
     subst h1 h2;exact QGz lim rl j d qU LL VK E hok fG zT K m1 qD zY vI hj wQ seg hA wC hB
    | true =>
     rw [zN (by rw [wC];decide)] at jG;obtain ⟨_,_,_,_,_,_,uV,_,zE,wM,jX⟩:=QlK E hok fG m1 qD wC;clear uV
     cases hs:(exO E m1).1.s with
     | true =>
      rw [zP hs] at jG;injection jG with h1 h2
      subst h1 h2;exact QHq lim rl j d qU LL VK E hok fG zT K m1 qD zY vI hj wQ seg hA wC hs hB
     | false =>
      rw [zN (by rw [hs];decide)] at jG;exact QGG lim rl j d qU LL VK E hok fG zT K m1 qD zY vI hj wQ seg hA wC hs fun σ1 hw=>hN (mm-1) _ σ1 (by omega) hw ⟨_,j+1,d+m1.n.toNat,by omega,Qht wM _,Qgl jX _,by omega,jG,rfl⟩
   .obtain rfl:j=rl:=by omega
    rw [List.drop_eq_nil_of_le (by omega)] at jG;change (E,d)=(Ez,dz) at jG;injection jG with h1 h2
    subst h1 h2;exact QGy lim j j d qU LL VK E hok fG zT K rfl wQ hB
  .have hok:Ez.ok:=by
    have h:=Qqz l lim 0 _ hok3 vW jF;rw [hz] at h;exact h
   have fG:=vW;clear hz hok3 vW FE jF cf ca cl cfr;have jZ:=Qaa Ez.M.m;have jT:=Qaf Ez.T;have jY:=Qad Ez.B;have yA:=(QaA hok.o).2.1;unfold QsB Qz5;obtain ⟨hME,HH,_,HW,_,HI,_,_⟩:=hok;have wY:=hME.x;have gK:=hME.c;have HL:Ez.M.ct<18446744073709551616:=hME.dv.2.2.2.1;clear hME HH HW HI fG;obtain ⟨⟨_,_,_,me,_,_,_,_,fe,ne,_,_,_,_,_⟩,Te,Be,oe,_,_⟩:=Ez;cases fe;cases ne;dsimp only at wY gK;cases zC16 wY;cases zC8 gK
   try dsimp only [Eg.H,Eg.R,Eg.C,Mc.C,Mc.D,Dk.C,Nk.C,ctE] at *
   try simp only [Qah,zca,zna] at *
   generalize wsv me=Xe,tes Te=TTe,bks Be=BBe,OLs oe=OOe,me.length=men,Te.length=ten,Be.length=ben,oe.length=oen at *;exact QBS
theorem Qwm (E:Eg) (lim:Nat) (hE:E.ok) (hC:Coh E) (qU:lim<18446744073709551616):FN 44 [.s (.ptr 0 0),.s (.w lim)] E.H (. =(Qee lim E).1.R (.a (.s (.w ((Qee lim E).2:Nat))))):=by
 unfold Qee
 by_cases hw:E.M.wt=true
 .rw [zP (.inl hw)]
  exact Qyl E hE hC lim qU hw
 have hw:=Bool.eq_false_iff.2 hw
 by_cases hi:QcV E.M=true
 .rw [zP (.inr hi)]
  exact QxH E hE hC lim qU hw hi
 have hi:=Bool.eq_false_iff.2 hi;rw [zN (fun h=>by rcases h with h|h<;>simp_all)]
 by_cases hK:(rsv E E.M.pc 4 1).2.2=false
 .rw [zP hK]
  exact QyU E hE hC lim qU hw hi hK
 .rw [zN hK]
  exact Qxv E hE hC lim qU hw hi (by simpa using hK)
end Go.Proofs.YtflelebfmdggkaaGreat
