import Derived.Test.YtpgkkfajljekpabGreatQ23
import Derived.Test.YtpgkkfajljekpabGreatQ25
import Derived.Test.YtpgkkfajljekpabGreatQ26
import Derived.Test.YtpgkkfajljekpabGreatQ27
set_option linter.unusedSimpArgs false
set_option linter.unusedVariables false
set_option maxHeartbeats 0
set_option maxRecDepth 100000
namespace Go.Proofs.YtpgkkfajljekpabGreat
open Go Go.RowKit
theorem Qp3 (E:Eg) (hE:E.ok) (hC:Coh E) (m:Mi) (hm:Qbq m) (hn:1<=m.n/\m.n<=16) :
  FN 93 [.s (.ptr 0 0),.agg m.C] E.H (. =(exO E m).1.R (.a (.s (.bool (exO E m).2)))):=by
 have gI:=hE.M.ml;have zL:(ldE E m).2.2=true->(ldE E m).2.1 / 4<E.M.m.length/\(ldE E m).2.1<4294967296:=(QeX E hE hC _ (szO m.o) 2 (QaG _) (QhT _) (.inr (.inl rfl))).in_;have ZV:=(QeX E hE hC (w32 ((E.M.x.getD m.b 0:Nat)+(m.k:Nat))) (szO m.o) 3 (QaG _) (QhT _) (.inr (.inr rfl))).in_;unfold exO
 by_cases vF:m.o=24
 .rw [zP vF]
  by_cases ha:m.a=0
  .exact Qxq E hE m hm hn vF ha
  .exact Qxr E hE m hm hn vF ha
 rw [zN vF]
 by_cases h32:32<=m.o/\m.o<=34
 .rw [zP h32]
  cases hK:(ldE E m).2.2 with
  | false =>
   rw [zN (by decide)];rcases (show m.o=32\/m.o=33\/m.o=34 by omega) with h|h|h
   .exact Qtx E hE m hm hn h zL hK
   .exact Qty E hE m hm hn h zL hK
   .exact Qtz E hE m hm hn h zL hK
  | true =>
   rw [zP rfl]
   by_cases ha:m.a=0
   .rcases (show m.o=32\/m.o=33\/m.o=34 by omega) with h|h|h
    .exact QpW E hE m hm hn h zL hK ha
    .exact QpY E hE m hm hn h zL hK ha
    .exact Qp0 E hE m hm hn h zL hK ha
   .rcases (show m.o=32\/m.o=33\/m.o=34 by omega) with h|h|h
    .exact QpX E hE m hm hn h zL hK ha
    .exact QpZ E hE m hm hn h zL hK ha
    .exact Qp1 E hE m hm hn h zL hK ha
 rw [zN h32]
 by_cases vG:m.o=35\/m.o=36
 .rw [zP vG]
  cases hK:(stE E m).2 with
  | false =>
   rw [zN (by decide)];rcases vG with h|h
   .exact Qp5 E hE m hm hn h ZV hK
   .exact Qp7 E hE m hm hn h ZV hK
  | true =>
   rw [zP rfl];rcases vG with h|h
   .exact Qp6 E hE m hm hn h ZV hK
   .exact Qp8 E hE m hm hn h ZV hK
 rw [zN vG]
 by_cases h40:40<=m.o/\m.o<=45
 .rw [zP h40]
  cases ht:Qdk m.o (E.M.x.getD m.a 0) (E.M.x.getD m.b 0) with
  | false =>
   rw [zN (by decide)];rcases (show m.o=40\/m.o=41\/m.o=42\/m.o=43\/m.o=44\/m.o=45 by omega) with h|h|h|h|h|h
   .exact QpK E hE m hm hn ht h
   .exact QpM E hE m hm hn ht h
   .exact QpO E hE m hm hn ht h
   .exact QpQ E hE m hm hn ht h
   .exact QpS E hE m hm hn ht h
   .exact QpU E hE m hm hn ht h
  | true =>
   rw [zP rfl];rcases (show m.o=40\/m.o=41\/m.o=42\/m.o=43\/m.o=44\/m.o=45 by omega) with h|h|h|h|h|h
   .exact QpL E hE m hm hn ht h
   .exact QpN E hE m hm hn ht h
   .exact QpP E hE m hm hn ht h
   .exact QpR E hE m hm hn ht h
   .exact QpT E hE m hm hn ht h
   .exact QpV E hE m hm hn ht h
 rw [zN h40]
 by_cases h48:m.o=48
 .rw [zP h48]
  by_cases ha:m.a=0
  .exact Qxo E hE m hm hn h48 ha
  .exact Qxp E hE m hm hn h48 ha
 rw [zN h48]
 by_cases h49:m.o=49
 .rw [zP h49]
  by_cases ha:m.a=0
  .exact Qxs E hE m hm hn h49 ha
  .exact Qxt E hE m hm hn h49 ha
 rw [zN h49];have hx:¬ m.o=24/\¬ (32<=m.o/\m.o<=36)/\¬ (40<=m.o/\m.o<=45)/\¬ m.o=48/\¬ m.o=49:=by omega
 cases gY:QbV m.o with
 | false =>
  rw [zN (by decide)]
  by_cases jZ:m.o<=13
  .exact Qtw E hE m hm hn hx jZ gY
  .exact Qtv E hE m hm hn hx jZ gY
 | true =>
  rw [zP rfl]
  by_cases jZ:m.o<=13
  .rw [zP jZ]
   by_cases ha:m.a=0
   .exact QpI E hE m hm hn hx jZ gY ha
   .exact QpJ E hE m hm hn hx jZ gY ha
  .rw [zN jZ]
   by_cases ha:m.a=0
   .exact QpG E hE m hm hn hx jZ gY ha
   .exact QpH E hE m hm hn hx jZ gY ha
theorem QCm (M:Mc) (m:Mi) (M':Mc) (h:opM M m=some M'):∃ (x:List Nat) (pc:Nat) (q:List Nat),M'= { M with x:=x,pc:=pc,m:=q }:=by
 unfold opM at h
 repeat' split at h
 all_goals first|(cases h;done)|(injection h with h;subst h;exact ⟨_,_,_,rfl⟩)
theorem QvS (E:Eg) (hE:E.ok) (hC:Coh E) (a:Nat) (ha:ld4 E.M.m.length a=true):∃ (B2:List Bk),(fnd E a).1=⟨E.M,E.T,B2,E.o,E.f,E.s⟩/\(fnd E a).1.ok/\Coh (fnd E a).1/\(fnd E a).2=fdB E.M.m E.M.m.length a 16:=by
 have ha2:a<4294967296:=by
  unfold ld4 at ha;simp only [zba,zde] at ha;have:=QaT E.M.m.length;omega
 have hok:=(QvQ E.M.m E.M.m.length a 16 ha2 hE.M.mr).2.1
 have FT:(⟨E.M,E.T,Qkz E.B (fdB E.M.m E.M.m.length a 16),E.o,E.f,E.s⟩:Eg).ok/\Coh (⟨E.M,E.T,Qkz E.B (fdB E.M.m E.M.m.length a 16),E.o,E.f,E.s⟩:Eg) :=
  ⟨⟨hE.M,hE.T,hE.tl,QxZ _ _ hE.B hok,QtY _ _ hE.bl,hE.o,hE.ol,hE.f⟩,⟨hC.n,hC.T,QwY _ _ _ _ (QxE _ _ _ ha) hC.B⟩⟩
 obtain ⟨h1,_⟩:=Qla a E.B 0;unfold fnd;split
 .rename_i b hb
  split
  .rename_i h0
   obtain ⟨i,b',g1,g2,g3⟩:=h1 h0;rw [Nat.zero_add] at g1;have hu:(QgI a (E.B.map (·.A)) 0).toNat=i:=by rw [g1];omega
   rw [hu] at hb |-;rw [g2] at hb;obtain rfl:=Option.some.inj hb;have hGB:=((Qf0 _ _ _).1 hC.B).2.1 b' (List.mem_of_getElem? g2)
   have uC:(Qbd E.B i b').length=E.B.length:=by
    have gU:=(zgs.1 g2).1;unfold Qbd;rw [List.length_cons,zla,List.length_take,List.length_drop];omega
   refine ⟨Qbd E.B i b',rfl,⟨hE.M,hE.T,hE.tl,fun e he=>?_,by show (Qbd E.B i b').length<=16;rw [uC];exact hE.bl,hE.o,hE.ol,hE.f⟩,⟨hC.n,hC.T,Qpb _ _ _ _ _ g2 hC.B⟩,by rw [<- g3];exact hGB.2⟩;unfold Qbd at he;rcases List.mem_cons.1 he with rfl|he
   .exact hE.B _ (List.mem_of_getElem? g2)
   .rcases List.mem_append.1 he with he|he
    .exact hE.B e (List.mem_of_mem_take he)
    .exact hE.B e (List.mem_of_mem_drop he)
  .exact ⟨_,rfl,FT.1,FT.2,rfl⟩
 .exact ⟨_,rfl,FT.1,FT.2,rfl⟩
theorem Qqh (xs:List Nat) (n a:Nat) (hY:ZL xs):∃ l:List Mi,(fdB xs n a 16).l=l.map Mi.z/\l=(if (blL xs n a 16).length=0 then [] else Qqk (blL xs n a 16))/\(∀ m∈l,Qbq m/\1<=m.n/\m.n<=16)/\l.length<=16:=by
 obtain ⟨_,h2,h3⟩:=Qja xs n a 16 hY;unfold fdB;dsimp only
 by_cases h0:(blL xs n a 16).length=0
 .rw [zP h0,zP h0]
  exact ⟨[],rfl,rfl,(fun m hm=>by cases hm),Nat.zero_le _⟩
 .rw [zN h0,zN h0]
  have qW:=Qmm (blA n a 16) _ (blL xs n a 16) (by omega) h2 (h3 h0);have hs:=((Qgb _ _ _).1 qW).2;have jZ:=Qql (blL xs n a 16);exact ⟨_,rfl,rfl,fun m hm=>⟨Qqm _ h2 m hm,Qis _ _ _ hs m hm⟩,by omega⟩
theorem Qy7 (E:Eg) (hE:E.ok) (hC:Coh E) (lim:Nat) (qO:lim<18446744073709551616) (hw:E.M.wt=true) :
  FN 50 [.s (.ptr 0 0),.s (.w lim)] E.H (. =E.R (.a (.s (.w (0:Nat))))):=by
 have cl:=Qds E.M hE.M;have fF:=Qab hE.M.cr 0;have JQ:=Qab hE.M.cr 7;have yZ:=Qfd E.M;have a2:=Qhv (E.M.c.getD 0 0) fF;have an:=Qh2 (QfD E.M) (E.M.c.getD 7 0) yZ JQ;obtain ⟨ir,yC⟩:∃ k,E.M.c.getD 0 0 / 2%2=k:=⟨_,rfl⟩;obtain ⟨en,yK⟩:∃ k,QfD E.M &&& E.M.c.getD 7 0=k:=⟨_,rfl⟩;rw [yC] at a2;rw [yK] at an;have hint:QcY E.M=decide (ir=1/\en≠0):=by unfold QcY QiX;rw [yC,yK]
 have VB:ir<2:=by omega
 clear yC yK;generalize QfD E.M=ln at *;clear hint;exact QIr
theorem Qy8 (E:Eg) (hE:E.ok) (hC:Coh E) (lim:Nat) (qO:lim<18446744073709551616) (hw:E.M.wt=false) (hi:QcY E.M=true) :
  FN 50 [.s (.ptr 0 0),.s (.w lim)] E.H (. =E.R (.a (.s (.w (0:Nat))))):=by
 have cl:=Qds E.M hE.M;have fF:=Qab hE.M.cr 0;have JQ:=Qab hE.M.cr 7;have yZ:=Qfd E.M;have a2:=Qhv (E.M.c.getD 0 0) fF;have an:=Qh2 (QfD E.M) (E.M.c.getD 7 0) yZ JQ;obtain ⟨ir,yC⟩:∃ k,E.M.c.getD 0 0 / 2%2=k:=⟨_,rfl⟩;obtain ⟨en,yK⟩:∃ k,QfD E.M &&& E.M.c.getD 7 0=k:=⟨_,rfl⟩;rw [yC] at a2;rw [yK] at an;have hint:QcY E.M=decide (ir=1/\en≠0):=by unfold QcY QiX;rw [yC,yK]
 have VB:ir<2:=by omega
 clear yC yK;generalize QfD E.M=ln at *;rw [hi] at hint;have hint:=of_decide_eq_true hint.symm;clear hi;exact QIr
theorem Qy9 (E:Eg) (hE:E.ok) (hC:Coh E) (lim:Nat) (qO:lim<18446744073709551616) (hw:E.M.wt=false) (hi:QcY E.M=false) (hK:(rsv E E.M.pc 4 1).2.2=false) :
  FN 50 [.s (.ptr 0 0),.s (.w lim)] E.H (. =E.R (.a (.s (.w (0:Nat))))):=by
 have cl:=Qds E.M hE.M;have fF:=Qab hE.M.cr 0;have JQ:=Qab hE.M.cr 7;have yZ:=Qfd E.M;have a2:=Qhv (E.M.c.getD 0 0) fF;have an:=Qh2 (QfD E.M) (E.M.c.getD 7 0) yZ JQ;obtain ⟨ir,yC⟩:∃ k,E.M.c.getD 0 0 / 2%2=k:=⟨_,rfl⟩;obtain ⟨en,yK⟩:∃ k,QfD E.M &&& E.M.c.getD 7 0=k:=⟨_,rfl⟩;rw [yC] at a2;rw [yK] at an;have hint:QcY E.M=decide (ir=1/\en≠0):=by unfold QcY QiX;rw [yC,yK]
 have VB:ir<2:=by omega
 clear yC yK;generalize QfD E.M=ln at *;rw [hi] at hint;have hint:=of_decide_eq_false hint.symm;clear hi;have ca:=QfG E hE E.M.pc 4 1 hE.M.pr (.inr rfl);obtain ⟨_,_,_,_,he,hXl,hok1,qH⟩:=QhN E hE E.M.pc 4 1 hE.M.pr;rw [qH hK,hK] at ca;clear he qH hok1 hK hXl;generalize (rsv E E.M.pc 4 1).2.1=A at *;have fD:=Qaa E.M.m;have gO:=Qae E.T;have gZ:=Qac E.B;have fY:=(Qax hE.o).2.1;obtain ⟨hM,hT,_,hB,_,ho,_,_⟩:=hE;obtain ⟨M,T,B,o,_,s⟩:=E;dsimp only [Eg.H,Eg.R,Eg.Rk,Eg.C,wrt] at *;obtain ⟨hx,hc,hY,gA,gH,gB,gI,gE,gD,gG⟩:=hM;obtain ⟨_,pc,c,m,_,_,_,_,d,n,_,_,_,wt⟩:=M;dsimp only at *;cases QaJ hx;cases zC8 hc;cases d;cases n;dsimp only [Mc.C,Mc.D,Dk.C,Nk.C,Dk.ok,Nk.ok] at *;subst hw
 try dsimp only [cR,Mc.C,Mc.D,Dk.C,Nk.C] at *
 try simp only [Qaf,zca,zna,List.getD_cons_succ,List.getD_cons_zero] at *
 generalize gP:wsv m=XX,hX3:bks B=BB,hX4:OLs o=OO,gJ:m.length=nn,gM:B.length=bn,gQ:o.length=on,gV:tes T=TT,htn:T.length=tn at *;clear gP gV hX3 hX4 gJ gM gQ htn hT hB ho hY gA gH gB gI gE gD gG;refine fnW Tryz.func50 ?_;(conv=>whnf);(repeat' ((first|exact zi2|refine zj0 fun hb=>?_|refine QHp ?_|(refine QaA cl ?_)|(refine Qaw ca ?_)|refine zse ?_|refine zbb ?_ ?_)<;>conv=>whnf))
 all_goals first|(apply Fin.mv (m:= [(0,some 0),(1,some 1),(2,some 2),(3,some 3),(4,some 4),(5,some 328064),(6,some 328065),(7,some 328066),(8,some 328067)]);(focus exact rfl);(all_goals ((try (show QcE _ _ _ [] _));first|exact aFi|exact rfl)))
def Qb6 (M:Mc):Mc:= { M with m:=mM M M.pc 4 1 }
theorem Qjx {M:Mc} (o:mO M M.pc 4 1=true) (hn:mpg M.m.length*32=M.m.length):mO (Qb6 M) M.pc 4 1=true/\mA (Qb6 M) M.pc 4 1=mA M M.pc 4 1/\mM (Qb6 M) M.pc 4 1=(Qb6 M).m/\(Qb6 M).m.length=M.m.length/\mA M M.pc 4 1%4=0:=by
 have hl:(Qb6 M).m.length=M.m.length:=Qbl _ _ _ _ _ _ _;unfold mO at o;have o0:=o;unfold rsO at o;simp only [zba,zde] at o;obtain ⟨⟨⟨o1,o2⟩,o3⟩,o4⟩:=o;have ha:mA M M.pc 4 1=if Qdf (M.c.getD 0 0)=true then frW (QaR M.m (cR M) M.pc)*128+M.pc%128 else M.pc:=by unfold mA rsA;rw [zP o0]
 by_cases qE:Qdf (M.c.getD 0 0)=true
 .rw [zP qE] at o4 ha
  have hm:(Qb6 M).m=M.m.set (cR M*32+M.pc / 128) (QbK (QaR M.m (cR M) M.pc) 1):=by
   show rsM _ _ _ _ _ _ _=_;unfold rsM;rw [zP ⟨o0,qE⟩];have e4:Qa9 (cR M) M.pc / 4=cR M*32+M.pc / 128:=by unfold Qa9;omega
   rw [e4];rfl
  unfold Qbo at o4;simp only [zba,zde] at o4;obtain ⟨⟨⟨⟨_,w2⟩,w3⟩,w4⟩,w5⟩:=o4;have hj:cR M*32+M.pc / 128<M.m.length:=by omega
  have hP:QaR (Qb6 M).m (cR M) M.pc=QbK (QaR M.m (cR M) M.pc) 1:=by grind [QaR,QeM,mO,mpg,Qb6,mA,mM]
  have o7:rsO (Qb6 M).m (Qb6 M).m.length (M.c.getD 0 0) (cR M) M.pc ((4:Nat):Int) 1=true:=by
   show rsO (Qb6 M).m (Qb6 M).m.length (M.c.getD 0 0) (cR M) M.pc ((4:Nat):Int) 1=true;unfold rsO Qbo;rw [o1,o2,zdt o3,zP qE,hP,Qv7,Qih,hl,zdt w2,zdt w3,w4,zdt w5];rfl
  refine ⟨o7,?_,?_,hl,by rw [ha];omega⟩
  .grind [rsA,Qb6,cR,Qih,mO,mpg,mA,mM]
  .show rsM (Qb6 M).m (Qb6 M).m.length (M.c.getD 0 0) (cR M) M.pc ((4:Nat):Int) 1=_
   unfold rsM;rw [zP ⟨o7,qE⟩];have e4:Qa9 (cR M) M.pc / 4=cR M*32+M.pc / 128:=by unfold Qa9;omega
   rw [e4];have:(Qb6 M).m.getD (cR M*32+M.pc / 128) 0=QbK (QaR M.m (cR M) M.pc) 1:=hP;have e5:QbK ((Qb6 M).m.getD (cR M*32+M.pc / 128) 0) 1=(Qb6 M).m.getD (cR M*32+M.pc / 128) 0:=by rw [this,Qsf]
   rw [e5];exact QrZ _ _
 .rw [zN qE] at o4 ha
  have hm:(Qb6 M).m=M.m:=by grind [rsM,mO,mpg,Qb6,mA,mM]
  have hM:Qb6 M=M:=by
   show ({ M with m:=(Qb6 M).m }:Mc)=M;rw [hm]
  refine ⟨by rw [hM];exact o0,by rw [hM],?_,hl,by rw [ha];omega⟩;rw [hM];show rsM _ _ _ _ _ _ _=_;unfold rsM;rw [zN (fun h=>qE h.2)]
theorem Qi0 {M:Mc} (hi:QcY M=false) (o:mO M M.pc 4 1=true) (hn:mpg M.m.length*32=M.m.length) (w:Nat):Qbh (Qb6 M) w=Qbh M w/\Qb3 (Qb6 M)=Qb3 M/\Qd5 (Qb6 M)=Qd5 M:=by
 obtain ⟨h1,h2,h3,h4,_⟩:=Qjx o hn;have zL:QcY (Qb6 M)=false:=hi;have hP:Qde M=M.pc:=by unfold Qde;rw [hi,zN (by decide)]
 have hC:Qdd M=M.c:=by unfold Qdd;rw [hi,zN (by decide)]
 have hP2:Qde (Qb6 M)=M.pc:=by unfold Qde;rw [zL,zN (by decide)];rfl
 have VR:Qdd (Qb6 M)=M.c:=by unfold Qdd;rw [zL,zN (by decide)];rfl
 have UE:rsK M.m M.m.length (M.c.getD 0 0) (M.c.getD 6 0) M.pc 4 1=0:=(QeW _ _ _ _ _ _ _).2 o;have hrk2:rsK (Qb6 M).m (Qb6 M).m.length (M.c.getD 0 0) (M.c.getD 6 0) M.pc 4 1=0:=(QeW _ _ _ _ _ _ _).2 h1;have hrm:rsM M.m M.m.length (M.c.getD 0 0) (M.c.getD 6 0) M.pc 4 1=(Qb6 M).m:=rfl;have hrm2:rsM (Qb6 M).m (Qb6 M).m.length (M.c.getD 0 0) (M.c.getD 6 0) M.pc 4 1=(Qb6 M).m:=h3;have hra:rsA (Qb6 M).m (Qb6 M).m.length (M.c.getD 0 0) (M.c.getD 6 0) M.pc 4 1=rsA M.m M.m.length (M.c.getD 0 0) (M.c.getD 6 0) M.pc 4 1:=h2
 have yQ:ftW (Qb6 M).m (Qb6 M).m.length (M.c.getD 0 0) (M.c.getD 6 0) M.pc=ftW M.m M.m.length (M.c.getD 0 0) (M.c.getD 6 0) M.pc:=by
  unfold ftW;rw [zP UE,zP hrk2,hrm,hrm2,hra]
 have hq:QaI (Qb6 M)=QaI M:=by grind [QaI,exS,Qb6,QcY,mO,mpg,Qbh,Qb3]
 have hs:QaF (Qb6 M)=QaF M:=by
  unfold QaF;rw [hq];rfl
 have gN:Qb3 (Qb6 M)=Qb3 M:=by
  unfold Qb3 Qbg;rw [h4];rfl
 refine ⟨?_,gN,?_⟩
 .unfold Qbh
  rw [hq,hs]
 .unfold Qd5
  rw [gN];congr 1;unfold QmH QnJ;rw [hP,hC,hP2,VR,h4]
  by_cases hk:M.c.getD 0 0%2=1
  .have qE:¬ Qdf (M.c.getD 0 0)=true:=by unfold Qdf;rw [zde];omega
   have hm:(Qb6 M).m=M.m:=by grind [rsM,QcY,mO,mpg,Qbh,Qb6,Qb3,Qd5]
   rw [hm]
  .grind
theorem QnU {M M':Mc} {k:Nat} (hi:QcY M=false) (o:mO M M.pc 4 1=true) (hn:mpg M.m.length*32=M.m.length) (h:Qhe (k+1) (Qb6 M) M'):Qhe (k+1) M M':=by
 obtain ⟨h1,h2,h3⟩:=Qi0 hi o hn 0;obtain ⟨M1,g1,g2,g3,g4⟩:=h;exact ⟨M1,by rw [<- h2];exact g1,by rw [<- h3];exact g2,by rw [<- h1];exact g3,g4⟩
theorem Qy4 (E:Eg) (hE:E.ok) (hC:Coh E) (va:Nat) (gX:ZU va) (h:(rsv E va 4 1).2.2=true):ld4 E.M.m.length (rsv E va 4 1).2.1=true:=by
 have hr:=QeX E hE hC va 4 1 gX (.inr rfl) (.inl rfl);have qB:=hr.in_ h;have ha:=hr.a h;have hb:=hr.b;rw [h] at hb;have hn:=hC.n
 have h4:va%4=0:=by
  have hb:=hb.symm;unfold sO rsO at hb;simp only [zba] at hb;have:=of_decide_eq_true hb.1.2;omega
 have KT:(rsv E va 4 1).2.1%4=0:=by grind [sA,rsA,rsv,ld4]
 unfold ld4;rw [zdt KT,Bool.true_and];exact zdt (by omega)
structure RunK (lim:Nat) (E:Eg) (R:Eg × Nat):Prop where
 (li:R.2<=lim) (ok:R.1.ok) (coh:Coh R.1) (o:R.1.o=E.o)
 (pos:0<R.2->Qhe R.2 E.M R.1.M)
 (zero:R.2=0->Qbh R.1.M 0=Qbh E.M 0/\Qb3 R.1.M=Qb3 E.M/\Qd5 R.1.M=Qd5 E.M)
theorem QIC (x:List Nat) (h:x.getD 0 0=0):QkE isb0 Qoe x:=fun r hr hk=>by
 rcases r with _|r
 .exact h
 .have HK:r<15:=by omega
  exfalso;revert hk;have:∀ r:Nat,r<15->¬ isb0.getD (r+1) false=true:=by decide
  exact this r HK
theorem QrL (E:Eg) (hE:E.ok) (hC:Coh E) (qW:Qbg E.M=true) (wT:E.M.ht=false) (lim:Nat) (fM:E.M.ct+lim<=1152921504606846976):RunK lim E (Qe6 lim E):=by
 have hrf:RunK lim E (E,0):=⟨Nat.zero_le _,hE,hC,rfl,(fun h=>absurd h (Nat.lt_irrefl 0)),fun _=>⟨rfl,rfl,rfl⟩⟩;unfold Qe6
 by_cases h1:E.M.wt=true\/QcY E.M=true
 .grind
 rw [zN h1];have uK:E.M.wt=false:=by cases h:E.M.wt with|false=>rfl|true=>exact absurd (.inl h) h1
 have hi:QcY E.M=false:=by cases h:QcY E.M with|false=>rfl|true=>exact absurd (.inr h) h1
 by_cases h2:(rsv E E.M.pc 4 1).2.2=false
 .grind
 rw [zN h2];have h2:(rsv E E.M.pc 4 1).2.2=true:=by cases h:(rsv E E.M.pc 4 1).2.2 with|true=>rfl|false=>exact absurd h h2
 have hr:=QeX E hE hC E.M.pc 4 1 hE.M.pr (.inr rfl) (.inl rfl);have qU:=Qy4 E hE hC E.M.pc hE.M.pr h2;have hO:mO E.M E.M.pc 4 1=true:=by rw [<- h2];exact hr.b.symm
 have hA:(rsv E E.M.pc 4 1).2.1=mA E.M E.M.pc 4 1:=hr.a h2;have GO:(rsv E E.M.pc 4 1).1.M=Qb6 E.M:=hr.m;obtain ⟨t1,t2,t3,t4,_⟩:=Qjx hO hC.n;obtain ⟨u1,u2,u3⟩:=Qi0 hi hO hC.n 0;have k1:=hr.ok;have k2:=hr.coh;have k3:=hr.o;rw [hA] at qU |-;generalize (rsv E E.M.pc 4 1).1=E1 at *;clear hr h1 h2 hrf;have GV:E1.M.m.length=E.M.m.length:=by rw [GO];exact t4
 obtain ⟨B2,KV,hok2,hcoh2,hb2⟩:=QvS E1 k1 k2 (mA E.M E.M.pc 4 1) (by rw [GV];exact qU);obtain ⟨l,hl,hl2,_,_⟩:=Qqh E1.M.m E1.M.m.length (mA E.M E.M.pc 4 1) k1.M.mr;rw [KV] at hok2 hcoh2 |-;rw [hb2,hl,Qyb];have GQ:bok E1.M.m.length (mA E.M E.M.pc 4 1) 16=true:=by unfold bok;rw [GV,qU];rfl
 have ZJ:(fdB E1.M.m E1.M.m.length (mA E.M E.M.pc 4 1) 16).A=mA E.M E.M.pc 4 1:=by
  show blA _ _ _=_;unfold blA;rw [zP GQ]
 rw [ZJ];have hbL:blL E1.M.m E1.M.m.length (mA E.M E.M.pc 4 1) 16=bl E1.M.m (lmt (mA E.M E.M.pc 4 1) 16) (mA E.M E.M.pc 4 1 / 4):=by unfold blL;rw [zP GQ]
 have hA2:mA E.M E.M.pc 4 1 / 4<E.M.m.length:=Qeo qU;have gI:=hE.M.ml;clear KV hb2 hl;generalize mA E.M E.M.pc 4 1=A at *;have hok3:(⟨E1.M,E1.T,B2,E1.o,A / 128,false⟩:Eg).ok:=⟨hok2.M,hok2.T,hok2.tl,hok2.B,hok2.bl,hok2.o,hok2.ol,by show A / 128<_;omega⟩;have vU:Coh (⟨E1.M,E1.T,B2,E1.o,A / 128,false⟩:Eg):=⟨hcoh2.n,hcoh2.T,hcoh2.B⟩;show RunK lim E (QfQ l lim 0 ⟨E1.M,E1.T,B2,E1.o,A / 128,false⟩);have hz:QfQ [] lim 0 (⟨E1.M,E1.T,B2,E1.o,A / 128,false⟩:Eg)=(⟨E1.M,E1.T,B2,E1.o,A / 128,false⟩,0):=rfl
 by_cases fQ:bl E1.M.m (lmt A 16) (A / 4)= []
 .rw [hbL,fQ] at hl2
  change l= [] at hl2;subst hl2;rw [hz];exact ⟨Nat.zero_le _,hok3,vU,k3,(fun h=>absurd h (Nat.lt_irrefl 0)),fun _=>by grind⟩
 .rw [hbL,zN (fun h=>fQ (List.eq_nil_of_length_eq_zero h))] at hl2
  subst hl2;have VL:E.M.x.getD 0 0=0:=by grind [Qbg,Qe6]
  have YQ:A / 4%32+lmt A 16<=32:=by unfold lmt;omega
  have hB:Bs E1.M.m (A / 128) (A / 4) 0 E1.M.x ⟨E1.M,E1.T,B2,E1.o,A / 128,false⟩:=by
   refine ⟨hok3,vU,rfl,rfl,?_,?_,?_,?_,fun j hj=>rfl,?_,?_,k1.M.x,k1.M.xr,?_⟩
   .show Qbg E1.M=true
    have:Qb3 (Qb6 E.M)=Qb3 E.M:=u2;rw [GO];exact QqU E.M E.M.x (Qb6 E.M).m E.M.pc E.M.ct qW VL t4 (by omega)
   .show E1.M.ht=false;rw [GO];exact wT
   .show E1.M.wt=false;rw [GO];exact uK
   .show QcY E1.M=false;rw [GO];exact hi
   .show E1.M.pc+4*0<_
    have:=k1.M.pr;omega
   .show Ftc E1.M (E1.M.pc+4*0) (A / 4)
    rw [GO];show Ftc (Qb6 E.M) E.M.pc (A / 4);exact ⟨t1,by rw [t2];omega,t3⟩
   .rw [GO];exact VL
  have hD:=Qym E1.M.m k1.M.mr (A / 128) lim (lmt A 16) (A / 4) isb0 Qoe 0 0 ⟨E1.M,E1.T,B2,E1.o,A / 128,false⟩ E1.M.x rfl rfl QiP (by omega) YQ fQ hB (Nat.zero_le _) (by show E1.M.ct+(lim-0)<=_;rw [GO];show E.M.ct+(lim-0)<=_;omega) (QIC _ (by rw [GO];exact VL)) (.inl rfl) (fun _=>rfl);change Dn lim 0 _ (QfQ (Qqk (bl E1.M.m (lmt A 16) (A / 4))) lim 0 _) at hD;generalize QfQ (Qqk (bl E1.M.m (lmt A 16) (A / 4))) lim 0 ⟨E1.M,E1.T,B2,E1.o,A / 128,false⟩=R at *;obtain ⟨_,d2,d3,d4,d5,d6⟩:=hD;rw [Nat.sub_zero] at d3;change Qhe R.2 E1.M R.1.M at d3;rw [GO] at d3;refine ⟨d2,d4,d5,d6.trans k3,fun hp=>?_,fun h0=>?_⟩
  .obtain ⟨k,hk⟩:∃ k,R.2=k+1:=⟨R.2-1,by omega⟩
   rw [hk] at d3 |-;exact QnU hi hO hC.n d3
  .rw [h0] at d3
   have d3:Qb6 E.M=R.1.M:=d3;rw [<- d3];exact ⟨u1,u2,u3⟩
theorem Qzx (l:List Nat):∀ E:Eg,(l.foldl QcM E).M=E.M/\(l.foldl QcM E).o=E.o/\(l.foldl QcM E).B.Sublist E.B/\(∀ b∈(l.foldl QcM E).B,∀ i∈l,fk b≠(i:Int))/\((l.foldl QcM E).T= []\/(l.foldl QcM E).T=E.T/\cR E.M ∉ l):=by
 induction l with
 | nil=>grind
 | cons a l ih =>
  intro E;obtain ⟨h1,h2,h3,_,_⟩:=ih (QcM E a);have e1:(QcM E a).M=E.M:=by unfold QcM;split<;>rfl
  have e2:(QcM E a).o=E.o:=by unfold QcM;split<;>rfl
  have e3:(QcM E a).B=E.B.filter (fun b=>decide (fk b≠(a:Int))):=by unfold QcM;split<;>rfl
  have e4:(QcM E a).T=if a=cR E.M then [] else E.T:=by unfold QcM;split<;>rfl
  show (l.foldl QcM (QcM E a)).M=_/\_;refine ⟨h1.trans e1,h2.trans e2,(h3.trans (by rw [e3];exact List.filter_sublist)),fun b hb i hi=>?_,?_⟩
  .grind
  .grind
theorem Qzy (M0:Mc) (E:Eg) (hl:E.M.m.length=M0.m.length) (hn:mpg M0.m.length*32=M0.m.length) (hT:Qhz E.T M0.m M0.m.length (cR M0)=true) (hB:Qhg M0.m M0.m.length E.B):Coh (stl M0 E):=by
 have e1:(QkC (cR M0) E).M=E.M:=by unfold QkC;split<;>rfl
 have e2:(QkC (cR M0) E).B=E.B:=by unfold QkC;split<;>rfl
 obtain ⟨h1,_,h3,h4,h5⟩:=Qzx (Qd2 M0.m E.M.m E.M.m.length) (QkC (cR M0) E);have hcs:=fun i h j hj=>Qjc (a:=M0.m) (b:=E.M.m) (n:=E.M.m.length) hl.symm rfl (by rw [hl];exact hn) i h j hj
 have gN:stl M0 E=(Qd2 M0.m E.M.m E.M.m.length).foldl QcM (QkC (cR M0) E):=rfl;rw [gN];generalize (Qd2 M0.m E.M.m E.M.m.length).foldl QcM (QkC (cR M0) E)=F at *;rw [e1] at h1 h5;rw [e2] at h3;refine ⟨by rw [h1,hl];exact hn,?_,?_⟩
 .grind [Qmc,QkC,Qji,cR,mpg,Qhz,Qhg,stl]
 .rw [h1,hl]
  refine QkT M0.m E.M.m _ E.B F.B h3 (fun b hb j hj=>?_) hB;exact hcs (b.A / 128) (fun hm=>h4 b hb _ hm rfl) j hj
theorem QiK (E:Eg) (hE:E.ok) (hC:Coh E) (jF:E.o.length<900000) (w:Nat) (hw:ZU w):(sgl w E).ok/\Coh (sgl w E)/\(sgl w E).M=(Qdj E.M w).1/\(sgl w E).o=E.o++(Qdj E.M w).2.toList:=by
 obtain ⟨g1,g2,g3⟩:=QiL E.M hE.M w hw;have jM:Qbe (E.o++(Qdj E.M w).2.toList):=QcS (O:=(Qdj E.M w).2) hE.o g2;have wM:(E.o++(Qdj E.M w).2.toList).length<=900000:=by grind
 have HN:(⟨(Qdj E.M w).1,E.T,E.B,E.o++(Qdj E.M w).2.toList,E.f,E.s⟩:Eg).ok:=⟨g1,hE.T,hE.tl,hE.B,hE.bl,jM,wM,hE.f⟩;obtain ⟨_,_,_,he,hok⟩:=Qr8 E.M _ HN;have hcoh:=Qzy E.M ⟨(Qdj E.M w).1,E.T,E.B,E.o++(Qdj E.M w).2.toList,E.f,E.s⟩ g3 hC.n hC.T hC.B;have hs:sgl w E=stl E.M ⟨(Qdj E.M w).1,E.T,E.B,E.o++(Qdj E.M w).2.toList,E.f,E.s⟩:=rfl;rw [hs];exact ⟨hok,hcoh,by rw [he],by rw [he]⟩
def QkG:Nat->Mc->List (List SV)->Mc->Prop
 | 0,M,l,M'=>M=M'/\l= []
 | k+1,M,l,M'=>∃ M1 o l',Qb3 M=false/\Qd5 M=false/\Qbh M 0=(M1,o)/\l=o.toList++l'/\QkG k M1 l' M'
theorem QrM:∀ {k:Nat} {M M':Mc},Qhe k M M'->QkG k M [] M'
 | 0,M,M',h=>⟨h,rfl⟩
 | k+1,M,M',⟨M1,h1,h2,h3,h4⟩=>⟨M1,none,[],h1,h2,h3,rfl,QrM h4⟩
theorem Qfj:∀ {k j:Nat} {M M1 M2:Mc} {l l':List (List SV)},QkG k M l M1->QkG j M1 l' M2->QkG (k+j) M (l++l') M2
 | 0,j,M,M1,M2,l,l',⟨h1,h2⟩,g=>by subst h1 h2;rw [Nat.zero_add];exact g
 | k+1,j,M,M1,M2,l,l',⟨N,o,l1,h1,h2,h3,h4,h5⟩,g=>by
  rw [show k+1+j=(k+j)+1 by omega];exact ⟨N,o,l1++l',h1,h2,h3,by rw [h4,List.append_assoc],Qfj h5 g⟩
theorem QmN {M M1:Mc} {o:Option (List SV)} (h1:Qb3 M=false) (h2:Qd5 M=false) (h3:Qbh M 0=(M1,o)):QkG 1 M o.toList M1:=⟨M1,o,[],h1,h2,h3,(List.append_nil _).symm,rfl,rfl⟩
theorem Qsb {M:Mc} (h:Qb3 M=false):Qbg M=true/\M.ht=false/\Qhk M=false/\M.ct<1152921504606846976:=by grind [Qb3,Bool.or_eq_false_iff,Bool.not_eq_false',Qbg,Qhk]
theorem QB4 (M:Mc) (p:Int):(inM M p).ct=M.ct:=by unfold inM;split<;>rfl
theorem Qys (M:Mc) (p:Int) (v:Nat):(Qbx M p v).1.ct=M.ct:=by
 unfold Qbx
 repeat' split
 all_goals rfl
theorem QoC (M:Mc) (w:Nat) (h:M.ct<1152921504606846976):(Qbh M w).1.ct=M.ct+1:=by
 have hm:(M.ct+1)%18446744073709551616=M.ct+1:=Nat.mod_eq_of_lt (by omega);unfold Qbh;split
 .show ((inM (QaF M) (eP (QaI M).e)).ct+1)%18446744073709551616=_
  rw [QB4];exact hm
 split
 .show ((Qbx (QaF M) (eP (QaI M).e) (eV (QaI M).e)).1.ct+1)%18446744073709551616=_
  rw [Qys];exact hm
 split
 .exact hm
 split
 .exact hm
 .exact hm
theorem QdV:∀ {k:Nat} {M M':Mc} {l:List (List SV)},M.ok->Qbg M=true->QkG k M l M'->M'.ok/\Qbg M'=true/\M'.ct=M.ct+k
 | 0,M,M',l,h,hm,⟨h1,h2⟩=>by subst h1;exact ⟨h,hm,rfl⟩
 | k+1,M,M',l,h,hm,⟨N,o,l1,h1,h2,h3,h4,h5⟩=>by
  have e1:N=(Qbh M 0).1:=by rw [h3]
  have hN:N.ok:=by rw [e1];exact Qea M h 0 (by decide)
  have hmN:Qbg N=true:=by rw [e1];exact QhY M h 0 hm h1
  have hcN:N.ct=M.ct+1:=by rw [e1];exact QoC M 0 (Qsb h1).2.2.2
  obtain ⟨q1,q2,_⟩:=QdV hN hmN h5;exact ⟨q1,q2,by omega⟩
structure Adv (lim n:Nat) (E:Eg) (R:Eg × Nat):Prop where
 (le:n<=R.2) (li:R.2<=lim) (ok:R.1.ok) (coh:Coh R.1) (may:Qbg R.1.M=true)
 (run:∃ l,R.1.o=E.o++l/\QkG (R.2-n) E.M l R.1.M) (fin:R.2=lim\/Qjp R.1.M=true) (ol:R.1.o.length<=E.o.length+(R.2-n))
theorem Qjq {M:Mc} (hm:Qbg M=true) (h:Qjp M=false):Qb3 M=false/\Qd5 M=false/\M.ht=false/\M.ct<1152921504606846976:=by grind [Qjp,Bool.or_eq_false_iff,Qb3,Qbg,Qd5]
theorem QhZ:∀ (k lim n:Nat) (E:Eg),E.ok->Coh E->Qbg E.M=true->n<=lim->lim-n<=k->E.M.ct+(lim-n)<=1152921504606846976->E.o.length+(lim-n)<=900000->Adv lim n E (Qky k lim n E)
 | 0,lim,n,E,hE,hC,hm,h1,h2,h3,h4=>by
  have:n=lim:=by omega
  exact ⟨Nat.le_refl _,h1,hE,hC,hm,⟨[],(List.append_nil _).symm,by show QkG (n-n) _ _ _;rw [Nat.sub_self];exact ⟨rfl,rfl⟩⟩,.inl this,by show E.o.length<=_;omega⟩
 | k+1,lim,n,E,hE,hC,hm,h1,h2,h3,h4=>by
  unfold Qky
  by_cases hc:n<lim/\Qjp E.M=false
  case neg =>
   rw [zN hc];refine ⟨Nat.le_refl _,h1,hE,hC,hm,⟨[],(List.append_nil _).symm,by show QkG (n-n) _ _ _;rw [Nat.sub_self];exact ⟨rfl,rfl⟩⟩,?_,by show E.o.length<=_;omega⟩
   by_cases hn:n<lim
   .grind
   .omega
  rw [zP hc];obtain ⟨p1,p2,p3,_⟩:=Qjq hm hc.2;have hR:=QrL E hE hC hm p3 (lim-n) (by omega);generalize Qe6 (lim-n) E=R at *;obtain ⟨_,r2,r3,r4,r5,r6⟩:=hR
  by_cases h0:R.2=0
  .rw [zP h0]
   obtain ⟨z1,z2,_⟩:=r6 h0;have jF:R.1.o.length<900000:=by rw [r4];omega
   obtain ⟨s1,s2,s3,s4⟩:=QiK R.1 r2 r3 jF 0 (by decide);have gN:Qdj R.1.M 0=Qbh E.M 0:=by unfold Qdj;rw [z2,p1,zN (by decide),z1]
   rw [gN] at s3 s4;rw [r4] at s4;have fC:QkG 1 E.M (Qbh E.M 0).2.toList (sgl 0 R.1).M:=by rw [s3];exact QmN p1 p2 rfl
   obtain ⟨_,m2,_⟩:=QdV hE.M hm fC;have qJ:(sgl 0 R.1).o.length<=E.o.length+1:=by grind
   generalize sgl 0 R.1=E1 at *;have ih:=QhZ k lim (n+1) E1 s1 s2 m2 (by omega) (by omega) (by omega) (by omega);generalize Qky k lim (n+1) E1=Q at *;obtain ⟨_,q2,q3,q4,q5,⟨l,q6,q7⟩,q8,q9⟩:=ih;refine ⟨by omega,q2,q3,q4,q5,⟨(Qbh E.M 0).2.toList++l,by rw [q6,s4,List.append_assoc],?_⟩,q8,by omega⟩;have:=Qfj fC q7;rw [show 1+(Q.2-(n+1))=Q.2-n by omega] at this;exact this
  .rw [zN h0]
   have fC:=QrM (r5 (by omega));obtain ⟨_,m2,_⟩:=QdV hE.M hm fC;have ih:=QhZ k lim (n+R.2) R.1 r2 r3 m2 (by omega) (by omega) (by omega) (by rw [r4];omega);generalize Qky k lim (n+R.2) R.1=Q at *;obtain ⟨_,q2,q3,q4,q5,⟨l,q6,q7⟩,q8,q9⟩:=ih;refine ⟨by omega,q2,q3,q4,q5,⟨l,by rw [q6,r4],?_⟩,q8,by rw [r4] at q9;omega⟩;have:=Qfj fC q7;rw [show R.2+(Q.2-(n+R.2))=Q.2-n by omega,zna] at this;exact this
end Go.Proofs.YtpgkkfajljekpabGreat
