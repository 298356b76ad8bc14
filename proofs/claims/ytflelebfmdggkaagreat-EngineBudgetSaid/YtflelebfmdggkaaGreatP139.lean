import Derived.Test.YtflelebfmdggkaaGreatP129
import Derived.Test.YtflelebfmdggkaaGreatP137
import Derived.Test.YtflelebfmdggkaaGreatP138
set_option linter.unusedSimpArgs false
set_option linter.unusedVariables false
set_option maxHeartbeats 100000000
set_option maxRecDepth 100000
namespace Go.Proofs.YtflelebfmdggkaaGreat
open Go Go.RowKit
theorem QqY (E:Eg) (hE:E.ok) (hC:Coh E) (m:Mi) (hm:Qbt m) (hn:1<=m.n/\m.n<=16) :
  FN 85 [.s (.ptr 0 0),.agg m.C] E.H (. =(exO E m).1.R (.a (.s (.bool (exO E m).2)))):=by
 have gI:=hE.M.ml;have zR:(ldE E m).2.2=true->(ldE E m).2.1 / 4<E.M.m.length/\(ldE E m).2.1<4294967296:=(Qeu E hE hC _ (szO m.o) 2 (QaH _) (QhA _) (.inr (.inl rfl))).in_;have ZL:=(Qeu E hE hC (w32 ((E.M.x.getD m.b 0:Nat)+(m.k:Nat))) (szO m.o) 3 (QaH _) (QhA _) (.inr (.inr rfl))).in_;unfold exO
 by_cases vG:m.o=24
 .rw [zP vG]
  by_cases ha:m.a=0
  .exact Qzj E hE m hm hn vG ha
  .exact Qwl E hE m hm hn vG ha
 rw [zN vG]
 by_cases h32:32<=m.o/\m.o<=34
 .rw [zP h32]
  cases hK:(ldE E m).2.2 with
  | false =>
   rw [zN (by decide)];rcases (show m.o=32\/m.o=33\/m.o=34 by omega) with h|h|h
   .exact QtA E hE m hm hn h zR hK
   .exact Qt5 E hE m hm hn h zR hK
   .exact QuB E hE m hm hn h zR hK
  | true =>
   rw [zP rfl]
   by_cases ha:m.a=0
   .rcases (show m.o=32\/m.o=33\/m.o=34 by omega) with h|h|h
    .exact Qox E hE m hm hn h zR hK ha
    .exact QoB E hE m hm hn h zR hK ha
    .exact QqQ E hE m hm hn h zR hK ha
   .rcases (show m.o=32\/m.o=33\/m.o=34 by omega) with h|h|h
    .exact Qoj E hE m hm hn h zR hK ha
    .exact QpC E hE m hm hn h zR hK ha
    .exact Qqf E hE m hm hn h zR hK ha
 rw [zN h32]
 by_cases vH:m.o=35\/m.o=36
 .rw [zP vH]
  cases hK:(stE E m).2 with
  | false =>
   rw [zN (by decide)];rcases vH with h|h
   .exact QrD E hE m hm hn h ZL hK
   .exact QqL E hE m hm hn h ZL hK
  | true =>
   rw [zP rfl];rcases vH with h|h
   .exact Qpw E hE m hm hn h ZL hK
   .exact QqB E hE m hm hn h ZL hK
 rw [zN vH]
 by_cases h40:40<=m.o/\m.o<=45
 .rw [zP h40]
  cases ht:Qde m.o (E.M.x.getD m.a 0) (E.M.x.getD m.b 0) with
  | false =>
   rw [zN (by decide)];rcases (show m.o=40\/m.o=41\/m.o=42\/m.o=43\/m.o=44\/m.o=45 by omega) with h|h|h|h|h|h
   .exact Qpa E hE m hm hn ht h
   .exact Qre E hE m hm hn ht h
   .exact QrN E hE m hm hn ht h
   .exact QrK E hE m hm hn ht h
   .exact Qog E hE m hm hn ht h
   .exact Qrm E hE m hm hn ht h
  | true =>
   rw [zP rfl];rcases (show m.o=40\/m.o=41\/m.o=42\/m.o=43\/m.o=44\/m.o=45 by omega) with h|h|h|h|h|h
   .exact QrI E hE m hm hn ht h
   .exact QpT E hE m hm hn ht h
   .exact QoX E hE m hm hn ht h
   .exact QoU E hE m hm hn ht h
   .exact QrH E hE m hm hn ht h
   .exact Qsc E hE m hm hn ht h
 rw [zN h40]
 by_cases h48:m.o=48
 .rw [zP h48]
  by_cases ha:m.a=0
  .exact QxR E hE m hm hn h48 ha
  .exact Qyu E hE m hm hn h48 ha
 rw [zN h48]
 by_cases h49:m.o=49
 .rw [zP h49]
  by_cases ha:m.a=0
  .exact Qzo E hE m hm hn h49 ha
  .exact Qxx E hE m hm hn h49 ha
 rw [zN h49];have hx:¬ m.o=24/\¬ (32<=m.o/\m.o<=36)/\¬ (40<=m.o/\m.o<=45)/\¬ m.o=48/\¬ m.o=49:=by omega
 cases gZ:QbX m.o with
 | false =>
  rw [zN (by decide)]
  by_cases vF:m.o<=13
  .exact QtC E hE m hm hn hx vF gZ
  .exact QsJ E hE m hm hn hx vF gZ
 | true =>
  rw [zP rfl]
  by_cases vF:m.o<=13
  .rw [zP vF]
   by_cases ha:m.a=0
   .exact Qq3 E hE m hm hn hx vF gZ ha
   .exact Qpq E hE m hm hn hx vF gZ ha
  .rw [zN vF]
   by_cases ha:m.a=0
   .exact Qsq E hE m hm hn hx vF gZ ha
   .exact Qrz E hE m hm hn hx vF gZ ha
theorem QDz (M:Mc) (m:Mi) (M':Mc) (h:opM M m=some M'):∃ (x:List Nat) (pc:Nat) (q:List Nat),M'= { M with x:=x,pc:=pc,m:=q }:=by
 unfold opM at h
 repeat' split at h
 all_goals first|(cases h;done)|(injection h with h;subst h;exact ⟨_,_,_,rfl⟩)
theorem QuX (E:Eg) (hE:E.ok) (hC:Coh E) (a:Nat) (ha:ld4 E.M.m.length a=true):∃ (B2:List Bk),(fnd E a).1=⟨E.M,E.T,B2,E.o,E.f,E.s⟩/\(fnd E a).1.ok/\Coh (fnd E a).1/\(fnd E a).2=fdB E.M.m E.M.m.length a 16:=by
 have ha2:a<4294967296:=by
  unfold ld4 at ha;simp only [zba,zde] at ha;have:=QaU E.M.m.length;omega
 have hok:=(Qvx E.M.m E.M.m.length a 16 ha2 hE.M.mr).2.1
 have FH:(⟨E.M,E.T,Qj9 E.B (fdB E.M.m E.M.m.length a 16),E.o,E.f,E.s⟩:Eg).ok/\Coh (⟨E.M,E.T,Qj9 E.B (fdB E.M.m E.M.m.length a 16),E.o,E.f,E.s⟩:Eg) :=
  ⟨⟨hE.M,hE.T,hE.tl,QwK _ _ hE.B hok,QuO _ _ hE.bl,hE.o,hE.ol,hE.f⟩,⟨hC.n,hC.T,QwT _ _ _ _ (Qwx _ _ _ ha) hC.B⟩⟩
 obtain ⟨h1,h2⟩:=QkG a E.B 0;unfold fnd;split
 .rename_i b hb
  split
  .rename_i h0
   obtain ⟨i,b',g1,g2,g3⟩:=h1 h0;rw [Nat.zero_add] at g1;have hu:(Qf7 a (E.B.map (·.A)) 0).toNat=i:=by rw [g1];omega
   rw [hu] at hb |-;rw [g2] at hb;obtain rfl:=Option.some.inj hb;have hGB:=((Qf3 _ _ _).1 hC.B).2.1 b' (List.mem_of_getElem? g2)
   have zX:(Qbf E.B i b').length=E.B.length:=by
    have gT:=(List.getElem?_eq_some_iff.1 g2).1;unfold Qbf;rw [List.length_cons,zla,List.length_take,List.length_drop];omega
   refine ⟨Qbf E.B i b',rfl,⟨hE.M,hE.T,hE.tl,fun e he=>?_,by show (Qbf E.B i b').length<=16;rw [zX];exact hE.bl,hE.o,hE.ol,hE.f⟩,⟨hC.n,hC.T,Qor _ _ _ _ _ g2 hC.B⟩,by rw [<- g3];exact hGB.2⟩;unfold Qbf at he;rcases List.mem_cons.1 he with rfl|he
   .exact hE.B _ (List.mem_of_getElem? g2)
   .rcases List.mem_append.1 he with he|he
    .exact hE.B e (List.mem_of_mem_take he)
    .exact hE.B e (List.mem_of_mem_drop he)
  .exact ⟨_,rfl,FH.1,FH.2,rfl⟩
 .exact ⟨_,rfl,FH.1,FH.2,rfl⟩
theorem QpY (xs:List Nat) (n a:Nat) (hY:∀ y∈xs,y<4294967296):∃ l:List Mi,(fdB xs n a 16).l=l.map Mi.z/\l=(if (blL xs n a 16).length=0 then [] else Qqy (blL xs n a 16))/\(∀ m∈l,Qbt m/\1<=m.n/\m.n<=16)/\l.length<=16:=by
 obtain ⟨h1,h2,h3⟩:=Qi5 xs n a 16 hY;unfold fdB;dsimp only
 by_cases h0:(blL xs n a 16).length=0
 .rw [zP h0,zP h0]
  exact ⟨[],rfl,rfl,(fun m hm=>by cases hm),Nat.zero_le _⟩
 .rw [zN h0,zN h0]
  have fK:=QmG (blA n a 16) _ (blL xs n a 16) (by omega) h2 (h3 h0);have hs:=((QfW _ _ _).1 fK).2;have vF:=QrM (blL xs n a 16);exact ⟨_,rfl,rfl,fun m hm=>⟨Qp3 _ h2 m hm,Qiw _ _ _ hs m hm⟩,by omega⟩
theorem Qyl (E:Eg) (hE:E.ok) (hC:Coh E) (lim:Nat) (qU:lim<18446744073709551616) (hw:E.M.wt=true) :
  FN 44 [.s (.ptr 0 0),.s (.w lim)] E.H (. =E.R (.a (.s (.w (0:Nat))))):=by
 have cl:=QdC E.M hE.M;have fD:=Qab hE.M.cr 0;have JL:=Qab hE.M.cr 7;have yU:=Qe7 E.M;have a2:=Qhc (E.M.c.getD 0 0) fD;have an:=Qii (Qft E.M) (E.M.c.getD 7 0) yU JL;obtain ⟨ir,yD⟩:∃ k,E.M.c.getD 0 0 / 2%2=k:=⟨_,rfl⟩;obtain ⟨en,yI⟩:∃ k,Qft E.M &&& E.M.c.getD 7 0=k:=⟨_,rfl⟩;rw [yD] at a2;rw [yI] at an;have hint:QcV E.M=decide (ir=1/\en≠0):=by unfold QcV Qiz;rw [yD,yI]
 have KS:ir<2:=by omega
 clear yD yI;generalize Qft E.M=ln at *;clear hint;exact QH6
theorem QxH (E:Eg) (hE:E.ok) (hC:Coh E) (lim:Nat) (qU:lim<18446744073709551616) (hw:E.M.wt=false) (hi:QcV E.M=true) :
  FN 44 [.s (.ptr 0 0),.s (.w lim)] E.H (. =E.R (.a (.s (.w (0:Nat))))):=by
 have cl:=QdC E.M hE.M;have fD:=Qab hE.M.cr 0;have JL:=Qab hE.M.cr 7;have yU:=Qe7 E.M;have a2:=Qhc (E.M.c.getD 0 0) fD;have an:=Qii (Qft E.M) (E.M.c.getD 7 0) yU JL;obtain ⟨ir,yD⟩:∃ k,E.M.c.getD 0 0 / 2%2=k:=⟨_,rfl⟩;obtain ⟨en,yI⟩:∃ k,Qft E.M &&& E.M.c.getD 7 0=k:=⟨_,rfl⟩;rw [yD] at a2;rw [yI] at an;have hint:QcV E.M=decide (ir=1/\en≠0):=by unfold QcV Qiz;rw [yD,yI]
 have KS:ir<2:=by omega
 clear yD yI;generalize Qft E.M=ln at *;rw [hi] at hint;have hint:=of_decide_eq_true hint.symm;clear hi;exact QH6
theorem QyU (E:Eg) (hE:E.ok) (hC:Coh E) (lim:Nat) (qU:lim<18446744073709551616) (hw:E.M.wt=false) (hi:QcV E.M=false) (hK:(rsv E E.M.pc 4 1).2.2=false) :
  FN 44 [.s (.ptr 0 0),.s (.w lim)] E.H (. =E.R (.a (.s (.w (0:Nat))))):=by
 have cl:=QdC E.M hE.M;have fD:=Qab hE.M.cr 0;have JL:=Qab hE.M.cr 7;have yU:=Qe7 E.M;have a2:=Qhc (E.M.c.getD 0 0) fD;have an:=Qii (Qft E.M) (E.M.c.getD 7 0) yU JL;obtain ⟨ir,yD⟩:∃ k,E.M.c.getD 0 0 / 2%2=k:=⟨_,rfl⟩;obtain ⟨en,yI⟩:∃ k,Qft E.M &&& E.M.c.getD 7 0=k:=⟨_,rfl⟩;rw [yD] at a2;rw [yI] at an;have hint:QcV E.M=decide (ir=1/\en≠0):=by unfold QcV Qiz;rw [yD,yI]
 have KS:ir<2:=by omega
 clear yD yI;generalize Qft E.M=ln at *;rw [hi] at hint;have hint:=of_decide_eq_false hint.symm;clear hi;have ca:=Qfq E hE E.M.pc 4 1 hE.M.pr (.inr rfl);obtain ⟨_,_,_,_,he,hXl,hok1,qH⟩:=Qhf E hE E.M.pc 4 1 hE.M.pr;rw [qH hK,hK] at ca;clear he qH hok1 hK hXl;generalize (rsv E E.M.pc 4 1).2.1=A at *;have fJ:=Qaa E.M.m;have gY:=Qaf E.T;have fH:=Qad E.B;have qK:=(QaA hE.o).2.1;obtain ⟨hM,hT,_,hB,_,ho,_,_⟩:=hE;obtain ⟨M,T,B,o,_,s⟩:=E;dsimp only [Eg.H,Eg.R,Eg.Rk,Eg.C,wrt] at *;obtain ⟨hx,hc,hY,gA,gH,gB,gI,gE,gD,gF⟩:=hM;obtain ⟨_,pc,c,m,_,_,_,_,d,n,_,_,_,wt⟩:=M;dsimp only at *;cases zC16 hx;cases zC8 hc;cases d;cases n;dsimp only [Mc.C,Mc.D,Dk.C,Nk.C,Dk.ok,Nk.ok] at *;subst hw
 try dsimp only [cR,Mc.C,Mc.D,Dk.C,Nk.C] at *
 try simp only [Qah,zca,zna,List.getD_cons_succ,List.getD_cons_zero] at *
 generalize gO:wsv m=XX,hX3:bks B=BB,hX4:OLs o=OO,gJ:m.length=nn,gM:B.length=bn,gP:o.length=on,gU:tes T=TT,htn:T.length=tn at *;clear gO gU hX3 hX4 gJ gM gP htn hT hB ho hY gA gH gB gI gE gD gF;refine fnW Tryz.func44 ?_;(repeat' ((conv=>whnf);first|exact zi2|(refine zj0 ?_;intro hb)|refine QHh ?_|(refine QaD cl ?_)|(refine Qax ca ?_)|refine zse ?_|refine zbb ?_ ?_));all_goals (conv=>whnf)
 all_goals first|(apply Fin.mv (m:= [(0,some 0),(1,some 1),(2,some 2),(3,some 3),(4,some 4),(5,some 328064),(6,some 328065),(7,some 328066),(8,some 328067)]);(focus exact rfl);(all_goals ((try (show QcK _ _ _ [] _));first|exact aFi|exact rfl)))
def Qb5 (M:Mc):Mc:= { M with m:=mM M M.pc 4 1 }
theorem QjK {M:Mc} (o:mO M M.pc 4 1=true) (hn:mpg M.m.length*32=M.m.length):mO (Qb5 M) M.pc 4 1=true/\mA (Qb5 M) M.pc 4 1=mA M M.pc 4 1/\mM (Qb5 M) M.pc 4 1=(Qb5 M).m/\(Qb5 M).m.length=M.m.length/\mA M M.pc 4 1%4=0:=by
 have hl:(Qb5 M).m.length=M.m.length:=Qbl _ _ _ _ _ _ _;unfold mO at o;have o0:=o;unfold rsO at o;simp only [zba,zde] at o;obtain ⟨⟨⟨o1,o2⟩,o3⟩,o4⟩:=o;have ha:mA M M.pc 4 1=if Qdc (M.c.getD 0 0)=true then frW (QaT M.m (cR M) M.pc)*128+M.pc%128 else M.pc:=by unfold mA rsA;rw [zP o0]
 by_cases qF:Qdc (M.c.getD 0 0)=true
 .rw [zP qF] at o4 ha
  have hm:(Qb5 M).m=M.m.set (cR M*32+M.pc / 128) (QbK (QaT M.m (cR M) M.pc) 1):=by
   show rsM _ _ _ _ _ _ _=_;unfold rsM;rw [zP ⟨o0,qF⟩];have e4:Qba (cR M) M.pc / 4=cR M*32+M.pc / 128:=by unfold Qba;omega
   rw [e4];rfl
  unfold Qbp at o4;simp only [zba,zde] at o4;obtain ⟨⟨⟨⟨_,w2⟩,w3⟩,w4⟩,w5⟩:=o4;have hj:cR M*32+M.pc / 128<M.m.length:=by omega
  have hP:QaT (Qb5 M).m (cR M) M.pc=QbK (QaT M.m (cR M) M.pc) 1:=by grind [QaT,QeQ,mO,mpg,Qb5,mA,mM]
  have o7:rsO (Qb5 M).m (Qb5 M).m.length (M.c.getD 0 0) (cR M) M.pc ((4:Nat):Int) 1=true:=by
   show rsO (Qb5 M).m (Qb5 M).m.length (M.c.getD 0 0) (cR M) M.pc ((4:Nat):Int) 1=true;unfold rsO Qbp;rw [o1,o2,zdt o3,zP qF,hP,QvI,QhI,hl,zdt w2,zdt w3,w4,zdt w5];rfl
  refine ⟨o7,?_,?_,hl,by rw [ha];omega⟩
  .grind [rsA,Qb5,cR,QhI,mO,mpg,mA,mM]
  .show rsM (Qb5 M).m (Qb5 M).m.length (M.c.getD 0 0) (cR M) M.pc ((4:Nat):Int) 1=_
   unfold rsM;rw [zP ⟨o7,qF⟩];have e4:Qba (cR M) M.pc / 4=cR M*32+M.pc / 128:=by unfold Qba;omega
   rw [e4];have:(Qb5 M).m.getD (cR M*32+M.pc / 128) 0=QbK (QaT M.m (cR M) M.pc) 1:=hP;have e5:QbK ((Qb5 M).m.getD (cR M*32+M.pc / 128) 0) 1=(Qb5 M).m.getD (cR M*32+M.pc / 128) 0:=by rw [this,QqX]
   rw [e5];exact Qsk _ _
 .rw [zN qF] at o4 ha
  have hm:(Qb5 M).m=M.m:=by grind [rsM,mO,mpg,Qb5,mA,mM]
  have hM:Qb5 M=M:=by
   show ({ M with m:=(Qb5 M).m }:Mc)=M;rw [hm]
  refine ⟨by rw [hM];exact o0,by rw [hM],?_,hl,by rw [ha];omega⟩;rw [hM];show rsM _ _ _ _ _ _ _=_;unfold rsM;rw [zN (fun h=>qF h.2)]
theorem Qjn {M:Mc} (hi:QcV M=false) (o:mO M M.pc 4 1=true) (hn:mpg M.m.length*32=M.m.length) (w:Nat):Qbh (Qb5 M) w=Qbh M w/\Qcv (Qb5 M)=Qcv M/\QfC (Qb5 M)=QfC M:=by
 obtain ⟨h1,h2,h3,h4,h5⟩:=QjK o hn;have zR:QcV (Qb5 M)=false:=hi;have hP:Qdd M=M.pc:=by unfold Qdd;rw [hi,zN (by decide)]
 have hC:Qda M=M.c:=by unfold Qda;rw [hi,zN (by decide)]
 have hP2:Qdd (Qb5 M)=M.pc:=by unfold Qdd;rw [zR,zN (by decide)];rfl
 have VE:Qda (Qb5 M)=M.c:=by unfold Qda;rw [zR,zN (by decide)];rfl
 have YY:rsK M.m M.m.length (M.c.getD 0 0) (M.c.getD 6 0) M.pc 4 1=0:=(Qeq _ _ _ _ _ _ _).2 o;have hrk2:rsK (Qb5 M).m (Qb5 M).m.length (M.c.getD 0 0) (M.c.getD 6 0) M.pc 4 1=0:=(Qeq _ _ _ _ _ _ _).2 h1;have ZY:rsM M.m M.m.length (M.c.getD 0 0) (M.c.getD 6 0) M.pc 4 1=(Qb5 M).m:=rfl;have hrm2:rsM (Qb5 M).m (Qb5 M).m.length (M.c.getD 0 0) (M.c.getD 6 0) M.pc 4 1=(Qb5 M).m:=h3;have hra:rsA (Qb5 M).m (Qb5 M).m.length (M.c.getD 0 0) (M.c.getD 6 0) M.pc 4 1=rsA M.m M.m.length (M.c.getD 0 0) (M.c.getD 6 0) M.pc 4 1:=h2
 have yS:ftW (Qb5 M).m (Qb5 M).m.length (M.c.getD 0 0) (M.c.getD 6 0) M.pc=ftW M.m M.m.length (M.c.getD 0 0) (M.c.getD 6 0) M.pc:=by
  unfold ftW;rw [zP YY,zP hrk2,ZY,hrm2,hra]
 have hq:QaJ (Qb5 M)=QaJ M:=by grind [QaJ,exS,Qb5,QcV,mO,mpg,Qbh,Qcv]
 have hs:QaG (Qb5 M)=QaG M:=by
  unfold QaG;rw [hq];rfl
 have gN:Qcv (Qb5 M)=Qcv M:=by
  unfold Qcv QbQ;rw [h4];rfl
 refine ⟨?_,gN,?_⟩
 .unfold Qbh
  rw [hq,hs]
 .unfold QfC
  rw [gN];congr 1;unfold QmB QnZ;rw [hP,hC,hP2,VE,h4]
  by_cases hk:M.c.getD 0 0%2=1
  .have qF:¬ Qdc (M.c.getD 0 0)=true:=by unfold Qdc;rw [zde];omega
   have hm:(Qb5 M).m=M.m:=by grind [rsM,QcV,mO,mpg,Qbh,Qb5,Qcv,QfC]
   rw [hm]
  .grind
theorem QmZ {M M':Mc} {k:Nat} (hi:QcV M=false) (o:mO M M.pc 4 1=true) (hn:mpg M.m.length*32=M.m.length) (h:QgX (k+1) (Qb5 M) M'):QgX (k+1) M M':=by
 obtain ⟨h1,h2,h3⟩:=Qjn hi o hn 0;obtain ⟨M1,g1,g2,g3,g4⟩:=h;exact ⟨M1,by rw [<- h2];exact g1,by rw [<- h3];exact g2,by rw [<- h1];exact g3,g4⟩
theorem QyQ (E:Eg) (hE:E.ok) (hC:Coh E) (va:Nat) (gX:va<4294967296) (h:(rsv E va 4 1).2.2=true):ld4 E.M.m.length (rsv E va 4 1).2.1=true:=by
 have hr:=Qeu E hE hC va 4 1 gX (.inr rfl) (.inl rfl);have qB:=hr.in_ h;have ha:=hr.a h;have hb:=hr.b;rw [h] at hb;have hn:=hC.n
 have h4:va%4=0:=by
  have hb:=hb.symm;unfold sO rsO at hb;simp only [zba] at hb;have:=of_decide_eq_true hb.1.2;omega
 have JG:(rsv E va 4 1).2.1%4=0:=by grind [sA,rsA,rsv,ld4]
 unfold ld4;rw [zdt JG,Bool.true_and];exact zdt (by omega)
structure RunK (lim:Nat) (E:Eg) (R:Eg × Nat):Prop where
 (li:R.2<=lim) (ok:R.1.ok) (coh:Coh R.1) (o:R.1.o=E.o)
 (pos:0<R.2->QgX R.2 E.M R.1.M)
 (zero:R.2=0->Qbh R.1.M 0=Qbh E.M 0/\Qcv R.1.M=Qcv E.M/\QfC R.1.M=QfC E.M)
theorem QJF (x:List Nat) (h:x.getD 0 0=0):QkP isb0 QmM x:=fun r hr hk=>by
 rcases r with _|r
 .exact h
 .have HX:r<15:=by omega
  exfalso;revert hk;have:∀ r:Nat,r<15->¬ isb0.getD (r+1) false=true:=by decide
  exact this r HX
theorem Qq6 (E:Eg) (hE:E.ok) (hC:Coh E) (fK:QbQ E.M=true) (HS:E.M.ht=false) (lim:Nat) (qQ:E.M.ct+lim<=1152921504606846976):RunK lim E (Qee lim E):=by
 have hrf:RunK lim E (E,0):=⟨Nat.zero_le _,hE,hC,rfl,(fun h=>absurd h (Nat.lt_irrefl 0)),fun _=>⟨rfl,rfl,rfl⟩⟩;unfold Qee
 by_cases h1:E.M.wt=true\/QcV E.M=true
 .grind
 rw [zN h1];have zV:E.M.wt=false:=by cases h:E.M.wt with|false=>rfl|true=>exact absurd (.inl h) h1
 have hi:QcV E.M=false:=by cases h:QcV E.M with|false=>rfl|true=>exact absurd (.inr h) h1
 by_cases h2:(rsv E E.M.pc 4 1).2.2=false
 .grind
 rw [zN h2];have h2:(rsv E E.M.pc 4 1).2.2=true:=by cases h:(rsv E E.M.pc 4 1).2.2 with|true=>rfl|false=>exact absurd h h2
 have hr:=Qeu E hE hC E.M.pc 4 1 hE.M.pr (.inr rfl) (.inl rfl);have qY:=QyQ E hE hC E.M.pc hE.M.pr h2;have hO:mO E.M E.M.pc 4 1=true:=by rw [<- h2];exact hr.b.symm
 have hA:(rsv E E.M.pc 4 1).2.1=mA E.M E.M.pc 4 1:=hr.a h2;have GR:(rsv E E.M.pc 4 1).1.M=Qb5 E.M:=hr.m;obtain ⟨t1,t2,t3,t4,_⟩:=QjK hO hC.n;obtain ⟨u1,u2,u3⟩:=Qjn hi hO hC.n 0;have k1:=hr.ok;have k2:=hr.coh;have k3:=hr.o;rw [hA] at qY |-;generalize (rsv E E.M.pc 4 1).1=E1 at *;clear hr h1 h2 hrf;have GL:E1.M.m.length=E.M.m.length:=by rw [GR];exact t4
 obtain ⟨B2,JF,hok2,hcoh2,hb2⟩:=QuX E1 k1 k2 (mA E.M E.M.pc 4 1) (by rw [GL];exact qY);obtain ⟨l,hl,hl2,_,_⟩:=QpY E1.M.m E1.M.m.length (mA E.M E.M.pc 4 1) k1.M.mr;rw [JF] at hok2 hcoh2 |-;rw [hb2,hl,Qzf];have GV:bok E1.M.m.length (mA E.M E.M.pc 4 1) 16=true:=by unfold bok;rw [GL,qY];rfl
 have YZ:(fdB E1.M.m E1.M.m.length (mA E.M E.M.pc 4 1) 16).A=mA E.M E.M.pc 4 1:=by
  show blA _ _ _=_;unfold blA;rw [zP GV]
 rw [YZ];have hbL:blL E1.M.m E1.M.m.length (mA E.M E.M.pc 4 1) 16=bl E1.M.m (lmt (mA E.M E.M.pc 4 1) 16) (mA E.M E.M.pc 4 1 / 4):=by unfold blL;rw [zP GV]
 have hA2:mA E.M E.M.pc 4 1 / 4<E.M.m.length:=Qd5 qY;have gI:=hE.M.ml;clear JF hb2 hl;generalize mA E.M E.M.pc 4 1=A at *;have hok3:(⟨E1.M,E1.T,B2,E1.o,A / 128,false⟩:Eg).ok:=⟨hok2.M,hok2.T,hok2.tl,hok2.B,hok2.bl,hok2.o,hok2.ol,by show A / 128<_;omega⟩;have vW:Coh (⟨E1.M,E1.T,B2,E1.o,A / 128,false⟩:Eg):=⟨hcoh2.n,hcoh2.T,hcoh2.B⟩;show RunK lim E (QfD l lim 0 ⟨E1.M,E1.T,B2,E1.o,A / 128,false⟩);have hz:QfD [] lim 0 (⟨E1.M,E1.T,B2,E1.o,A / 128,false⟩:Eg)=(⟨E1.M,E1.T,B2,E1.o,A / 128,false⟩,0):=rfl
 by_cases fQ:bl E1.M.m (lmt A 16) (A / 4)= []
 .rw [hbL,fQ] at hl2
  change l= [] at hl2;subst hl2;rw [hz];exact ⟨Nat.zero_le _,hok3,vW,k3,(fun h=>absurd h (Nat.lt_irrefl 0)),fun _=>by grind⟩
 .rw [hbL,zN (fun h=>fQ (List.eq_nil_of_length_eq_zero h))] at hl2
  subst hl2;have KT:E.M.x.getD 0 0=0:=by grind [QbQ,Qee]
  have WO:A / 4%32+lmt A 16<=32:=by unfold lmt;omega
  have hB:Bs E1.M.m (A / 128) (A / 4) 0 E1.M.x ⟨E1.M,E1.T,B2,E1.o,A / 128,false⟩:=by
   refine ⟨hok3,vW,rfl,rfl,?_,?_,?_,?_,fun j hj=>rfl,?_,?_,k1.M.x,k1.M.xr,?_⟩
   .show QbQ E1.M=true
    have:Qcv (Qb5 E.M)=Qcv E.M:=u2;rw [GR];exact QrQ E.M E.M.x (Qb5 E.M).m E.M.pc E.M.ct fK KT t4 (by omega)
   .show E1.M.ht=false;rw [GR];exact HS
   .show E1.M.wt=false;rw [GR];exact zV
   .show QcV E1.M=false;rw [GR];exact hi
   .show E1.M.pc+4*0<_
    have:=k1.M.pr;omega
   .show Ftc E1.M (E1.M.pc+4*0) (A / 4)
    rw [GR];show Ftc (Qb5 E.M) E.M.pc (A / 4);exact ⟨t1,by rw [t2];omega,t3⟩
   .rw [GR];exact KT
  have hD:=QzC E1.M.m k1.M.mr (A / 128) lim (lmt A 16) (A / 4) isb0 QmM 0 0 ⟨E1.M,E1.T,B2,E1.o,A / 128,false⟩ E1.M.x rfl rfl Qiv (by omega) WO fQ hB (Nat.zero_le _) (by show E1.M.ct+(lim-0)<=_;rw [GR];show E.M.ct+(lim-0)<=_;omega) (QJF _ (by rw [GR];exact KT)) (.inl rfl) (fun _=>rfl);change Dn lim 0 _ (QfD (Qqy (bl E1.M.m (lmt A 16) (A / 4))) lim 0 _) at hD;generalize QfD (Qqy (bl E1.M.m (lmt A 16) (A / 4))) lim 0 ⟨E1.M,E1.T,B2,E1.o,A / 128,false⟩=R at *;obtain ⟨_,d2,d3,d4,d5,d6⟩:=hD;rw [Nat.sub_zero] at d3;change QgX R.2 E1.M R.1.M at d3;rw [GR] at d3;refine ⟨d2,d4,d5,d6.trans k3,fun hp=>?_,fun h0=>?_⟩
  .obtain ⟨k,hk⟩:∃ k,R.2=k+1:=⟨R.2-1,by omega⟩
   rw [hk] at d3 |-;exact QmZ hi hO hC.n d3
  .rw [h0] at d3
   have d3:Qb5 E.M=R.1.M:=d3;rw [<- d3];exact ⟨u1,u2,u3⟩
theorem Qwq (l:List Nat):∀ E:Eg,(l.foldl QcD E).M=E.M/\(l.foldl QcD E).o=E.o/\(l.foldl QcD E).B.Sublist E.B/\(∀ b∈(l.foldl QcD E).B,∀ i∈l,fk b≠(i:Int))/\((l.foldl QcD E).T= []\/(l.foldl QcD E).T=E.T/\cR E.M ∉ l):=by
 induction l with
 | nil=>grind
 | cons a l ih =>
  intro E;obtain ⟨h1,h2,h3,h4,h5⟩:=ih (QcD E a);have e1:(QcD E a).M=E.M:=by unfold QcD;split<;>rfl
  have e2:(QcD E a).o=E.o:=by unfold QcD;split<;>rfl
  have e3:(QcD E a).B=E.B.filter (fun b=>decide (fk b≠(a:Int))):=by unfold QcD;split<;>rfl
  have e4:(QcD E a).T=if a=cR E.M then [] else E.T:=by unfold QcD;split<;>rfl
  show (l.foldl QcD (QcD E a)).M=_/\_;refine ⟨h1.trans e1,h2.trans e2,(h3.trans (by rw [e3];exact List.filter_sublist)),fun b hb i hi=>?_,?_⟩
  .grind
  .grind
theorem Qx8 (M0:Mc) (E:Eg) (hl:E.M.m.length=M0.m.length) (hn:mpg M0.m.length*32=M0.m.length) (hT:QhP E.T M0.m M0.m.length (cR M0)=true) (hB:Qhv M0.m M0.m.length E.B):Coh (stl M0 E):=by
 have e1:(Qke (cR M0) E).M=E.M:=by unfold Qke;split<;>rfl
 have e2:(Qke (cR M0) E).B=E.B:=by unfold Qke;split<;>rfl
 obtain ⟨h1,h2,h3,h4,h5⟩:=Qwq (QdX M0.m E.M.m E.M.m.length) (Qke (cR M0) E);have hcs:=fun i h j hj=>QjB (a:=M0.m) (b:=E.M.m) (n:=E.M.m.length) hl.symm rfl (by rw [hl];exact hn) i h j hj
 have gN:stl M0 E=(QdX M0.m E.M.m E.M.m.length).foldl QcD (Qke (cR M0) E):=rfl;rw [gN];generalize (QdX M0.m E.M.m E.M.m.length).foldl QcD (Qke (cR M0) E)=F at *;rw [e1] at h1 h5;rw [e2] at h3;refine ⟨by rw [h1,hl];exact hn,?_,?_⟩
 .grind [Ql4,Qke,QjE,cR,mpg,QhP,Qhv,stl]
 .rw [h1,hl]
  refine Qln M0.m E.M.m _ E.B F.B h3 (fun b hb j hj=>?_) hB;exact hcs (b.A / 128) (fun hm=>h4 b hb _ hm rfl) j hj
theorem QrO (E:Eg) (hE:E.ok) (hC:Coh E) (jH:E.o.length<900000) (w:Nat) (hw:w<4294967296):(sgl w E).ok/\Coh (sgl w E)/\(sgl w E).M=(QdD E.M w).1/\(sgl w E).o=E.o++(QdD E.M w).2.toList:=by
 obtain ⟨g1,g2,g3⟩:=QkC E.M hE.M w hw;have qX:Qbn (E.o++(QdD E.M w).2.toList):=QcU (O:=(QdD E.M w).2) hE.o g2;have wF:(E.o++(QdD E.M w).2.toList).length<=900000:=by grind
 have HD:(⟨(QdD E.M w).1,E.T,E.B,E.o++(QdD E.M w).2.toList,E.f,E.s⟩:Eg).ok:=⟨g1,hE.T,hE.tl,hE.B,hE.bl,qX,wF,hE.f⟩;obtain ⟨T2,B2,s2,he,hok⟩:=Qpo E.M _ HD;have hcoh:=Qx8 E.M ⟨(QdD E.M w).1,E.T,E.B,E.o++(QdD E.M w).2.toList,E.f,E.s⟩ g3 hC.n hC.T hC.B;have hs:sgl w E=stl E.M ⟨(QdD E.M w).1,E.T,E.B,E.o++(QdD E.M w).2.toList,E.f,E.s⟩:=rfl;rw [hs];exact ⟨hok,hcoh,by rw [he],by rw [he]⟩
def Qkb:Nat->Mc->List (List SV)->Mc->Prop
 | 0,M,l,M'=>M=M'/\l= []
 | k+1,M,l,M'=>∃ M1 o l',Qcv M=false/\QfC M=false/\Qbh M 0=(M1,o)/\l=o.toList++l'/\Qkb k M1 l' M'
theorem QpO:∀ {k:Nat} {M M':Mc},QgX k M M'->Qkb k M [] M'
 | 0,M,M',h=>⟨h,rfl⟩
 | k+1,M,M',⟨M1,h1,h2,h3,h4⟩=>⟨M1,none,[],h1,h2,h3,rfl,QpO h4⟩
theorem QdL:∀ {k j:Nat} {M M1 M2:Mc} {l l':List (List SV)},Qkb k M l M1->Qkb j M1 l' M2->Qkb (k+j) M (l++l') M2
 | 0,j,M,M1,M2,l,l',⟨h1,h2⟩,g=>by subst h1 h2;rw [Nat.zero_add];exact g
 | k+1,j,M,M1,M2,l,l',⟨N,o,l1,h1,h2,h3,h4,h5⟩,g=>by
  rw [show k+1+j=(k+j)+1 by omega];exact ⟨N,o,l1++l',h1,h2,h3,by rw [h4,List.append_assoc],QdL h5 g⟩
theorem Qms {M M1:Mc} {o:Option (List SV)} (h1:Qcv M=false) (h2:QfC M=false) (h3:Qbh M 0=(M1,o)):Qkb 1 M o.toList M1:=⟨M1,o,[],h1,h2,h3,(List.append_nil _).symm,rfl,rfl⟩
theorem QoC {M:Mc} (h:Qcv M=false):QbQ M=true/\M.ht=false/\QkV M=false/\M.ct<1152921504606846976:=by grind [Qcv,Bool.or_eq_false_iff,Bool.not_eq_false',QbQ,QkV]
theorem QCt (M:Mc) (p:Int):(inM M p).ct=M.ct:=by unfold inM;split<;>rfl
theorem Qww (M:Mc) (p:Int) (v:Nat):(Qbz M p v).1.ct=M.ct:=by
 unfold Qbz
 repeat' split
 all_goals rfl
theorem QwN (M:Mc) (w:Nat) (h:M.ct<1152921504606846976):(Qbh M w).1.ct=M.ct+1:=by
 have hm:(M.ct+1)%18446744073709551616=M.ct+1:=Nat.mod_eq_of_lt (by omega);unfold Qbh;split
 .show ((inM (QaG M) (eP (QaJ M).e)).ct+1)%18446744073709551616=_
  rw [QCt];exact hm
 split
 .show ((Qbz (QaG M) (eP (QaJ M).e) (eV (QaJ M).e)).1.ct+1)%18446744073709551616=_
  rw [Qww];exact hm
 split
 .exact hm
 split
 .exact hm
 .exact hm
theorem QeO:∀ {k:Nat} {M M':Mc} {l:List (List SV)},M.ok->QbQ M=true->Qkb k M l M'->M'.ok/\QbQ M'=true/\M'.ct=M.ct+k
 | 0,M,M',l,h,hm,⟨h1,h2⟩=>by subst h1;exact ⟨h,hm,rfl⟩
 | k+1,M,M',l,h,hm,⟨N,o,l1,h1,h2,h3,h4,h5⟩=>by
  have e1:N=(Qbh M 0).1:=by rw [h3]
  have hN:N.ok:=by rw [e1];exact Qed M h 0 (by decide)
  have hmN:QbQ N=true:=by rw [e1];exact Qmg M h 0 hm h1
  have hcN:N.ct=M.ct+1:=by rw [e1];exact QwN M 0 (QoC h1).2.2.2
  obtain ⟨q1,q2,q3⟩:=QeO hN hmN h5;exact ⟨q1,q2,by omega⟩
structure Adv (lim n:Nat) (E:Eg) (R:Eg × Nat):Prop where
 (le:n<=R.2) (li:R.2<=lim) (ok:R.1.ok) (coh:Coh R.1) (may:QbQ R.1.M=true)
 (run:∃ l,R.1.o=E.o++l/\Qkb (R.2-n) E.M l R.1.M) (fin:R.2=lim\/Qob R.1.M=true) (ol:R.1.o.length<=E.o.length+(R.2-n))
theorem Qj5 {M:Mc} (hm:QbQ M=true) (h:Qob M=false):Qcv M=false/\QfC M=false/\M.ht=false/\M.ct<1152921504606846976:=by grind [Qob,Bool.or_eq_false_iff,Qcv,QbQ,QfC]
theorem Qin:∀ (k lim n:Nat) (E:Eg),E.ok->Coh E->QbQ E.M=true->n<=lim->lim-n<=k->E.M.ct+(lim-n)<=1152921504606846976->E.o.length+(lim-n)<=900000->Adv lim n E (Qm0 k lim n E)
 | 0,lim,n,E,hE,hC,hm,h1,h2,h3,h4=>by
  have:n=lim:=by omega
  exact ⟨Nat.le_refl _,h1,hE,hC,hm,⟨[],(List.append_nil _).symm,by show Qkb (n-n) _ _ _;rw [Nat.sub_self];exact ⟨rfl,rfl⟩⟩,.inl this,by show E.o.length<=_;omega⟩
 | k+1,lim,n,E,hE,hC,hm,h1,h2,h3,h4=>by
  unfold Qm0
  by_cases hc:n<lim/\Qob E.M=false
  case neg =>
   rw [zN hc];refine ⟨Nat.le_refl _,h1,hE,hC,hm,⟨[],(List.append_nil _).symm,by show Qkb (n-n) _ _ _;rw [Nat.sub_self];exact ⟨rfl,rfl⟩⟩,?_,by show E.o.length<=_;omega⟩
   by_cases hn:n<lim
   .grind
   .omega
  rw [zP hc];obtain ⟨p1,p2,p3,p4⟩:=Qj5 hm hc.2;have hR:=Qq6 E hE hC hm p3 (lim-n) (by omega);generalize Qee (lim-n) E=R at *;obtain ⟨_,r2,r3,r4,r5,r6⟩:=hR
  by_cases h0:R.2=0
  .rw [zP h0]
   obtain ⟨z1,z2,_⟩:=r6 h0;have jH:R.1.o.length<900000:=by rw [r4];omega
   obtain ⟨s1,s2,s3,s4⟩:=QrO R.1 r2 r3 jH 0 (by decide);have gN:QdD R.1.M 0=Qbh E.M 0:=by unfold QdD;rw [z2,p1,zN (by decide),z1]
   rw [gN] at s3 s4;rw [r4] at s4;have gW:Qkb 1 E.M (Qbh E.M 0).2.toList (sgl 0 R.1).M:=by rw [s3];exact Qms p1 p2 rfl
   obtain ⟨m1,m2,_⟩:=QeO hE.M hm gW;have qJ:(sgl 0 R.1).o.length<=E.o.length+1:=by grind
   generalize sgl 0 R.1=E1 at *;have ih:=Qin k lim (n+1) E1 s1 s2 m2 (by omega) (by omega) (by omega) (by omega);generalize Qm0 k lim (n+1) E1=Q at *;obtain ⟨q1,q2,q3,q4,q5,⟨l,q6,q7⟩,q8,q9⟩:=ih;refine ⟨by omega,q2,q3,q4,q5,⟨(Qbh E.M 0).2.toList++l,by rw [q6,s4,List.append_assoc],?_⟩,q8,by omega⟩;have:=QdL gW q7;rw [show 1+(Q.2-(n+1))=Q.2-n by omega] at this;exact this
  .rw [zN h0]
   have gW:=QpO (r5 (by omega));obtain ⟨m1,m2,_⟩:=QeO hE.M hm gW;have ih:=Qin k lim (n+R.2) R.1 r2 r3 m2 (by omega) (by omega) (by omega) (by rw [r4];omega);generalize Qm0 k lim (n+R.2) R.1=Q at *;obtain ⟨q1,q2,q3,q4,q5,⟨l,q6,q7⟩,q8,q9⟩:=ih;refine ⟨by omega,q2,q3,q4,q5,⟨l,by rw [q6,r4],?_⟩,q8,by rw [r4] at q9;omega⟩;have:=QdL gW q7;rw [show R.2+(Q.2-(n+R.2))=Q.2-n by omega,zna] at this;exact this
structure Ag (lim n:Nat) (E Z:Eg) (z:Nat):Prop where
 (ok:E.ok) (coh:Coh E) (may:QbQ E.M=true) (le:n<=lim) (ct:E.M.ct+(lim-n)<=1152921504606846976) (ol:E.o.length+(lim-n)<=900000) (run:∃ k,lim-n<=k/\Qm0 k lim n E=(Z,z))
theorem QB2 {lim n:Nat} {E Z:Eg} {z:Nat} (h:Ag lim n E Z z) (hc:¬ (n<lim/\Qob E.M=false)):Z=E/\z=n:=by
 obtain ⟨k,_,hk⟩:=h.run
 cases k with
 | zero=>change (E,n)=(Z,z) at hk;injection hk with h1 h2;exact ⟨h1.symm,h2.symm⟩
 | succ k=>unfold Qm0 at hk;rw [zN hc] at hk;injection hk with h1 h2;exact ⟨h1.symm,h2.symm⟩
theorem QBK {lim n:Nat} {E Z:Eg} {z:Nat} (h:Ag lim n E Z z) (hc:n<lim/\Qob E.M=false) :
  (Qee (lim-n) E).1.ok/\Coh (Qee (lim-n) E).1/\(Qee (lim-n) E).2<=lim-n/\(Qee (lim-n) E).1.o.length<900000 /\
  ((Qee (lim-n) E).2=0->Ag lim (n+1) (sgl 0 (Qee (lim-n) E).1) Z z)/\((Qee (lim-n) E).2≠0->Ag lim (n+(Qee (lim-n) E).2) (Qee (lim-n) E).1 Z z):=by
 obtain ⟨hE,hC,hm,_,_,_,k,_,hk⟩:=h
 cases k with
 | zero=>omega
 | succ k =>
 unfold Qm0 at hk;rw [zP hc] at hk;obtain ⟨p1,p2,p3,p4⟩:=Qj5 hm hc.2;have hR:=Qq6 E hE hC hm p3 (lim-n) (by omega);generalize Qee (lim-n) E=R at *;obtain ⟨r1,r2,r3,r4,r5,r6⟩:=hR;have jH:R.1.o.length<900000:=by rw [r4];omega
 refine ⟨r2,r3,r1,jH,fun h0=>?_,fun h0=>?_⟩
 .rw [zP h0] at hk
  obtain ⟨z1,z2,_⟩:=r6 h0;obtain ⟨s1,s2,s3,s4⟩:=QrO R.1 r2 r3 jH 0 (by decide);have gN:QdD R.1.M 0=Qbh E.M 0:=by unfold QdD;rw [z2,p1,zN (by decide),z1]
  rw [gN] at s3 s4;rw [r4] at s4;have gW:Qkb 1 E.M (Qbh E.M 0).2.toList (sgl 0 R.1).M:=by rw [s3];exact Qms p1 p2 rfl
  obtain ⟨m1,m2,_⟩:=QeO hE.M hm gW
  have qJ:(sgl 0 R.1).o.length<=E.o.length+1:=by
   rw [s4,zla]
   cases (Qbh E.M 0).2 with
   | none=>show _+0<=_;omega
   | some l=>show _+1<=_;omega
  exact ⟨s1,s2,m2,by omega,by omega,by omega,k,by omega,hk⟩
 .rw [zN h0] at hk
  have gW:=QpO (r5 (by omega));obtain ⟨m1,m2,_⟩:=QeO hE.M hm gW;exact ⟨r2,r3,m2,by omega,by omega,by rw [r4];omega,k,by omega,hk⟩
end Go.Proofs.YtflelebfmdggkaaGreat
