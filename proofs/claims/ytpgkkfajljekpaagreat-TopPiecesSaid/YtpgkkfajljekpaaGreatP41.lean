import Derived.Test.YtpgkkfajljekpaaGreatP59
import Derived.Test.YtpgkkfajljekpaaGreatP60
import Derived.Test.YtpgkkfajljekpaaGreatP61
import Derived.Test.YtpgkkfajljekpaaGreatP39
set_option linter.unusedSimpArgs false
set_option linter.unusedVariables false
set_option maxHeartbeats 0
set_option maxRecDepth 100000
namespace Go.Proofs.YtpgkkfajljekpaaGreat
open Go Go.RowKit
theorem QpR (E:Eg) (hE:E.ok) (hC:Coh E) (m:Mi) (hm:Qbo m) (hn:1<=m.n/\m.n<=16) :
  FN 142 [.s (.ptr 0 0),.agg m.C] E.H (. =(exO E m).1.R (.a (.s (.bool (exO E m).2)))):=by
 have gI:=hE.M.ml;have zQ:(ldE E m).2.2=true->(ldE E m).2.1 / 4<E.M.m.length/\(ldE E m).2.1<4294967296:=(QeW E hE hC _ (szO m.o) 2 (QaF _) (QhN _) (.inr (.inl rfl))).in_;have UB:=(QeW E hE hC (w32 ((E.M.x.getD m.b 0:Nat)+(m.k:Nat))) (szO m.o) 3 (QaF _) (QhN _) (.inr (.inr rfl))).in_;unfold exO
 by_cases vI:m.o=24
 .rw [zP vI]
  by_cases ha:m.a=0
  .exact Qxj E hE m hm hn vI ha
  .exact Qxk E hE m hm hn vI ha
 rw [zN vI]
 by_cases h32:32<=m.o/\m.o<=34
 .rw [zP h32]
  cases hK:(ldE E m).2.2 with
  | false =>
   rw [zN (by decide)];rcases (show m.o=32\/m.o=33\/m.o=34 by omega) with h|h|h
   .exact Qtm E hE m hm hn h zQ hK
   .exact Qtn E hE m hm hn h zQ hK
   .exact Qto E hE m hm hn h zQ hK
  | true =>
   rw [zP rfl]
   by_cases ha:m.a=0
   .rcases (show m.o=32\/m.o=33\/m.o=34 by omega) with h|h|h
    .exact QpK E hE m hm hn h zQ hK ha
    .exact QpM E hE m hm hn h zQ hK ha
    .exact QpO E hE m hm hn h zQ hK ha
   .rcases (show m.o=32\/m.o=33\/m.o=34 by omega) with h|h|h
    .exact QpL E hE m hm hn h zQ hK ha
    .exact QpN E hE m hm hn h zQ hK ha
    .exact QpP E hE m hm hn h zQ hK ha
 rw [zN h32]
 by_cases vJ:m.o=35\/m.o=36
 .rw [zP vJ]
  cases hK:(stE E m).2 with
  | false =>
   rw [zN (by decide)];rcases vJ with h|h
   .exact QpT E hE m hm hn h UB hK
   .exact QpV E hE m hm hn h UB hK
  | true =>
   rw [zP rfl];rcases vJ with h|h
   .exact QpU E hE m hm hn h UB hK
   .exact QpW E hE m hm hn h UB hK
 rw [zN vJ]
 by_cases h40:40<=m.o/\m.o<=45
 .rw [zP h40]
  cases ht:Qdf m.o (E.M.x.getD m.a 0) (E.M.x.getD m.b 0) with
  | false =>
   rw [zN (by decide)];rcases (show m.o=40\/m.o=41\/m.o=42\/m.o=43\/m.o=44\/m.o=45 by omega) with h|h|h|h|h|h
   .exact Qpy E hE m hm hn ht h
   .exact QpA E hE m hm hn ht h
   .exact QpC E hE m hm hn ht h
   .exact QpE E hE m hm hn ht h
   .exact QpG E hE m hm hn ht h
   .exact QpI E hE m hm hn ht h
  | true =>
   rw [zP rfl];rcases (show m.o=40\/m.o=41\/m.o=42\/m.o=43\/m.o=44\/m.o=45 by omega) with h|h|h|h|h|h
   .exact Qpz E hE m hm hn ht h
   .exact QpB E hE m hm hn ht h
   .exact QpD E hE m hm hn ht h
   .exact QpF E hE m hm hn ht h
   .exact QpH E hE m hm hn ht h
   .exact QpJ E hE m hm hn ht h
 rw [zN h40]
 by_cases h48:m.o=48
 .rw [zP h48]
  by_cases ha:m.a=0
  .exact Qxh E hE m hm hn h48 ha
  .exact Qxi E hE m hm hn h48 ha
 rw [zN h48]
 by_cases h49:m.o=49
 .rw [zP h49]
  by_cases ha:m.a=0
  .exact Qxl E hE m hm hn h49 ha
  .exact Qxm E hE m hm hn h49 ha
 rw [zN h49];have hx:¬ m.o=24/\¬ (32<=m.o/\m.o<=36)/\¬ (40<=m.o/\m.o<=45)/\¬ m.o=48/\¬ m.o=49:=by omega
 cases gW:QbT m.o with
 | false =>
  rw [zN (by decide)]
  by_cases jY:m.o<=13
  .exact Qtl E hE m hm hn hx jY gW
  .exact Qtk E hE m hm hn hx jY gW
 | true =>
  rw [zP rfl]
  by_cases jY:m.o<=13
  .rw [zP jY]
   by_cases ha:m.a=0
   .exact Qpw E hE m hm hn hx jY gW ha
   .exact Qpx E hE m hm hn hx jY gW ha
  .rw [zN jY]
   by_cases ha:m.a=0
   .exact Qpu E hE m hm hn hx jY gW ha
   .exact Qpv E hE m hm hn hx jY gW ha
theorem QCc (M:Mc) (m:Mi) (M':Mc) (h:opM M m=some M'):∃ (x:List Nat) (pc:Nat) (q:List Nat),M'= { M with x:=x,pc:=pc,m:=q }:=by
 unfold opM at h
 repeat' split at h
 all_goals first|(cases h;done)|(injection h with h;subst h;exact ⟨_,_,_,rfl⟩)
theorem QvL (E:Eg) (hE:E.ok) (hC:Coh E) (a:Nat) (ha:ld4 E.M.m.length a=true):∃ (B2:List Bk),(fnd E a).1=⟨E.M,E.T,B2,E.o,E.f,E.s⟩/\(fnd E a).1.ok/\Coh (fnd E a).1/\(fnd E a).2=fdB E.M.m E.M.m.length a 16:=by
 have ha2:a<4294967296:=by
  unfold ld4 at ha;simp only [zba,zde] at ha;have:=QaS E.M.m.length;omega
 have hok:=(QvK E.M.m E.M.m.length a 16 ha2 hE.M.mr).2.1
 have KE:(⟨E.M,E.T,Qkk E.B (fdB E.M.m E.M.m.length a 16),E.o,E.f,E.s⟩:Eg).ok/\Coh (⟨E.M,E.T,Qkk E.B (fdB E.M.m E.M.m.length a 16),E.o,E.f,E.s⟩:Eg) :=
  ⟨⟨hE.M,hE.T,hE.tl,QxS _ _ hE.B hok,QtN _ _ hE.bl,hE.o,hE.ol,hE.f⟩,⟨hC.n,hC.T,QwO _ _ _ _ (Qxx _ _ _ ha) hC.B⟩⟩
 obtain ⟨h1,_⟩:=QkV a E.B 0;unfold fnd;split
 .rename_i b hb
  split
  .rename_i h0
   obtain ⟨i,b',g1,g2,g3⟩:=h1 h0;rw [Nat.zero_add] at g1;have hu:(QgA a (E.B.map (·.A)) 0).toNat=i:=by rw [g1];omega
   rw [hu] at hb |-;rw [g2] at hb;obtain rfl:=Option.some.inj hb;have hGB:=((QfW _ _ _).1 hC.B).2.1 b' (List.mem_of_getElem? g2)
   have uJ:(Qbd E.B i b').length=E.B.length:=by
    have gT:=(zgs.1 g2).1;unfold Qbd;rw [List.length_cons,zla,List.length_take,List.length_drop];omega
   refine ⟨Qbd E.B i b',rfl,⟨hE.M,hE.T,hE.tl,fun e he=>?_,by show (Qbd E.B i b').length<=16;rw [uJ];exact hE.bl,hE.o,hE.ol,hE.f⟩,⟨hC.n,hC.T,Qo0 _ _ _ _ _ g2 hC.B⟩,by rw [<- g3];exact hGB.2⟩;unfold Qbd at he;rcases List.mem_cons.1 he with rfl|he
   .exact hE.B _ (List.mem_of_getElem? g2)
   .rcases List.mem_append.1 he with he|he
    .exact hE.B e (List.mem_of_mem_take he)
    .exact hE.B e (List.mem_of_mem_drop he)
  .exact ⟨_,rfl,KE.1,KE.2,rfl⟩
 .exact ⟨_,rfl,KE.1,KE.2,rfl⟩
theorem Qp5 (xs:List Nat) (n a:Nat) (hY:ZL xs):∃ l:List Mi,(fdB xs n a 16).l=l.map Mi.z/\l=(if (blL xs n a 16).length=0 then [] else Qp8 (blL xs n a 16))/\(∀ m∈l,Qbo m/\1<=m.n/\m.n<=16)/\l.length<=16:=by
 obtain ⟨_,h2,h3⟩:=Qi3 xs n a 16 hY;unfold fdB;dsimp only
 by_cases h0:(blL xs n a 16).length=0
 .rw [zP h0,zP h0]
  exact ⟨[],rfl,rfl,(fun m hm=>by cases hm),Nat.zero_le _⟩
 .rw [zN h0,zN h0]
  have qG:=Ql6 (blA n a 16) _ (blL xs n a 16) (by omega) h2 (h3 h0);have hs:=((Qf6 _ _ _).1 qG).2;have jY:=Qp9 (blL xs n a 16);exact ⟨_,rfl,rfl,fun m hm=>⟨Qqa _ h2 m hm,Qij _ _ _ hs m hm⟩,by omega⟩
theorem Qy3 (E:Eg) (hE:E.ok) (hC:Coh E) (lim:Nat) (qV:lim<18446744073709551616) (hw:E.M.wt=true) :
  FN 74 [.s (.ptr 0 0),.s (.w lim)] E.H (. =E.R (.a (.s (.w (0:Nat))))):=by
 have cl:=Qdm E.M hE.M;have fC:=Qab hE.M.cr 0;have JQ:=Qab hE.M.cr 7;have zE:=Qe8 E.M;have a2:=Qhq (E.M.c.getD 0 0) fC;have an:=QhU (Qfx E.M) (E.M.c.getD 7 0) zE JQ;obtain ⟨ir,yH⟩:∃ k,E.M.c.getD 0 0 / 2%2=k:=⟨_,rfl⟩;obtain ⟨en,yO⟩:∃ k,Qfx E.M &&& E.M.c.getD 7 0=k:=⟨_,rfl⟩;rw [yH] at a2;rw [yO] at an;have hint:QcS E.M=decide (ir=1/\en≠0):=by unfold QcS QiO;rw [yH,yO]
 have JZ:ir<2:=by omega
 clear yH yO;generalize Qfx E.M=ln at *;clear hint;exact QDT
theorem Qy4 (E:Eg) (hE:E.ok) (hC:Coh E) (lim:Nat) (qV:lim<18446744073709551616) (hw:E.M.wt=false) (hi:QcS E.M=true) :
  FN 74 [.s (.ptr 0 0),.s (.w lim)] E.H (. =E.R (.a (.s (.w (0:Nat))))):=by
 have cl:=Qdm E.M hE.M;have fC:=Qab hE.M.cr 0;have JQ:=Qab hE.M.cr 7;have zE:=Qe8 E.M;have a2:=Qhq (E.M.c.getD 0 0) fC;have an:=QhU (Qfx E.M) (E.M.c.getD 7 0) zE JQ;obtain ⟨ir,yH⟩:∃ k,E.M.c.getD 0 0 / 2%2=k:=⟨_,rfl⟩;obtain ⟨en,yO⟩:∃ k,Qfx E.M &&& E.M.c.getD 7 0=k:=⟨_,rfl⟩;rw [yH] at a2;rw [yO] at an;have hint:QcS E.M=decide (ir=1/\en≠0):=by unfold QcS QiO;rw [yH,yO]
 have JZ:ir<2:=by omega
 clear yH yO;generalize Qfx E.M=ln at *;rw [hi] at hint;have hint:=of_decide_eq_true hint.symm;clear hi;exact QDT
theorem Qy5 (E:Eg) (hE:E.ok) (hC:Coh E) (lim:Nat) (qV:lim<18446744073709551616) (hw:E.M.wt=false) (hi:QcS E.M=false) (hK:(rsv E E.M.pc 4 1).2.2=false) :
  FN 74 [.s (.ptr 0 0),.s (.w lim)] E.H (. =E.R (.a (.s (.w (0:Nat))))):=by
 have cl:=Qdm E.M hE.M;have fC:=Qab hE.M.cr 0;have JQ:=Qab hE.M.cr 7;have zE:=Qe8 E.M;have a2:=Qhq (E.M.c.getD 0 0) fC;have an:=QhU (Qfx E.M) (E.M.c.getD 7 0) zE JQ;obtain ⟨ir,yH⟩:∃ k,E.M.c.getD 0 0 / 2%2=k:=⟨_,rfl⟩;obtain ⟨en,yO⟩:∃ k,Qfx E.M &&& E.M.c.getD 7 0=k:=⟨_,rfl⟩;rw [yH] at a2;rw [yO] at an;have hint:QcS E.M=decide (ir=1/\en≠0):=by unfold QcS QiO;rw [yH,yO]
 have JZ:ir<2:=by omega
 clear yH yO;generalize Qfx E.M=ln at *;rw [hi] at hint;have hint:=of_decide_eq_false hint.symm;clear hi;have ca:=QfB E hE E.M.pc 4 1 hE.M.pr (.inr rfl);obtain ⟨_,_,_,_,he,hXl,hok1,qJ⟩:=QhG E hE E.M.pc 4 1 hE.M.pr;rw [qJ hK,hK] at ca;clear he qJ hok1 hK hXl;generalize (rsv E E.M.pc 4 1).2.1=A at *;have fH:=Qaa E.M.m;have gY:=Qah E.T;have fI:=Qae E.B;have qM:=(QaA hE.o).2.1;obtain ⟨hM,hT,_,hB,_,ho,_,_⟩:=hE;obtain ⟨M,T,B,o,_,s⟩:=E;dsimp only [Eg.H,Eg.R,Eg.Rk,Eg.C,wrt] at *;obtain ⟨hx,hc,hY,gA,gH,gB,gI,gD,gE,gF⟩:=hM;obtain ⟨_,pc,c,m,_,_,_,_,d,n,_,_,_,wt⟩:=M;dsimp only at *;cases QJP hx;cases zC8 hc;cases d;cases n;dsimp only [Mc.C,Mc.D,Dk.C,Nk.C,Dk.ok,Nk.ok] at *;subst hw
 try dsimp only [cR,Mc.C,Mc.D,Dk.C,Nk.C] at *
 try simp only [Qaf,zca,zna,List.getD_cons_succ,List.getD_cons_zero] at *
 generalize gO:wsv m=XX,hX3:bks B=BB,hX4:OLs o=OO,gJ:m.length=nn,gM:B.length=bn,gP:o.length=on,gU:tes T=TT,htn:T.length=tn at *;clear gO gU hX3 hX4 gJ gM gP htn hT hB ho hY gA gH gB gI gD gE gF;refine fnW Tryz.func74 ?_;(repeat' ((conv=>whnf);first|exact zi2|(refine zj0 ?_;intro hb)|refine QHm ?_|(refine Qaz cl ?_)|(refine Qaw ca ?_)|refine zse ?_|refine zbb ?_ ?_));all_goals (conv=>whnf)
 all_goals first|(apply Fin.mv (m:= [(0,some 0),(1,some 1),(2,some 2),(3,some 3),(4,some 4),(5,some 328064),(6,some 328065),(7,some 328066),(8,some 328067)]);(focus exact rfl);(all_goals ((try (show QcL _ _ _ [] _));first|exact aFi|exact rfl)))
end Go.Proofs.YtpgkkfajljekpaaGreat
