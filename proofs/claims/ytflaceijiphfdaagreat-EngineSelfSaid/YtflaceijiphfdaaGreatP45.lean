import Derived.Test.YtflaceijiphfdaaGreatP43
set_option linter.unusedSimpArgs false
set_option linter.unusedVariables false
set_option maxHeartbeats 0
set_option maxRecDepth 100000
namespace Go.Proofs.YtflaceijiphfdaaGreat
open Go Go.RowKit
theorem QBO (M:Mc) (m:Mi) (M':Mc) (h:opM M m=some M'):∃ (x:List Nat) (pc:Nat) (q:List Nat),M'= { M with x:=x,pc:=pc,m:=q }:=by
 unfold opM at h
 repeat' split at h
 all_goals first|(cases h;done)|(injection h with h;subst h;exact ⟨_,_,_,rfl⟩)
theorem Qvj (E:Eg) (hE:E.ok) (hC:Coh E) (a:Nat) (ha:ld4 E.M.m.length a=true):∃ (B2:List Bk),(fnd E a).1=⟨E.M,E.T,B2,E.o,E.f,E.s⟩/\(fnd E a).1.ok/\Coh (fnd E a).1/\(fnd E a).2=fdB E.M.m E.M.m.length a 16:=by
 have ha2:a<4294967296:=by
  unfold ld4 at ha;simp only [zba,zde] at ha;have:=QaT E.M.m.length;omega
 have hok:=(Qvi E.M.m E.M.m.length a 16 ha2 hE.M.mr).2.1
 have GS:(⟨E.M,E.T,Qj8 E.B (fdB E.M.m E.M.m.length a 16),E.o,E.f,E.s⟩:Eg).ok/\Coh (⟨E.M,E.T,Qj8 E.B (fdB E.M.m E.M.m.length a 16),E.o,E.f,E.s⟩:Eg) :=
  ⟨⟨hE.M,hE.T,hE.tl,Qxq _ _ hE.B hok,Qtr _ _ hE.bl,hE.o,hE.ol,hE.f⟩,⟨hC.n,hC.T,Qwm _ _ _ _ (Qw5 _ _ _ ha) hC.B⟩⟩
 obtain ⟨h1,_⟩:=QkI a E.B 0;unfold fnd;split
 .rename_i b hb
  split
  .rename_i h0
   obtain ⟨i,b',g1,g2,g3⟩:=h1 h0;rw [Nat.zero_add] at g1;have hu:(Qgp a (E.B.map (·.A)) 0).toNat=i:=by rw [g1];omega
   rw [hu] at hb |-;rw [g2] at hb;obtain rfl:=Option.some.inj hb;have hGB:=((QfK _ _ _).1 hC.B).2.1 b' (List.mem_of_getElem? g2)
   have zO:(Qbc E.B i b').length=E.B.length:=by
    have gO:=(zgs.1 g2).1;unfold Qbc;rw [List.length_cons,zla,List.length_take,List.length_drop];omega
   refine ⟨Qbc E.B i b',rfl,⟨hE.M,hE.T,hE.tl,fun e he=>?_,by show (Qbc E.B i b').length<=16;rw [zO];exact hE.bl,hE.o,hE.ol,hE.f⟩,⟨hC.n,hC.T,QoI _ _ _ _ _ g2 hC.B⟩,by rw [<- g3];exact hGB.2⟩;unfold Qbc at he;rcases List.mem_cons.1 he with rfl|he
   .exact hE.B _ (List.mem_of_getElem? g2)
   .rcases List.mem_append.1 he with he|he
    .exact hE.B e (List.mem_of_mem_take he)
    .exact hE.B e (List.mem_of_mem_drop he)
  .exact ⟨_,rfl,GS.1,GS.2,rfl⟩
 .exact ⟨_,rfl,GS.1,GS.2,rfl⟩
theorem QpM (xs:List Nat) (n a:Nat) (hY:ZL xs):∃ l:List Mi,(fdB xs n a 16).l=l.map Mi.z/\l=(if (blL xs n a 16).length=0 then [] else QpP (blL xs n a 16))/\(∀ m∈l,Qbn m/\1<=m.n/\m.n<=16)/\l.length<=16:=by
 obtain ⟨_,h2,h3⟩:=QiP xs n a 16 hY;unfold fdB;dsimp only
 by_cases h0:(blL xs n a 16).length=0
 .rw [zP h0,zP h0]
  exact ⟨[],rfl,rfl,(fun m hm=>by cases hm),Nat.zero_le _⟩
 .rw [zN h0,zN h0]
  have jF:=QlS (blA n a 16) _ (blL xs n a 16) (by omega) h2 (h3 h0);have hs:=((QfW _ _ _).1 jF).2;have jX:=QpQ (blL xs n a 16);exact ⟨_,rfl,rfl,fun m hm=>⟨QpR _ h2 m hm,Qh8 _ _ _ hs m hm⟩,by omega⟩
theorem Qyz (E:Eg) (hE:E.ok) (hC:Coh E) (lim:Nat) (qM:lim<18446744073709551616) (hw:E.M.wt=true) :
  FN 48 [.s (.ptr 0 0),.s (.w lim)] E.H (. =E.R (.a (.s (.w (0:Nat))))):=by
 have cl:=Qde E.M hE.M;have fF:=Qab hE.M.cr 0;have KG:=Qab hE.M.cr 7;have yO:=QeY E.M;have a2:=Qhe (E.M.c.getD 0 0) fF;have an:=QhJ (Qfp E.M) (E.M.c.getD 7 0) yO KG;obtain ⟨ir,zD⟩:∃ k,E.M.c.getD 0 0 / 2%2=k:=⟨_,rfl⟩;obtain ⟨en,yA⟩:∃ k,Qfp E.M &&& E.M.c.getD 7 0=k:=⟨_,rfl⟩;rw [zD] at a2;rw [yA] at an;have hint:QcQ E.M=decide (ir=1/\en≠0):=by unfold QcQ QiA;rw [zD,yA]
 have KX:ir<2:=by omega
 clear zD yA;generalize Qfp E.M=ln at *;clear hint;exact QHF
theorem QyA (E:Eg) (hE:E.ok) (hC:Coh E) (lim:Nat) (qM:lim<18446744073709551616) (hw:E.M.wt=false) (hi:QcQ E.M=true) :
  FN 48 [.s (.ptr 0 0),.s (.w lim)] E.H (. =E.R (.a (.s (.w (0:Nat))))):=by
 have cl:=Qde E.M hE.M;have fF:=Qab hE.M.cr 0;have KG:=Qab hE.M.cr 7;have yO:=QeY E.M;have a2:=Qhe (E.M.c.getD 0 0) fF;have an:=QhJ (Qfp E.M) (E.M.c.getD 7 0) yO KG;obtain ⟨ir,zD⟩:∃ k,E.M.c.getD 0 0 / 2%2=k:=⟨_,rfl⟩;obtain ⟨en,yA⟩:∃ k,Qfp E.M &&& E.M.c.getD 7 0=k:=⟨_,rfl⟩;rw [zD] at a2;rw [yA] at an;have hint:QcQ E.M=decide (ir=1/\en≠0):=by unfold QcQ QiA;rw [zD,yA]
 have KX:ir<2:=by omega
 clear zD yA;generalize Qfp E.M=ln at *;rw [hi] at hint;have hint:=of_decide_eq_true hint.symm;clear hi;exact QHF
theorem QyB (E:Eg) (hE:E.ok) (hC:Coh E) (lim:Nat) (qM:lim<18446744073709551616) (hw:E.M.wt=false) (hi:QcQ E.M=false) (hK:(rsv E E.M.pc 4 1).2.2=false) :
  FN 48 [.s (.ptr 0 0),.s (.w lim)] E.H (. =E.R (.a (.s (.w (0:Nat))))):=by
 have cl:=Qde E.M hE.M;have fF:=Qab hE.M.cr 0;have KG:=Qab hE.M.cr 7;have yO:=QeY E.M;have a2:=Qhe (E.M.c.getD 0 0) fF;have an:=QhJ (Qfp E.M) (E.M.c.getD 7 0) yO KG;obtain ⟨ir,zD⟩:∃ k,E.M.c.getD 0 0 / 2%2=k:=⟨_,rfl⟩;obtain ⟨en,yA⟩:∃ k,Qfp E.M &&& E.M.c.getD 7 0=k:=⟨_,rfl⟩;rw [zD] at a2;rw [yA] at an;have hint:QcQ E.M=decide (ir=1/\en≠0):=by unfold QcQ QiA;rw [zD,yA]
 have KX:ir<2:=by omega
 clear zD yA;generalize Qfp E.M=ln at *;rw [hi] at hint;have hint:=of_decide_eq_false hint.symm;clear hi;have ca:=Qfs E hE E.M.pc 4 1 hE.M.pr (.inr rfl);obtain ⟨_,_,_,_,he,hXl,hok1,qE⟩:=Qht E hE E.M.pc 4 1 hE.M.pr;rw [qE hK,hK] at ca;clear he qE hok1 hK hXl;generalize (rsv E E.M.pc 4 1).2.1=A at *;have fJ:=Qaa E.M.m;have gW:=Qaf E.T;have fG:=Qad E.B;have qH:=(Qaz hE.o).2.1;obtain ⟨hM,hT,_,hB,_,ho,_,_⟩:=hE;obtain ⟨M,T,B,o,_,s⟩:=E;dsimp only [Eg.H,Eg.R,Eg.Rk,Eg.C,wrt] at *;obtain ⟨hx,hc,hY,gA,gI,gB,gH,gE,gD,gG⟩:=hM;obtain ⟨_,pc,c,m,_,_,_,_,d,n,_,_,_,wt⟩:=M;dsimp only at *;cases QaO hx;cases zC8 hc;cases d;cases n;dsimp only [Mc.C,Mc.D,Dk.C,Nk.C,Dk.ok,Nk.ok] at *;subst hw
 try dsimp only [cR,Mc.C,Mc.D,Dk.C,Nk.C] at *
 try simp only [Qai,zca,zna,List.getD_cons_succ,List.getD_cons_zero] at *
 generalize gP:wsv m=XX,hX3:bks B=BB,hX4:OLs o=OO,gJ:m.length=nn,gL:B.length=bn,hon:o.length=on,gT:tes T=TT,htn:T.length=tn at *;clear gP gT hX3 hX4 gJ gL hon htn hT hB ho hY gA gI gB gH gE gD gG;refine fnW Tryz.func48 ?_;(conv=>whnf);(repeat' ((first|exact zi2|refine zj0 fun hb=>?_|refine QGK ?_|(refine QaD cl ?_)|(refine Qaw ca ?_)|refine zse ?_|refine zbb ?_ ?_)<;>conv=>whnf))
 all_goals first|(apply Fin.mv (m:= [(0,some 0),(1,some 1),(2,some 2),(3,some 3),(4,some 4),(5,some 328064),(6,some 328065),(7,some 328066),(8,some 328067)]);(focus exact rfl);(all_goals ((try (show QcI _ _ _ [] _));first|exact aFi|exact rfl)))
end Go.Proofs.YtflaceijiphfdaaGreat
