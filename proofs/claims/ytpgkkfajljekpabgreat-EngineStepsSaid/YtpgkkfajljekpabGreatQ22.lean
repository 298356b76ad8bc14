import Derived.Test.YtpgkkfajljekpabGreatQ21
set_option linter.unusedSimpArgs false
set_option linter.unusedVariables false
set_option maxHeartbeats 0
set_option maxRecDepth 100000
namespace Go.Proofs.YtpgkkfajljekpabGreat
open Go Go.RowKit
theorem QdD (E:Eg) (hE:E.ok):FN 153 [.s (.ptr 0 0)] [⟨true,1,E.C 1 2 3 4⟩,⟨true,1,wsv E.M.m⟩,⟨true,4,tes E.T⟩,⟨true,3,bks E.B⟩,⟨true,4,OLs E.o⟩] (. =⟨.a (.s (.u (cR E.M:Nat))),[],[]⟩):=by
 have fD:=Qaa E.M.m;have gO:=Qae E.T;have gZ:=Qac E.B;have fY:=(Qax hE.o).2.1;obtain ⟨hM,hT,_,hB,_,ho,_,_⟩:=hE;obtain ⟨M,T,B,o,_,s⟩:=E;unfold cR;dsimp only at *;obtain ⟨hx,hc,hY,gA,gH,gB,gI,gE,gD,gG⟩:=hM;obtain ⟨_,_,_,m,_,_,_,_,d,n⟩:=M;dsimp only at *;cases QaJ hx;cases zC8 hc;cases d;cases n;dsimp only [Mc.C,Mc.D,Dk.C,Nk.C,Dk.ok,Nk.ok] at *;generalize gP:wsv m=XX,gV:tes T=TT,hX3:bks B=BB,hX4:OLs o=OO at *
 try dsimp only [Eg.H,Eg.R,Eg.C,wrt,fnE,Qdc,Mc.C,Mc.D,Dk.C,Nk.C] at *
 try simp only [Qaf,zca,zna] at *
 generalize m.length=nn,T.length=tn,B.length=bn,o.length=on at *;clear gP gV hX3 hX4 hT hB ho hY gA gH gB gI gE gD gG;refine fnW Tryz.func153 ?_;(conv=>whnf);(repeat' ((first|exact zi0|refine zj0 fun hb=>?_|refine zst ?_|refine zbb ?_ ?_)<;>conv=>whnf))
 all_goals first|(apply Fin.mk (m:= [(0,some 0),(1,some 1),(2,some 2),(3,some 3),(4,some 4)]);(focus exact rfl);(all_goals ((try (show HlS _ _ [] _));first|(exact aFi)|exact rfl)))
theorem Qgl (E:Eg) (hE:E.ok):FN 150 [.s (.ptr 0 0)] [⟨true,1,E.C 1 2 3 4⟩,⟨true,1,wsv E.M.m⟩,⟨true,4,tes E.T⟩,⟨true,3,bks E.B⟩,⟨true,4,OLs E.o⟩] (. =⟨.a (.s (.bool (Qdf (E.M.c.getD 0 0)))),[],[]⟩):=by
 have fD:=Qaa E.M.m;have gO:=Qae E.T;have gZ:=Qac E.B;have fY:=(Qax hE.o).2.1;obtain ⟨hM,hT,_,hB,_,ho,_,_⟩:=hE;have h0:=Qab hM.cr 0;obtain ⟨M,T,B,o,_,s⟩:=E;dsimp only at *;obtain ⟨hx,hc,hY,gA,gH,gB,gI,gE,gD,gG⟩:=hM;obtain ⟨_,_,c,m,_,_,_,_,d,n⟩:=M;dsimp only at *;cases QaJ hx;obtain ⟨c0,_,_,_,_,_,_,_,rfl⟩:=QfC hc;cases d;cases n;dsimp only [Mc.C,Mc.D,Dk.C,Nk.C,Dk.ok,Nk.ok] at *;generalize gP:wsv m=XX,gV:tes T=TT,hX3:bks B=BB,hX4:OLs o=OO at *
 try dsimp only [Eg.H,Eg.R,Eg.C,wrt,fnE,Qdc,Mc.C,Mc.D,Dk.C,Nk.C] at *
 try simp only [Qaf,zca,zna] at *
 simp only [List.getD_cons_zero] at h0 |-;have e1:=Ql2 c0 h0;have e4:=Qvo c0 h0;unfold Qdf;generalize m.length=nn,T.length=tn,B.length=bn,o.length=on at *;clear gP gV hX3 hX4 hT hB ho hY gA gH gB gI gE gD gG;obtain ⟨_,yR⟩:∃ k,c0%2=k:=⟨_,rfl⟩;obtain ⟨_,jA⟩:∃ k,c0 / 4%2=k:=⟨_,rfl⟩;rw [yR] at e1 |-;rw [jA] at e4 |-;refine fnW Tryz.func150 ?_;(conv=>whnf);(repeat' ((first|exact zi2|refine zj0 fun hb=>?_|(with_reducible first|refine zv e1 ?_|refine zv e4 ?_)|refine zse ?_|refine zbb ?_ ?_)<;>conv=>whnf))
 all_goals first
  | (refine QcJ ?_ ?_;(focus (apply Fin.mk (m:= [(0,some 0),(1,some 1),(2,some 2),(3,some 3),(4,some 4)]);(focus exact rfl);(all_goals ((try (show HlS _ _ [] _));first|(exact aFi)|exact rfl))));symm;first|exact zdf (by omega)|exact zdt (by omega)|(rw [zbi];simp;done)|(rw [zbi];simp;omega)|(rw [zbi];simp;grind))
theorem QpF (o:Int) (a b:Nat) (ha:ZU a) (fX:ZU b):FN 160 [.s (.i o),.s (.u a),.s (.u b)] [] (. =⟨.a (.s (.bool (Qdk o a b))),[],[]⟩):=by
 refine fnW Tryz.func160 ?_;exact QzY
theorem QcR (o:Int):FN 229 [.s (.i o)] [] (. =⟨.a (.s (.u (szO o:Nat))),[],[]⟩):=by
 unfold szO;refine fnW Tryz.func229 ?_;(conv=>whnf);(repeat' ((first|exact zi0|refine zj0 fun hb=>?_|refine zs0 ?_|refine zbb ?_ ?_)<;>conv=>whnf))
 all_goals first|(refine Qam rfl ?_;first|(simp_all;done)|(rw [zP (by omega)];rfl)|(rw [zN (by omega)];rfl))
theorem QlV (E:Eg) (hE:E.ok) (fr:Nat) (jB:fr=E.f):FN 155 [.s (.ptr 0 0),.s (.i (fr:Nat))] E.H (. =(wrt fr E).R (.tup [])):=by
 have ci:=QeP E.B _ rfl (by have:=hE.bl;omega) hE.B (fr:Int) _ rfl _ rfl;have UF:=Qac (E.B.filter (fun b=>decide (fk b≠(fr:Int))));have fD:=Qaa E.M.m;have gO:=Qae E.T;have gZ:=Qac E.B;have fY:=(Qax hE.o).2.1;obtain ⟨hM,hT,_,hB,_,ho,_,_⟩:=hE;obtain ⟨M,T,B,o,f,s⟩:=E;dsimp only [Eg.H,Eg.R,Eg.C,wrt] at *;generalize VQ:B.filter (fun b=>decide (fk b≠(fr:Int)))=B2 at *;obtain ⟨hx,hc,hY,gA,gH,gB,gI,gE,gD,gG⟩:=hM;obtain ⟨_,_,_,m,_,_,_,_,d,n⟩:=M;dsimp only at *;cases QaJ hx;cases zC8 hc;cases d;cases n;dsimp only [Mc.C,Mc.D,Dk.C,Nk.C,Dk.ok,Nk.ok] at *;generalize gP:wsv m=XX,gV:tes T=TT,hX3:bks B=BB,hX4:OLs o=OO at *
 try dsimp only [Eg.H,Eg.R,Eg.C,wrt,fnE,Qdc,Mc.C,Mc.D,Dk.C,Nk.C] at *
 try simp only [Qaf,zca,zna] at *
 generalize hX5:bks B2=BB2,gJ:m.length=nn,htn:T.length=tn,gM:B.length=bn,hb2n:B2.length=b2n,gQ:o.length=on at *;have hff:((fr:Nat):Int)=(f:Int):=by omega
 rw [zdt jB,Bool.or_true];exact QDK
theorem QlU (E:Eg) (hE:E.ok) (fr:Nat) (jB:¬ fr=E.f):FN 155 [.s (.ptr 0 0),.s (.i (fr:Nat))] E.H (. =(wrt fr E).R (.tup [])):=by
 have ci:=QeP E.B _ rfl (by have:=hE.bl;omega) hE.B (fr:Int) _ rfl _ rfl;have UF:=Qac (E.B.filter (fun b=>decide (fk b≠(fr:Int))));have fD:=Qaa E.M.m;have gO:=Qae E.T;have gZ:=Qac E.B;have fY:=(Qax hE.o).2.1;obtain ⟨hM,hT,_,hB,_,ho,_,_⟩:=hE;obtain ⟨M,T,B,o,f,s⟩:=E;dsimp only [Eg.H,Eg.R,Eg.C,wrt] at *;generalize VQ:B.filter (fun b=>decide (fk b≠(fr:Int)))=B2 at *;obtain ⟨hx,hc,hY,gA,gH,gB,gI,gE,gD,gG⟩:=hM;obtain ⟨_,_,_,m,_,_,_,_,d,n⟩:=M;dsimp only at *;cases QaJ hx;cases zC8 hc;cases d;cases n;dsimp only [Mc.C,Mc.D,Dk.C,Nk.C,Dk.ok,Nk.ok] at *;generalize gP:wsv m=XX,gV:tes T=TT,hX3:bks B=BB,hX4:OLs o=OO at *
 try dsimp only [Eg.H,Eg.R,Eg.C,wrt,fnE,Qdc,Mc.C,Mc.D,Dk.C,Nk.C] at *
 try simp only [Qaf,zca,zna] at *
 generalize hX5:bks B2=BB2,gJ:m.length=nn,htn:T.length=tn,gM:B.length=bn,hb2n:B2.length=b2n,gQ:o.length=on at *;have hff:¬ ((fr:Nat):Int)=(f:Int):=by omega
 rw [zdf jB,Bool.or_false];exact QDK
theorem Qcl (E:Eg) (hE:E.ok) (fr:Nat):FN 155 [.s (.ptr 0 0),.s (.i (fr:Nat))] E.H (. =(wrt fr E).R (.tup [])):=by
 by_cases h:fr=E.f
 .exact QlV E hE fr h
 .exact QlU E hE fr h
theorem Qe1 {E:Eg} (hE:E.ok) (fr:Nat):(wrt fr E).ok :=
 ⟨hE.M,hE.T,hE.tl,fun b hb=>hE.B b (List.mem_filter.1 hb).1,Nat.le_trans (List.length_filter_le _ _) hE.bl,hE.o,hE.ol,hE.f⟩
theorem Qr7 {E:Eg} (hE:E.ok) (i:Nat):(QcM E i).ok:=by
 have h:=Qe1 hE i;unfold QcM;split
 .exact ⟨h.M,QiZ,Nat.zero_le _,h.B,h.bl,h.o,h.ol,h.f⟩
 .exact h
def QsS (r j:Nat) (C0 W0 X T B O L:List SV):St :=
 ⟨[(0,.a (.s (.ptr 0 0))),(25,.a (.s (.sl 10 0 r))),(26,.a (.s (.i r))),(27,.a (.s (.i j)))],
  [(0,some ⟨true,1,C0⟩),(1,none),(2,none),(3,none),(4,none),(5,some ⟨false,1,W0⟩),(6,some ⟨true,1,X⟩),(7,some ⟨true,4,T⟩),(8,some ⟨true,3,B⟩),(9,some ⟨true,4,O⟩),(10,some ⟨true,1,L⟩)],[0]⟩
theorem Qqs (l:List Nat) (j fr:Nat) (h:l[j]?=some fr):(frs l)[j]?=some (.i (fr:Nat)):=by
 unfold frs isv;rw [zgm,zgm,h];rfl
theorem Qzr (M0:Mc) (E:Eg) (hE:E.ok) (hl:M0.m.length=E.M.m.length) (hx:E.M.x.length=16) (hc:E.M.c.length=8) (l:List Nat) (hl2:l.length<=32) (gU:ZL l) (Ez:Eg) :
  ∀ (j:Nat) (T:List Te) (B:List Bk) (s:Bool),j<l.length->(⟨E.M,T,B,E.o,E.f,s⟩:Eg).ok->(l.drop j).foldl QcM ⟨E.M,T,B,E.o,E.f,s⟩=Ez ->
   ∃ (T2:List Te) (B2:List Bk) (s2:Bool),QcM ⟨E.M,T,B,E.o,E.f,s⟩ (l.getD j 0)=⟨E.M,T2,B2,E.o,E.f,s2⟩/\(⟨E.M,T2,B2,E.o,E.f,s2⟩:Eg).ok/\(l.drop (j+1)).foldl QcM ⟨E.M,T2,B2,E.o,E.f,s2⟩=Ez:=by
 intro j T B s hj hok hf
 have hd:l.drop j=l.getD j 0::l.drop (j+1):=by
  have:l[j]?=some (l.getD j 0):=by rw [zgd,zgg hj];rfl
  exact Qcn l j _ this
 rw [hd] at hf;have h1:=Qr7 hok (l.getD j 0)
 have he:∀ F:Eg,∃ (T2:List Te) (B2:List Bk) (s2:Bool),QcM F (l.getD j 0)=⟨F.M,T2,B2,F.o,F.f,s2⟩:=fun F=>by
  unfold QcM;split
  .exact ⟨_,_,_,rfl⟩
  .exact ⟨_,_,_,rfl⟩
 obtain ⟨T2,B2,s2,h2⟩:=he ⟨E.M,T,B,E.o,E.f,s⟩;refine ⟨T2,B2,s2,h2,by rw [h2] at h1;exact h1,?_⟩;rw [<- hf];show _=(l.drop (j+1)).foldl QcM (QcM _ _);rw [h2]
theorem Qkf (M0:Mc) (KP:M0.ok) (E:Eg) (hE:E.ok) (hl:M0.m.length=E.M.m.length):FN 95 [.s (.ptr 0 0),.agg (M0.C 5)] (E.H++ [⟨false,1,wsv M0.m⟩]) (. =(stl M0 E).Rk 6 (.tup [])):=by
 have vO:=Qhy M0.m E.M.m E.M.m.length hl rfl hE.M.ml;have gK:(Qd2 M0.m E.M.m E.M.m.length).length<=32:=Nat.le_trans (Ql9 _ _ _ _) (QaT _)
 have gU:∀ i∈Qd2 M0.m E.M.m E.M.m.length,i<4294967296:=fun i hi=>by
  unfold Qd2 at hi;rw [Qh7] at hi;have:=QaT E.M.m.length;omega
 obtain ⟨Ez,JH⟩:∃ Ez,stl M0 E=Ez:=⟨_,rfl⟩;rw [JH];have hfs:=Qf3 (Qd2 M0.m E.M.m E.M.m.length);have GT:=fun j fr h=>Qqs (Qd2 M0.m E.M.m E.M.m.length) j fr h
 have uX:=QdD E hE;have HI:=fun T B s h=>QdD ⟨E.M,T,B,E.o,E.f,s⟩ h
 have wO:=fun T B s h fr=>Qcl ⟨E.M,T,B,E.o,E.f,s⟩ h fr
 have gW:=Qzr M0 E hE hl hE.M.x hE.M.c (Qd2 M0.m E.M.m E.M.m.length) gK gU Ez
 obtain ⟨T0,s0,hT0⟩:∃ T0 s0,QkC (cR M0) E=⟨E.M,T0,E.B,E.o,E.f,E.s⟩/\(cR M0=cR E.M->T0=E.T)/\(¬ cR M0=cR E.M->T0= [])/\s0=E.s:=by
  unfold QkC
  by_cases h:cR M0=cR E.M
  .exact ⟨E.T,E.s,by rw [zP h],fun _=>rfl,fun h2=>absurd h h2,rfl⟩
  .exact ⟨[],E.s,by rw [zN h],fun h2=>absurd h2 h,fun _=>rfl,rfl⟩
 obtain ⟨hT1,FH,JL,_⟩:=hT0
 have wL:(⟨E.M,T0,E.B,E.o,E.f,E.s⟩:Eg).ok:=⟨hE.M,by
  by_cases h:cR M0=cR E.M
  .rw [FH h];exact hE.T
  .rw [JL h];exact QiZ,by
  by_cases h:cR M0=cR E.M
  .rw [FH h];exact hE.tl
  .rw [JL h];exact Nat.zero_le _,hE.B,hE.bl,hE.o,hE.ol,hE.f⟩
 have jL:((Qd2 M0.m E.M.m E.M.m.length).drop 0).foldl QcM ⟨E.M,T0,E.B,E.o,E.f,E.s⟩=Ez:=by
  rw [<- JH];unfold stl;rw [hT1];rfl
 have hsT0:=Qae T0;have jV:=Qaa M0.m;have fD:=Qaa E.M.m;have gO:=Qae E.T;have gZ:=Qac E.B;have fY:=(Qax hE.o).2.1;have hM:=hE.M;obtain ⟨_,_,_⟩:E.T.length<=8/\E.B.length<=16/\E.o.length<=900000:=⟨hE.tl,hE.bl,hE.ol⟩;have hroot:cR M0=M0.c.getD 6 0:=rfl;have hroot2:cR E.M=E.M.c.getD 6 0:=rfl;clear hE;obtain ⟨M,T,B,o,f,s⟩:=E;dsimp only [Eg.H,Eg.R,Eg.Rk,Eg.C,wrt] at *;generalize Qd2 M0.m M.m M.m.length=l at *;obtain ⟨h0x,h0c,_,_,_,_,_,_,_,_⟩:=KP;obtain ⟨_,_,_,w,_,_,_,_,d',n'⟩:=M0;dsimp only at *;cases QaJ h0x;obtain ⟨_,_,_,_,_,_,z6,_,rfl⟩:=QfC h0c;obtain ⟨_,e1,e2,e3,_,_,_,_⟩:=d';obtain ⟨g0,_,_,_,_,_⟩:=n';dsimp only [Mc.C,Mc.D,Dk.C,Nk.C] at *;rw [hl] at *;obtain ⟨hx,hc,hY,gA,gH,gB,gI,gE,gD,gG⟩:=hM;obtain ⟨x,pc,c,m,ks,ta,td,tf,d,n,bt,bg,ct,wt,ht⟩:=M;dsimp only at *;obtain ⟨x0,x1,x2,x3,x4,x5,x6,x7,x8,x9,x10,x11,x12,x13,x14,x15,rfl⟩:=Qem hx;obtain ⟨c0,c1,c2,c3,c4,c5,c6,c7,rfl⟩:=QfC hc;obtain ⟨d0,d1,d2,d3,d4,d5,d6,d7⟩:=d;obtain ⟨n0,n1,n2,n3,n4,n5⟩:=n;dsimp only [Mc.C,Mc.D,Dk.C,Nk.C,Dk.ok,Nk.ok] at *;dsimp only [cR,Mc.C,Mc.D,Dk.C,Nk.C] at *;simp only [Qaf,zca,zna,List.getD_cons_succ,List.getD_cons_zero] at *;generalize hXX:wsv m=XX,hWW:wsv w=WW,hOO:OLs o=OO,YC:frs l=LL,gJ:m.length=nn,gQ:o.length=on,uW:l.length=rl at *;have hz:((z6:Nat):Int)=c6↔z6=c6:=by omega
 clear hY gA gE gD gB gG gH gI hT1 JH
 by_cases hr:z6=c6
 .have hr2:((z6:Nat):Int)=(c6:Int):=by omega
  obtain rfl:=FH hr;have WP:=Qac B;refine fnW Tryz.func95 ?_;(conv=>whnf);(repeat' ((first|exact zi2|refine zj0 fun hb=>?_|(refine Qaw uX ?_)|(refine QfS vO ?_)|refine zse ?_|refine zbb ?_ ?_)<;>conv=>whnf))
  all_goals first|(exfalso;simp at hb;omega)|skip
  refine Lp.inv (fun mm σ=>∃ (j:Nat) (T:List Te) (B:List Bk) (s:Bool),mm+j=rl/\(⟨⟨[x0,x1,x2,x3,x4,x5,x6,x7,x8,x9,x10,x11,x12,x13,x14,x15],pc,[c0,c1,c2,c3,c4,c5,c6,c7],m,ks,ta,td,tf,⟨d0,d1,d2,d3,d4,d5,d6,d7⟩,⟨n0,n1,n2,n3,n4,n5⟩,bt,bg,ct,wt,ht⟩,T,B,o,f,s⟩:Eg).ok/\(l.drop j).foldl QcM ⟨⟨[x0,x1,x2,x3,x4,x5,x6,x7,x8,x9,x10,x11,x12,x13,x14,x15],pc,[c0,c1,c2,c3,c4,c5,c6,c7],m,ks,ta,td,tf,⟨d0,d1,d2,d3,d4,d5,d6,d7⟩,⟨n0,n1,n2,n3,n4,n5⟩,bt,bg,ct,wt,ht⟩,T,B,o,f,s⟩=Ez /\
    σ=QsS rl j [.u x0,.u x1,.u x2,.u x3,.u x4,.u x5,.u x6,.u x7,.u x8,.u x9,.u x10,.u x11,.u x12,.u x13,.u x14,.u x15,.u pc,.u c0,.u c1,.u c2,.u c3,.u c4,.u c5,.u c6,.u c7,.sl 6 0 nn,.str ks,.bool ta,.u td,.bool tf,.u d0,.u d1,.u d2,.i d3,.i d4,.u d5,.u d6,.str d7,.u n0,.u n1,.bool n2,.u n3,.bool n4,.u n5,.u bt,.u bg,.w ct,.bool wt,.bool ht,.sl 7 0 T.length,.sl 8 0 B.length,.sl 9 0 on,.i f,.bool s] WW XX (tes T) (bks B) OO LL) ?_ ?_
  .refine ⟨rl,QsS rl 0 [.u x0,.u x1,.u x2,.u x3,.u x4,.u x5,.u x6,.u x7,.u x8,.u x9,.u x10,.u x11,.u x12,.u x13,.u x14,.u x15,.u pc,.u c0,.u c1,.u c2,.u c3,.u c4,.u c5,.u c6,.u c7,.sl 6 0 nn,.str ks,.bool ta,.u td,.bool tf,.u d0,.u d1,.u d2,.i d3,.i d4,.u d5,.u d6,.str d7,.u n0,.u n1,.bool n2,.u n3,.bool n4,.u n5,.u bt,.u bg,.w ct,.bool wt,.bool ht,.sl 7 0 T0.length,.sl 8 0 B.length,.sl 9 0 on,.i f,.bool s] WW XX (tes T0) (bks B) OO LL,?_,0,_,_,_,by omega,wL,jL,rfl⟩
   (exact zwV [(0,some 0),(1,some 1),(2,some 2),(3,some 3),(4,some 4),(5,some 5),(6,some 1),(7,some 2),(8,some 3),(9,some 4),(10,some _)])
  rintro mm σ ⟨j,T,B,s,yT,hok,hf,rfl⟩;unfold QsS;have UG:=Qae T;have WP:=Qac B;obtain ⟨_,hb2⟩:T.length<=8/\B.length<=16:=⟨hok.tl,hok.bl⟩
  by_cases hj:j<rl
  .obtain ⟨_,_,s2,h2,hok2,uA⟩:=gW j T B s hj hok hf
   have g0:=GT j (l.getD j 0) (by rw [zgd,zgg (by omega)];rfl);have ca:=wO T B s hok (l.getD j 0);have cr:=HI _ _ _ (Qe1 hok (l.getD j 0));have jB:=gU (l.getD j 0) (by rw [zgd,zgg (by omega)];exact List.getElem_mem _);unfold QcM at h2;dsimp only [cR,wrt,Mc.C,Mc.D,Dk.C,Nk.C] at ca cr h2;simp only [Qaf,zca,zna,List.getD_cons_succ,List.getD_cons_zero] at ca cr h2;have hsB2:=Qac (B.filter (fun b=>decide (fk b≠((l.getD j 0:Nat):Int))));have hbl2:(B.filter (fun b=>decide (fk b≠((l.getD j 0:Nat):Int)))).length<=16:=Nat.le_trans (List.length_filter_le _ _) hb2;have q2:IntKind.i64.wrap ((j:Int)+1)=((j+1:Nat):Int):=QaS;have q5:IntKind.u32.wrap ((l.getD j 0:Nat):Int)=((l.getD j 0:Nat):Int):=Qe7 (by omega) (by omega);have ix1:0+((j:Nat):Int).toNat * ty3.size=j:=QAd;generalize l.getD j 0=fr at *;generalize GM:B.filter (fun b=>decide (fk b≠((fr:Nat):Int)))=Bf at *;clear gW wO HI GT hok hf FH JL jL wL uX vO
   by_cases hq:fr=c6
   .have GX:((fr:Nat):Int)=(c6:Int):=by omega
    rw [zP hq] at h2;injection h2 with _ e1 e2 _ _ e3
    subst e1 e2;generalize yY:tes T=TT,JF:bks B=BB at *;generalize wW:bks Bf=BB2,T.length=tn,B.length=bn,hbfn:Bf.length=bfn at *;rw [e3] at ca cr;(conv=>whnf);(repeat' ((first|exact zi2|refine zj0 fun hb=>?_|refine QFp ?_|refine Qwv ?_|refine Qm7 ?_|refine Qew ?_|(refine Qaw ca ?_)|(refine Qaw cr ?_)|refine zse ?_|refine zbb ?_ ?_)<;>conv=>whnf))
    all_goals first
     | (exfalso;simp at hb;omega)
     | (
       refine ⟨mm-1,QsS rl (j+1) [.u x0,.u x1,.u x2,.u x3,.u x4,.u x5,.u x6,.u x7,.u x8,.u x9,.u x10,.u x11,.u x12,.u x13,.u x14,.u x15,.u pc,.u c0,.u c1,.u c2,.u c3,.u c4,.u c5,.u c6,.u c7,.sl 6 0 nn,.str ks,.bool ta,.u td,.bool tf,.u d0,.u d1,.u d2,.i d3,.i d4,.u d5,.u d6,.str d7,.u n0,.u n1,.bool n2,.u n3,.bool n4,.u n5,.u bt,.u bg,.w ct,.bool wt,.bool ht,.sl 7 0 0,.sl 8 0 bfn,.sl 9 0 on,.i f,.bool s2] WW XX [] BB2 OO LL,by omega,?_,j+1,[],Bf,s2,by omega,hok2,uA,by rw [wW,hbfn];try rfl⟩
       (exact zwV [(0,some 0),(1,some 1),(2,some 2),(3,some 3),(4,some 4),(5,some 5),(6,some 196736),(7,none),(8,some 196738),(9,some 196739),(10,some 10)]))
   .have GX:¬ ((fr:Nat):Int)=(c6:Int):=by omega
    rw [zN hq] at h2;injection h2 with _ e1 e2 _ _ e3
    subst e1 e2;generalize yY:tes T=TT,JF:bks B=BB at *;generalize wW:bks Bf=BB2,htn:T.length=tn,B.length=bn,hbfn:Bf.length=bfn at *;rw [e3] at ca cr;(conv=>whnf);(repeat' ((first|exact zi2|refine zj0 fun hb=>?_|refine QFp ?_|refine Qwv ?_|refine Qm7 ?_|refine Qew ?_|(refine Qaw ca ?_)|(refine Qaw cr ?_)|refine zse ?_|refine zbb ?_ ?_)<;>conv=>whnf))
    all_goals first
     | (exfalso;simp at hb;omega)
     | (
       refine ⟨mm-1,QsS rl (j+1) [.u x0,.u x1,.u x2,.u x3,.u x4,.u x5,.u x6,.u x7,.u x8,.u x9,.u x10,.u x11,.u x12,.u x13,.u x14,.u x15,.u pc,.u c0,.u c1,.u c2,.u c3,.u c4,.u c5,.u c6,.u c7,.sl 6 0 nn,.str ks,.bool ta,.u td,.bool tf,.u d0,.u d1,.u d2,.i d3,.i d4,.u d5,.u d6,.str d7,.u n0,.u n1,.bool n2,.u n3,.bool n4,.u n5,.u bt,.u bg,.w ct,.bool wt,.bool ht,.sl 7 0 tn,.sl 8 0 bfn,.sl 9 0 on,.i f,.bool s2] WW XX TT BB2 OO LL,by omega,?_,j+1,T,Bf,s2,by omega,hok2,uA,by rw [wW,hbfn,yY,htn];try rfl⟩
       (exact zwV [(0,some 0),(1,some 1),(2,some 2),(3,some 3),(4,some 4),(5,some 5),(6,some 196736),(7,some 196737),(8,some 196738),(9,some 196739),(10,some 10)]))
  .obtain rfl:j=rl:=by omega
   rw [List.drop_eq_nil_of_le (by omega)] at hf;change (⟨_,T,B,o,f,s⟩:Eg)=Ez at hf;subst hf;clear gW wO HI GT hok FH JL jL wL uX vO;dsimp only [Eg.C,Mc.C,Mc.D,Dk.C,Nk.C];simp only [Qaf,zca,zna];rw [gJ,gQ,hXX,hOO];generalize yY:tes T=TT,JF:bks B=BB,T.length=tn,B.length=bn at *;exact QEB
 .have hr2:¬ ((z6:Nat):Int)=(c6:Int):=by omega
  obtain rfl:=JL hr;have WP:=Qac B;refine fnW Tryz.func95 ?_;(conv=>whnf);(repeat' ((first|exact zi2|refine zj0 fun hb=>?_|(refine Qaw uX ?_)|(refine QfS vO ?_)|refine zse ?_|refine zbb ?_ ?_)<;>conv=>whnf))
  all_goals first|(exfalso;simp at hb;omega)|skip
  refine Lp.inv (fun mm σ=>∃ (j:Nat) (T:List Te) (B:List Bk) (s:Bool),mm+j=rl/\(⟨⟨[x0,x1,x2,x3,x4,x5,x6,x7,x8,x9,x10,x11,x12,x13,x14,x15],pc,[c0,c1,c2,c3,c4,c5,c6,c7],m,ks,ta,td,tf,⟨d0,d1,d2,d3,d4,d5,d6,d7⟩,⟨n0,n1,n2,n3,n4,n5⟩,bt,bg,ct,wt,ht⟩,T,B,o,f,s⟩:Eg).ok/\(l.drop j).foldl QcM ⟨⟨[x0,x1,x2,x3,x4,x5,x6,x7,x8,x9,x10,x11,x12,x13,x14,x15],pc,[c0,c1,c2,c3,c4,c5,c6,c7],m,ks,ta,td,tf,⟨d0,d1,d2,d3,d4,d5,d6,d7⟩,⟨n0,n1,n2,n3,n4,n5⟩,bt,bg,ct,wt,ht⟩,T,B,o,f,s⟩=Ez /\
    σ=QsS rl j [.u x0,.u x1,.u x2,.u x3,.u x4,.u x5,.u x6,.u x7,.u x8,.u x9,.u x10,.u x11,.u x12,.u x13,.u x14,.u x15,.u pc,.u c0,.u c1,.u c2,.u c3,.u c4,.u c5,.u c6,.u c7,.sl 6 0 nn,.str ks,.bool ta,.u td,.bool tf,.u d0,.u d1,.u d2,.i d3,.i d4,.u d5,.u d6,.str d7,.u n0,.u n1,.bool n2,.u n3,.bool n4,.u n5,.u bt,.u bg,.w ct,.bool wt,.bool ht,.sl 7 0 T.length,.sl 8 0 B.length,.sl 9 0 on,.i f,.bool s] WW XX (tes T) (bks B) OO LL) ?_ ?_
  .refine ⟨rl,QsS rl 0 [.u x0,.u x1,.u x2,.u x3,.u x4,.u x5,.u x6,.u x7,.u x8,.u x9,.u x10,.u x11,.u x12,.u x13,.u x14,.u x15,.u pc,.u c0,.u c1,.u c2,.u c3,.u c4,.u c5,.u c6,.u c7,.sl 6 0 nn,.str ks,.bool ta,.u td,.bool tf,.u d0,.u d1,.u d2,.i d3,.i d4,.u d5,.u d6,.str d7,.u n0,.u n1,.bool n2,.u n3,.bool n4,.u n5,.u bt,.u bg,.w ct,.bool wt,.bool ht,.sl 7 0 0,.sl 8 0 B.length,.sl 9 0 on,.i f,.bool s] WW XX (tes []) (bks B) OO LL,?_,0,_,_,_,by omega,wL,jL,rfl⟩
   (exact zwV [(0,some 0),(1,some 1),(2,some 2),(3,some 3),(4,some 4),(5,some 5),(6,some 1),(7,none),(8,some 3),(9,some 4),(10,some _)])
  rintro mm σ ⟨j,T,B,s,yT,hok,hf,rfl⟩;unfold QsS;have UG:=Qae T;have WP:=Qac B;obtain ⟨_,hb2⟩:T.length<=8/\B.length<=16:=⟨hok.tl,hok.bl⟩
  by_cases hj:j<rl
  .obtain ⟨_,_,s2,h2,hok2,uA⟩:=gW j T B s hj hok hf
   have g0:=GT j (l.getD j 0) (by rw [zgd,zgg (by omega)];rfl);have ca:=wO T B s hok (l.getD j 0);have cr:=HI _ _ _ (Qe1 hok (l.getD j 0));have jB:=gU (l.getD j 0) (by rw [zgd,zgg (by omega)];exact List.getElem_mem _);unfold QcM at h2;dsimp only [cR,wrt,Mc.C,Mc.D,Dk.C,Nk.C] at ca cr h2;simp only [Qaf,zca,zna,List.getD_cons_succ,List.getD_cons_zero] at ca cr h2;have hsB2:=Qac (B.filter (fun b=>decide (fk b≠((l.getD j 0:Nat):Int))));have hbl2:(B.filter (fun b=>decide (fk b≠((l.getD j 0:Nat):Int)))).length<=16:=Nat.le_trans (List.length_filter_le _ _) hb2;have q2:IntKind.i64.wrap ((j:Int)+1)=((j+1:Nat):Int):=QaS;have q5:IntKind.u32.wrap ((l.getD j 0:Nat):Int)=((l.getD j 0:Nat):Int):=Qe7 (by omega) (by omega);have ix1:0+((j:Nat):Int).toNat * ty3.size=j:=QAd;generalize l.getD j 0=fr at *;generalize GM:B.filter (fun b=>decide (fk b≠((fr:Nat):Int)))=Bf at *;clear gW wO HI GT hok hf FH JL jL wL uX vO
   by_cases hq:fr=c6
   .have GX:((fr:Nat):Int)=(c6:Int):=by omega
    rw [zP hq] at h2;injection h2 with _ e1 e2 _ _ e3
    subst e1 e2;generalize yY:tes T=TT,JF:bks B=BB at *;generalize wW:bks Bf=BB2,T.length=tn,B.length=bn,hbfn:Bf.length=bfn at *;rw [e3] at ca cr;(conv=>whnf);(repeat' ((first|exact zi2|refine zj0 fun hb=>?_|refine QFp ?_|refine Qwv ?_|refine Qm7 ?_|refine Qew ?_|(refine Qaw ca ?_)|(refine Qaw cr ?_)|refine zse ?_|refine zbb ?_ ?_)<;>conv=>whnf))
    all_goals first
     | (exfalso;simp at hb;omega)
     | (
       refine ⟨mm-1,QsS rl (j+1) [.u x0,.u x1,.u x2,.u x3,.u x4,.u x5,.u x6,.u x7,.u x8,.u x9,.u x10,.u x11,.u x12,.u x13,.u x14,.u x15,.u pc,.u c0,.u c1,.u c2,.u c3,.u c4,.u c5,.u c6,.u c7,.sl 6 0 nn,.str ks,.bool ta,.u td,.bool tf,.u d0,.u d1,.u d2,.i d3,.i d4,.u d5,.u d6,.str d7,.u n0,.u n1,.bool n2,.u n3,.bool n4,.u n5,.u bt,.u bg,.w ct,.bool wt,.bool ht,.sl 7 0 0,.sl 8 0 bfn,.sl 9 0 on,.i f,.bool s2] WW XX [] BB2 OO LL,by omega,?_,j+1,[],Bf,s2,by omega,hok2,uA,by rw [wW,hbfn];try rfl⟩
       (exact zwV [(0,some 0),(1,some 1),(2,some 2),(3,some 3),(4,some 4),(5,some 5),(6,some 196736),(7,none),(8,some 196738),(9,some 196739),(10,some 10)]))
   .have GX:¬ ((fr:Nat):Int)=(c6:Int):=by omega
    rw [zN hq] at h2;injection h2 with _ e1 e2 _ _ e3
    subst e1 e2;generalize yY:tes T=TT,JF:bks B=BB at *;generalize wW:bks Bf=BB2,htn:T.length=tn,B.length=bn,hbfn:Bf.length=bfn at *;rw [e3] at ca cr;(conv=>whnf);(repeat' ((first|exact zi2|refine zj0 fun hb=>?_|refine QFp ?_|refine Qwv ?_|refine Qm7 ?_|refine Qew ?_|(refine Qaw ca ?_)|(refine Qaw cr ?_)|refine zse ?_|refine zbb ?_ ?_)<;>conv=>whnf))
    all_goals first
     | (exfalso;simp at hb;omega)
     | (
       refine ⟨mm-1,QsS rl (j+1) [.u x0,.u x1,.u x2,.u x3,.u x4,.u x5,.u x6,.u x7,.u x8,.u x9,.u x10,.u x11,.u x12,.u x13,.u x14,.u x15,.u pc,.u c0,.u c1,.u c2,.u c3,.u c4,.u c5,.u c6,.u c7,.sl 6 0 nn,.str ks,.bool ta,.u td,.bool tf,.u d0,.u d1,.u d2,.i d3,.i d4,.u d5,.u d6,.str d7,.u n0,.u n1,.bool n2,.u n3,.bool n4,.u n5,.u bt,.u bg,.w ct,.bool wt,.bool ht,.sl 7 0 tn,.sl 8 0 bfn,.sl 9 0 on,.i f,.bool s2] WW XX TT BB2 OO LL,by omega,?_,j+1,T,Bf,s2,by omega,hok2,uA,by rw [wW,hbfn,yY,htn];try rfl⟩
       (exact zwV [(0,some 0),(1,some 1),(2,some 2),(3,some 3),(4,some 4),(5,some 5),(6,some 196736),(7,some 196737),(8,some 196738),(9,some 196739),(10,some 10)]))
  .obtain rfl:j=rl:=by omega
   rw [List.drop_eq_nil_of_le (by omega)] at hf;change (⟨_,T,B,o,f,s⟩:Eg)=Ez at hf;subst hf;clear gW wO HI GT hok FH JL jL wL uX vO;dsimp only [Eg.C,Mc.C,Mc.D,Dk.C,Nk.C];simp only [Qaf,zca,zna];rw [gJ,gQ,hXX,hOO];generalize yY:tes T=TT,JF:bks B=BB,T.length=tn,B.length=bn at *;exact QEB
theorem Qk9 (pg:Nat):∀ (t:List Te) (k:Nat),0<=Qf6 pg t k->∃ (i:Nat) (e:Te),Qf6 pg t k=((k+i:Nat):Int)/\t[i]?=some e/\e.p=pg
 | [],k,h=>by change (0:Int)<= -1 at h;omega
 | e::l,k,h=>by
  by_cases hp:e.p=pg
  .exact ⟨0,e,by show (if _ then _ else _)=_;rw [zP hp];rfl,rfl,hp⟩
  .have hu:Qf6 pg (e::l) k=Qf6 pg l (k+1):=by show (if _ then _ else _)=_;rw [zN hp]
   rw [hu] at h;obtain ⟨i,e',h1,h2,h3⟩:=Qk9 pg l (k+1) h;exact ⟨i+1,e',by rw [hu,h1];congr 1;omega,h2,h3⟩
theorem Qik {T:List Te} {pg:Nat} {ac:Int} {i:Nat} {e:Te} (h:Qos T pg ac=some (i,e)):T[i]?=some e/\e.p=pg/\Qsj e.w e.x ac=true/\Qf6 pg T 0=(i:Int):=by
 unfold Qos at h;split at h
 .rename_i e0 he
  split at h
  .rename_i hc
   injection h with h
   injection h with h1 h2
   subst h2;obtain ⟨j,_,g1,g2,g3⟩:=Qk9 pg T 0 hc.1;have hj:(Qf6 pg T 0).toNat=j:=by rw [g1];omega
   rw [hj] at he h1;rw [g2] at he;injection he with he
   subst he;subst h1;exact ⟨g2,g3,hc.2,by rw [g1];omega⟩
  .cases h
 .cases h
theorem Qwr (l:List Nat):∀ E:Eg,(QiS l E).M=E.M/\(QiS l E).T=E.T/\(QiS l E).o=E.o/\(QiS l E).f=E.f/\(QiS l E).B.Sublist E.B/\(∀ b∈(QiS l E).B,∀ i∈l,fk b≠(i:Int))/\((QiS l E).s=false->E.s=false/\∀ i∈l,i≠E.f)/\(E.s=true->(QiS l E).s=true):=by
 induction l with
 | nil=>grind [QiS,fk]
 | cons a l ih =>
  intro E;obtain ⟨h1,h2,h3,h4,h5,h6,h7,h8⟩:=ih (wrt a E);refine ⟨h1,h2,h3,h4,h5.trans List.filter_sublist,fun b hb i hi=>?_,fun h=>?_,fun h=>h8 (by show (E.s||_)=true;rw [h,Bool.true_or])⟩
  .rcases List.mem_cons.1 hi with rfl|hi
   .have:=(List.mem_filter.1 (h5.subset hb)).2
    exact of_decide_eq_true this
   .exact h6 b hb i hi
  .obtain ⟨g1,g2⟩:=h7 h
   change (E.s||decide (a=E.f))=false at g1;rw [Bool.or_eq_false_iff,decide_eq_false_iff_not] at g1;refine ⟨g1.1,fun i hi=>?_⟩;rcases List.mem_cons.1 hi with rfl|hi
   .exact g1.2
   .exact g2 i hi
theorem QsC (l:List Nat):∀ {E:Eg},E.ok->(QiS l E).ok:=by
 induction l with
 | nil=>exact fun h=>h
 | cons a l ih=>exact fun {E} h=>ih (E:=wrt a E) ⟨h.M,h.T,h.tl,fun b hb=>h.B b (List.mem_filter.1 hb).1,Nat.le_trans (List.length_filter_le _ _) h.bl,h.o,h.ol,h.f⟩
theorem QuR {a b:List Nat} {n i:Nat} (ha:a.length=n) (hb:b.length=n) (hi:i*32+32<=n) (h:sgm a i=sgm b i) (j:Nat) (hj:j / 32=i):a.getD j 0=b.getD j 0:=by
 have h1:=QmU a i (j-i*32) (by omega) (by omega);have h2:=QmU b i (j-i*32) (by omega) (by omega);rw [h,h2] at h1;rw [show i*32+(j-i*32)=j by omega] at h1;exact (Option.some.inj h1).symm
theorem Qjc {a b:List Nat} {n:Nat} (ha:a.length=n) (hb:b.length=n) (hn:mpg n*32=n) (i:Nat) (h:i ∉ Qd2 a b n) (j:Nat) (hj:j / 32=i):a.getD j 0=b.getD j 0:=by
 by_cases hi:i<mpg n
 .unfold Qd2 at h
  rw [Qh7] at h;have:sgm a i=sgm b i:=by grind
  exact QuR ha hb (by omega) this j hj
 .grind
theorem Qji {t:List Te} {xs ys:List Nat} {n r:Nat} (h:∀ j,j / 32=r->xs.getD j 0=ys.getD j 0) (hc:Qhz t xs n r=true):Qhz t ys n r=true:=by grind [QeG,Qm8,QsP,ys,Qhz]
theorem Qmc (xs:List Nat) (n r:Nat):Qhz [] xs n r=true:=by rw [QeG];exact ⟨Nat.zero_le _,fun e he=>(by cases he),List.nodup_nil⟩
theorem QeN (xs:List Nat) (a w j:Nat) (h:a≠j):(xs.set a w).getD j 0=xs.getD j 0:=by grind
structure Coh (E:Eg):Prop where
 (n:mpg E.M.m.length*32=E.M.m.length) (T:Qhz E.T E.M.m E.M.m.length (cR E.M)=true) (B:Qhg E.M.m E.M.m.length E.B)
def sO (E:Eg) (va sz:Nat) (ac:Int):Bool:=rsO E.M.m E.M.m.length (E.M.c.getD 0 0) (cR E.M) va sz ac
def sA (E:Eg) (va sz:Nat) (ac:Int):Nat:=rsA E.M.m E.M.m.length (E.M.c.getD 0 0) (cR E.M) va sz ac
def sM (E:Eg) (va sz:Nat) (ac:Int):List Nat:=rsM E.M.m E.M.m.length (E.M.c.getD 0 0) (cR E.M) va sz ac
theorem QDg (r va:Nat):Qa9 r va / 4=r*32+va / 128:=by unfold Qa9;omega
structure Rsv (E:Eg) (va sz:Nat) (ac:Int) (R:Eg × Nat × Bool):Prop where
 (ok:R.1.ok) (coh:Coh R.1) (b:R.2.2=sO E va sz ac) (no:R.2.2=false->R.1=E) (a:R.2.2=true->R.2.1=sA E va sz ac)
 (m:R.1.M= { E.M with m:=sM E va sz ac }) (o:R.1.o=E.o) (f:R.1.f=E.f) (s:E.s=true->R.1.s=true)
 (s0:R.1.s=false->E.s=false/\∀ j,j / 32=E.f->R.1.M.m.getD j 0=E.M.m.getD j 0)
 (in_:R.2.2=true->R.2.1 / 4<E.M.m.length/\R.2.1<4294967296)
theorem QeX (E:Eg) (hE:E.ok) (hC:Coh E) (va sz:Nat) (ac:Int) (gX:ZU va) (qA:sz=1\/sz=4) (HC:ac=1\/ac=2\/ac=3):Rsv E va sz ac (rsv E va sz ac):=by
 have wD:QdP ac=true:=by unfold QdP;rw [zde];omega
 have hsb:szB (sz:Int)=true:=by unfold szB;rw [zde];omega
 have gI:=hE.M.ml;have yF:((va:Int)%(sz:Int)=0)↔va%sz=0:=by omega
 have key:∀ B:Bool,(if Qdf (E.M.c.getD 0 0)=true then Qbo E.M.m E.M.m.length (cR E.M) va ac else acB sz E.M.m.length va)=B->va%sz=0->sO E va sz ac=B:=fun B h1 h2=>by grind [sO,rsO,rsv]
 unfold rsv
 by_cases h1:va%sz≠0
 .rw [zP h1]
  have hb:sO E va sz ac=false:=by grind [sO,rsO,rsv]
  have hm:sM E va sz ac=E.M.m:=by grind [sM,rsM,sO,rsv]
  exact ⟨hE,hC,hb.symm,fun _=>rfl,(fun h=>by cases h),by rw [hm],rfl,rfl,fun h=>h,fun h=>⟨h,fun _ _=>rfl⟩,(fun h=>by cases h)⟩
 rw [zN h1];have h0:va%sz=0:=by omega
 by_cases hp:Qdf (E.M.c.getD 0 0)=false
 .rw [zP hp]
  have hn:=hC.n
  have hb:sO E va sz ac=decide (va<4*E.M.m.length):=by
   refine key _ ?_ h0;rw [zN (by rw [hp];decide)];unfold acB;rcases qA with rfl|rfl
   .grind [ld1,rsv]
   .rw [zP (by omega)]
    unfold ld4;rw [zdt h0,Bool.true_and];exact decide_eq_decide.2 (by omega)
  have hm:sM E va sz ac=E.M.m:=by grind [sM,rsM,rsv]
  refine ⟨hE,hC,hb.symm,fun _=>rfl,fun h=>?_,by rw [hm],rfl,rfl,fun h=>h,fun h=>⟨h,fun _ _=>rfl⟩,fun h=>?_⟩
  .grind [sO,sA,rsA,rsv]
  .grind
 rw [zN hp];have uU:Qdf (E.M.c.getD 0 0)=true:=by cases h:Qdf (E.M.c.getD 0 0) with|true=>rfl|false=>exact absurd h hp
 have hr:=Qab hE.M.cr 6;have hX:XB E.M.m E.M.m.length:=⟨rfl,hE.M.mr⟩
 cases hh:Qos E.T (va / 128) ac with
 | some q =>
  obtain ⟨i,e⟩:=q;obtain ⟨g1,g2,g3,_⟩:=Qik hh;have zX:=((QeG _ _ _ _).1 hC.T).2.1 e (List.mem_of_getElem? g1);unfold Qm8 QsP at zX;simp only [zba,zde] at zX;have hp32:=zX.1.1.1.1;have hef:=zX.1.1.2;have uF:=QaT E.M.m.length;obtain ⟨c1,c2,_,c4⟩:=QwX E.T E.M.m E.M.m.length (cR E.M) va ac i e g1 g2 HC (by omega) g3 hC.T;have hb:sO E va sz ac=true:=key _ (by rw [zP uU];exact c2) h0
  have hm:sM E va sz ac=E.M.m:=by
   unfold sM rsM;rw [QDg];split
   .show E.M.m.set _ (QbK (QaR E.M.m (cR E.M) va) ac)=_
    rw [c4];unfold QaR;have hr2:cR E.M<mpg E.M.m.length:=zX.1.1.1.2;apply List.ext_getElem?;intro j;rw [List.getElem?_set];have hn:=hC.n;have gU:cR E.M*32+va / 128<E.M.m.length:=by omega
    split
    .grind
    .rfl
   .rfl
  dsimp only;have jB:(e.f*128+va%128)%4294967296=e.f*128+va%128:=Nat.mod_eq_of_lt (by omega);refine ⟨⟨hE.M,fun x hx=>hE.T x ((QgG E.T i e g1 x).1 hx),by show (QbB E.T i e).length<=8;rw [QeL E.T i e g1];exact hE.tl,hE.B,hE.bl,hE.o,hE.ol,hE.f⟩,⟨hC.n,c1,hC.B⟩,hb.symm,(fun h=>by cases h),fun _=>?_,by rw [hm],rfl,rfl,fun h=>h,fun h=>⟨h,fun _ _=>rfl⟩,fun _=>?_⟩
  .grind [sA,rsA,sO,rsv]
  .show (e.f*128+va%128)%4294967296 / 4<_/\(e.f*128+va%128)%4294967296<_
   have hn:=hC.n;rw [jB];omega
 | none =>
  dsimp only
  by_cases hw:Qbo E.M.m E.M.m.length (cR E.M) va ac=true
  .rw [zP hw]
   have hb:sO E va sz ac=true:=key _ (by rw [zP uU];exact hw) h0;have qZ:=hw;unfold Qbo at qZ;simp only [zba,zde] at qZ;obtain ⟨⟨⟨⟨_,_⟩,_⟩,_⟩,_⟩:=qZ
   have ZR:sM E va sz ac=Qbt E.M.m E.M.m.length (cR E.M) va ac:=by
    unfold sM rsM Qbt;unfold sO at hb;rw [zP ⟨hb,uU⟩,zP hw,QDg];rfl
   have FU:(Qbt E.M.m E.M.m.length (cR E.M) va ac).length=E.M.m.length:=(Qif hX).1;have ZM:=Qtc E.T E.M.m E.M.m.length (cR E.M) va ac hX (by have:=hC.n;omega) hC.T;have WA:=Qk6 (t:=E.T) (xs:=E.M.m) (n:=E.M.m.length) (r:=cR E.M) (ac:=ac) hE.T gX;have YG:=QgC (t:=E.T) (xs:=E.M.m) (n:=E.M.m.length) (r:=cR E.M) (va:=va) (ac:=ac) hE.tl;have HP:=Qif (r:=cR E.M) (va:=va) (ac:=ac) hX;have hcs:=fun i h j hj=>Qjc (a:=E.M.m) (b:=Qbt E.M.m E.M.m.length (cR E.M) va ac) rfl FU hC.n i h j hj
   generalize Qbt E.M.m E.M.m.length (cR E.M) va ac=X,QcI E.T E.M.m E.M.m.length (cR E.M) va ac=T2 at *;have zV:Eg.ok { E with T:=T2,M:= { E.M with m:=X } }:=⟨⟨hE.M.x,hE.M.c,hE.M.xr,hE.M.cr,hE.M.pr,HP.2,by show X.length<=_;rw [FU];exact gI,hE.M.dk,hE.M.nk,hE.M.dv⟩,WA,YG,hE.B,hE.bl,hE.o,hE.ol,hE.f⟩;obtain ⟨k1,k2,k3,k4,k5,k6,k7,k8⟩:=Qwr (Qd2 E.M.m X E.M.m.length) { E with T:=T2,M:= { E.M with m:=X } };have VH:=QsC (Qd2 E.M.m X E.M.m.length) zV;generalize QiS (Qd2 E.M.m X E.M.m.length) { E with T:=T2,M:= { E.M with m:=X } }=E' at *;dsimp only at k1 k2 k3 k4 k5 k7 k8;have hlE:E'.M.m.length=E.M.m.length:=by rw [k1];exact FU
   refine ⟨VH,⟨by rw [hlE];exact hC.n,?_,?_⟩,hb.symm,(fun h=>by cases h),fun _=>?_,by rw [ZR];exact k1,k3,k4,k8,fun h=>⟨(k7 h).1,fun j hj=>?_⟩,fun _=>?_⟩
   .grind [cR,rsv]
   .rw [hlE]
    have:E'.M.m=X:=by rw [k1]
    rw [this];refine QkT E.M.m X _ E.B E'.B k5 (fun b hb2 j hj=>?_) hC.B;refine hcs (b.A / 128) (fun hmem=>?_) j hj;exact k6 b hb2 _ hmem rfl
   .grind [sA,rsA,sO,rsv]
   .grind
   .show (frW (QaR E.M.m (cR E.M) va)*128+va%128) / 4<_/\frW (QaR E.M.m (cR E.M) va)*128+va%128<_
    have hn:=hC.n;have uF:=QaT E.M.m.length;omega
  .rw [zN hw]
   have hwf:Qbo E.M.m E.M.m.length (cR E.M) va ac=false:=by cases h:Qbo E.M.m E.M.m.length (cR E.M) va ac with|true=>exact absurd h hw|false=>rfl
   have hb:sO E va sz ac=false:=key _ (by rw [zP uU];exact hwf) h0;have hm:sM E va sz ac=E.M.m:=by grind [sM,rsM,sO,rsv]
   exact ⟨hE,hC,hb.symm,fun _=>rfl,(fun h=>by cases h),by rw [hm],rfl,rfl,fun h=>h,fun h=>⟨h,fun _ _=>rfl⟩,(fun h=>by cases h)⟩
theorem Qqu {T:List Te} {pg:Nat} {ac:Int} {i:Nat} {e:Te} (h:Qos T pg ac=some (i,e)):T[i]?=some e/\e.p=pg/\Qsj e.w e.x ac=true/\Qf6 pg T 0=(i:Int):=Qik h
theorem QjG (T:List Te) (hT:T.length<=1000000) (pg:Nat) (ac:Int) (h:Qos T pg ac=none):FN 151 [.s (.sl 0 0 T.length),.s (.u (pg:Nat)),.s (.i ac)] [⟨false,4,tes T⟩] (. =⟨.tup [.s (.u 0),.s (.sl 1 0 T.length),.s (.bool false)],[],[⟨true,4,tes T⟩]⟩):=by
 by_cases h0:0<=Qf6 pg T 0
 .obtain ⟨i,e,h1,h2,_⟩:=Qk9 pg T 0 h0
  rw [Nat.zero_add] at h1;refine Qnz T _ rfl hT pg ac i e h2 h1 ?_;unfold Qos at h;rw [show (Qf6 pg T 0).toNat=i by rw [h1];omega,h2] at h;dsimp only at h
  cases hp:Qsj e.w e.x ac with
  | false=>rfl
  | true=>rw [zP ⟨h0,hp⟩] at h;cases h
 .refine Qlf T _ rfl hT pg ac ?_
  have:∀ (t:List Te) (k:Nat),¬ 0<=Qf6 pg t k->Qf6 pg t k= -1:=fun t=>by
   induction t with
   | nil=>exact fun k _=>rfl
   | cons e l ih =>
    intro k hk;change ¬ 0<=(if e.p=pg then (k:Int) else Qf6 pg l (k+1)) at hk;show (if e.p=pg then (k:Int) else Qf6 pg l (k+1))= -1;split at hk
    .omega
    .rename_i fQ
     rw [zN fQ];exact ih (k+1) hk
  exact this T 0 h0
theorem QyY (E:Eg) (hE:E.ok) (va sz:Nat) (ac:Int) (gX:ZU va) (qA:sz=1\/sz=4) (h:¬ va%sz=0) :
  FN 90 [.s (.ptr 0 0),.s (.u va),.s (.u sz),.s (.i ac)] E.H (. =E.R (.tup [.s (.u (0:Nat)),.s (.bool false)])):=by
 have fD:=Qaa E.M.m;have gO:=Qae E.T;have gZ:=Qac E.B;have fY:=(Qax hE.o).2.1;obtain ⟨hM,hT,_,hB,_,ho,_,_⟩:=hE;obtain ⟨M,T,B,o,_,s⟩:=E;dsimp only [Eg.H,Eg.R,Eg.Rk,Eg.C,wrt] at *;obtain ⟨hx,hc,hY,gA,gH,gB,gI,gE,gD,gG⟩:=hM;obtain ⟨_,_,_,m,_,_,_,_,d,n⟩:=M;dsimp only at *;cases QaJ hx;cases zC8 hc;cases d;cases n;dsimp only [Mc.C,Mc.D,Dk.C,Nk.C,Dk.ok,Nk.ok] at *
 try dsimp only [cR,Mc.C,Mc.D,Dk.C,Nk.C] at *
 try simp only [Qaf,zca,zna,List.getD_cons_succ,List.getD_cons_zero] at *
 generalize gP:wsv m=XX,hX3:bks B=BB,hX4:OLs o=OO,gJ:m.length=nn,gM:B.length=bn,gQ:o.length=on,tes T=TT,T.length=tn at *;have tm1:Int.tmod (va:Int) (sz:Int)=((va%sz:Nat):Int):=Qku;generalize va%sz=vs at *;clear gP hX3 hX4 gJ gM gQ hT hB ho hY gA gH gB gI gE gD gG;have KI:¬ ((vs:Nat):Int)=0:=by omega
 refine fnW Tryz.func90 ?_;(repeat' ((conv=>whnf);first|exact zi2|refine zj0 fun hb=>?_|(with_reducible refine zv tm1 ?_)|refine zse ?_|refine zbb ?_ ?_))
 all_goals exact Qz3
theorem QyZ (E:Eg) (hE:E.ok) (va sz:Nat) (ac:Int) (gX:ZU va) (qA:sz=1\/sz=4) (h:va%sz=0) (hp:Qdf (E.M.c.getD 0 0)=false) :
  FN 90 [.s (.ptr 0 0),.s (.u va),.s (.u sz),.s (.i ac)] E.H (. =E.R (.tup [.s (.u va),.s (.bool (decide (va<4*E.M.m.length)))])):=by
 have fW:=Qgl E hE;rw [hp] at fW;have fD:=Qaa E.M.m;have gO:=Qae E.T;have gZ:=Qac E.B;have fY:=(Qax hE.o).2.1;obtain ⟨hM,hT,_,hB,_,ho,_,_⟩:=hE;obtain ⟨M,T,B,o,_,s⟩:=E;dsimp only [Eg.H,Eg.R,Eg.Rk,Eg.C,wrt] at *;obtain ⟨hx,hc,hY,gA,gH,gB,gI,gE,gD,gG⟩:=hM;obtain ⟨_,_,c,m,_,_,_,_,d,n⟩:=M;dsimp only at *;cases QaJ hx;cases zC8 hc;cases d;cases n;dsimp only [Mc.C,Mc.D,Dk.C,Nk.C,Dk.ok,Nk.ok] at *
 try dsimp only [cR,Mc.C,Mc.D,Dk.C,Nk.C] at *
 try simp only [Qaf,zca,zna,List.getD_cons_succ,List.getD_cons_zero] at *
 generalize gP:wsv m=XX,hX3:bks B=BB,hX4:OLs o=OO,gJ:m.length=nn,gM:B.length=bn,gQ:o.length=on,tes T=TT,T.length=tn at *;have tm1:Int.tmod (va:Int) (sz:Int)=((va%sz:Nat):Int):=Qku;generalize va%sz=vs at *;have GA:nn<=1000000:=gI;have gU:decide ((va:Int)<4*(nn:Int))=decide (va<4*nn):=decide_eq_decide.2 (by omega);generalize decide (va<4*nn)=Bq at *;have KI:((vs:Nat):Int)=0:=by omega
 clear gP hX3 hX4 gJ gM gQ hT hB ho hY gA gH gB gI gE gD gG;refine fnW Tryz.func90 ?_;(repeat' ((conv=>whnf);first|exact zi2|refine zj0 fun hb=>?_|((with_reducible apply Vl.mk (α:=Bool)); . with_reducible exact gU)|(with_reducible refine zv tm1 ?_)|(refine Qaw fW ?_)|refine zse ?_|refine zbb ?_ ?_))
 all_goals exact Qz3
theorem Qy0 (E:Eg) (hE:E.ok) (va sz:Nat) (ac:Int) (gX:ZU va) (qA:sz=1\/sz=4) (h:va%sz=0) (hp:Qdf (E.M.c.getD 0 0)=true) (i:Nat) (e:Te) (hh:Qos E.T (va / 128) ac=some (i,e)) :
  FN 90 [.s (.ptr 0 0),.s (.u va),.s (.u sz),.s (.i ac)] E.H (. =(({ E with T:=QbB E.T i e }:Eg)).R (.tup [.s (.u ((e.f*128+va%128)%4294967296:Nat)),.s (.bool true)])):=by
 have fW:=Qgl E hE;rw [hp] at fW;obtain ⟨k1,k2,k3,k4⟩:=Qqu hh;have uE:=Qny E.T _ rfl (by have:=hE.tl;omega) (va / 128) ac i e k1 k4 k3;have UF:=Qae (QbB E.T i e);have uC:(QbB E.T i e).length=E.T.length:=QeL E.T i e k1;have hef:=hE.T e (List.mem_of_getElem? k1);have fD:=Qaa E.M.m;have gO:=Qae E.T;have gZ:=Qac E.B;have fY:=(Qax hE.o).2.1;obtain ⟨hM,hT,_,hB,_,ho,_,_⟩:=hE;obtain ⟨M,T,B,o,f,s⟩:=E;dsimp only [Eg.H,Eg.R,Eg.Rk,Eg.C,wrt] at *;rw [uC];generalize FH:tes (QbB T i e)=T2 at *;obtain ⟨hx,hc,hY,gA,gH,gB,gI,gE,gD,gG⟩:=hM;obtain ⟨_,_,c,m,_,_,_,_,d,n⟩:=M;dsimp only at *;cases QaJ hx;cases zC8 hc;cases d;cases n;dsimp only [Mc.C,Mc.D,Dk.C,Nk.C,Dk.ok,Nk.ok] at *
 try dsimp only [cR,Mc.C,Mc.D,Dk.C,Nk.C] at *
 try simp only [Qaf,zca,zna,List.getD_cons_succ,List.getD_cons_zero] at *
 generalize gP:wsv m=XX,hX3:bks B=BB,hX4:OLs o=OO,gJ:m.length=nn,gM:B.length=bn,gQ:o.length=on,tes T=TT,T.length=tn at *;have tm1:Int.tmod (va:Int) (sz:Int)=((va%sz:Nat):Int):=Qku;generalize va%sz=vs at *;have tm2:Int.tmod (va:Int) 128=((va%128:Nat):Int):=Qku;have dv2:Int.tdiv (va:Int) 128=((va / 128:Nat):Int):=QfU;have dv3:IntKind.u32.wrap (Int.tdiv (va:Int) 128)=((va / 128:Nat):Int):=QAe;have KI:((vs:Nat):Int)=0:=by omega
 obtain ⟨_,ef,_,_⟩:=e;dsimp only at *;have q1:IntKind.u32.wrap ((ef:Int)*128)=((ef*128%4294967296:Nat):Int):=by rw [Qch];omega
 have q3:IntKind.u32.wrap (((ef*128%4294967296:Nat):Int)+((va%128:Nat):Int))=(((ef*128+va%128)%4294967296:Nat):Int):=by rw [Qch];omega
 generalize (ef*128+va%128)%4294967296=R1,ef*128%4294967296=R0 at *;generalize va%128=V0,va / 128=V1 at *;clear gP hX3 hX4 gJ gM gQ hT hB ho hY gA gH gB gI gE gD gG;clear hh k1 k2 k3 k4 FH;refine fnW Tryz.func90 ?_;(conv=>whnf);(repeat' ((first|exact zi2|refine zj0 fun hb=>?_|(with_reducible first|refine zv tm1 ?_|refine zv tm2 ?_|refine zv dv3 ?_|refine zv q1 ?_|refine zv q3 ?_)|(refine Qaw fW ?_)|(refine QaA uE ?_)|refine zse ?_|refine zbb ?_ ?_)<;>conv=>whnf))
 all_goals first|(apply Fin.mv (m:= [(0,some 0),(1,some 1),(2,some 2),(3,some 3),(4,some 4),(5,some 1),(6,some 262656),(7,some 3),(8,some 4)]);(focus exact rfl);(all_goals ((try (show QcE _ _ _ [] _));first|exact aFi|exact rfl)))|(exfalso;simp at hb;omega)
theorem Qy1 (E:Eg) (hE:E.ok) (va sz:Nat) (ac:Int) (gX:ZU va) (qA:sz=1\/sz=4) (h:va%sz=0) (hp:Qdf (E.M.c.getD 0 0)=true) (hh:Qos E.T (va / 128) ac=none) (hw:Qbo E.M.m E.M.m.length (cR E.M) va ac=false) :
  FN 90 [.s (.ptr 0 0),.s (.u va),.s (.u sz),.s (.i ac)] E.H (. =E.R (.tup [.s (.u (0:Nat)),.s (.bool false)])):=by
 have fW:=Qgl E hE;rw [hp] at fW;have uE:FN 151 [.s (.sl 0 0 E.T.length),.s (.u (va / 128:Nat)),.s (.i ac)] [⟨false,4,tes E.T⟩] (. =⟨.tup [.s (.u 0),.s (.sl 1 0 E.T.length),.s (.bool false)],[],[⟨true,4,tes E.T⟩]⟩):=QjG E.T (by have:=hE.tl;omega) (va / 128) ac hh;have zK:=QmZ E.T _ rfl (by have:=hE.tl;omega) E.M.m E.M.m.length (cR E.M) va ac ⟨rfl,hE.M.mr⟩ (by have:=hE.M.ml;omega) (Qab hE.M.cr 6) gX;have HI:=QdD E hE;have YX:QfK E.M.m E.M.m.length (cR E.M) va ac= [.u 0,.u 0,.i (Qcv ac)]:=by unfold QfK;rw [zN (by rw [hw];decide)]
 have yQ:QcI E.T E.M.m E.M.m.length (cR E.M) va ac=E.T:=by unfold QcI;rw [zN (by rw [hw];decide)]
 have ZR:Qbt E.M.m E.M.m.length (cR E.M) va ac=E.M.m:=by unfold Qbt;rw [zN (by rw [hw];decide)]
 have qL:¬ Qcv ac=0:=by unfold Qcv;split;decide;split<;>decide
 rw [YX,yQ,ZR] at zK;clear YX yQ ZR hw hh;generalize Qcv ac=ca at *;have fD:=Qaa E.M.m;have gO:=Qae E.T;have gZ:=Qac E.B;have fY:=(Qax hE.o).2.1;obtain ⟨hM,hT,_,hB,_,ho,_,_⟩:=hE;obtain ⟨M,T,B,o,_,s⟩:=E;dsimp only [Eg.H,Eg.R,Eg.Rk,Eg.C,wrt] at *;obtain ⟨hx,hc,hY,gA,gH,gB,gI,gE,gD,gG⟩:=hM;obtain ⟨_,_,c,m,_,_,_,_,d,n⟩:=M;dsimp only at *;cases QaJ hx;cases zC8 hc;cases d;cases n;dsimp only [Mc.C,Mc.D,Dk.C,Nk.C,Dk.ok,Nk.ok] at *
 try dsimp only [cR,Mc.C,Mc.D,Dk.C,Nk.C] at *
 try simp only [Qaf,zca,zna,List.getD_cons_succ,List.getD_cons_zero] at *
 generalize gP:wsv m=XX,hX3:bks B=BB,hX4:OLs o=OO,gJ:m.length=nn,gM:B.length=bn,gQ:o.length=on,tes T=TT,T.length=tn at *;have tm1:Int.tmod (va:Int) (sz:Int)=((va%sz:Nat):Int):=Qku;generalize va%sz=vs at *;have tm2:Int.tmod (va:Int) 128=((va%128:Nat):Int):=Qku;have dv2:Int.tdiv (va:Int) 128=((va / 128:Nat):Int):=QfU;have dv3:IntKind.u32.wrap (Int.tdiv (va:Int) 128)=((va / 128:Nat):Int):=QAe;have KI:((vs:Nat):Int)=0:=by omega
 generalize va%128=V0,va / 128=V1 at *;clear gP hX3 hX4 gJ gM gQ hT hB ho hY gA gH gB gI gE gD gG;refine fnW Tryz.func90 ?_;(repeat' ((conv=>whnf);first|exact zi2|refine zj0 fun hb=>?_|(with_reducible first|refine zv tm1 ?_|refine zv dv3 ?_)|(refine Qaw fW ?_)|(refine QaA uE ?_)|(refine Qaw HI ?_)|(refine QfS zK ?_)|refine zse ?_|refine zbb ?_ ?_))
 all_goals exact Qz3
def QE5 (r j:Nat) (C0 X T B O L W:List SV):St :=
 ⟨[(0,.a (.s (.ptr 0 0))),(14,.a (.s (.ptr 10 0))),(99,.a (.s (.sl 9 0 r))),(100,.a (.s (.i r))),(101,.a (.s (.i j)))],
  [(0,some ⟨true,1,C0⟩),(1,none),(2,none),(3,none),(4,none),(5,some ⟨true,1,X⟩),(6,some ⟨true,4,T⟩),(7,some ⟨true,3,B⟩),(8,some ⟨true,4,O⟩),(9,some ⟨true,1,L⟩),(10,some ⟨true,1,W⟩)],[0]⟩
theorem QG8 (M:Mc) (T:List Te) (o:List (List SV)) (f:Nat) (l:List Nat) (Ez:Eg) :
  ∀ (j:Nat) (B:List Bk) (s:Bool),j<l.length->QiS (l.drop j) ⟨M,T,B,o,f,s⟩=Ez->QiS (l.drop (j+1)) (wrt (l.getD j 0) ⟨M,T,B,o,f,s⟩)=Ez:=by
 intro j B s hj hf
 have hd:l.drop j=l.getD j 0::l.drop (j+1):=by
  have:l[j]?=some (l.getD j 0):=by rw [zgd,zgg hj];rfl
  exact Qcn l j _ this
 rw [hd] at hf;exact hf
theorem Qy2 (E:Eg) (hE:E.ok) (va sz:Nat) (ac:Int) (gX:ZU va) (qA:sz=1\/sz=4) (h:va%sz=0) (hp:Qdf (E.M.c.getD 0 0)=true) (hh:Qos E.T (va / 128) ac=none) (hw:Qbo E.M.m E.M.m.length (cR E.M) va ac=true) :
  FN 90 [.s (.ptr 0 0),.s (.u va),.s (.u sz),.s (.i ac)] E.H (. =(QiS (Qd2 E.M.m (Qbt E.M.m E.M.m.length (cR E.M) va ac) E.M.m.length) { E with T:=QcI E.T E.M.m E.M.m.length (cR E.M) va ac,M:= { E.M with m:=Qbt E.M.m E.M.m.length (cR E.M) va ac } }:Eg).R (.tup [.s (.u (frW (QaR E.M.m (cR E.M) va)*128+va%128:Nat)),.s (.bool true)])):=by
 have fW:=Qgl E hE;rw [hp] at fW;have uE:FN 151 [.s (.sl 0 0 E.T.length),.s (.u (va / 128:Nat)),.s (.i ac)] [⟨false,4,tes E.T⟩] (. =⟨.tup [.s (.u 0),.s (.sl 1 0 E.T.length),.s (.bool false)],[],[⟨true,4,tes E.T⟩]⟩):=QjG E.T (by have:=hE.tl;omega) (va / 128) ac hh;have zK:=QmZ E.T _ rfl (by have:=hE.tl;omega) E.M.m E.M.m.length (cR E.M) va ac ⟨rfl,hE.M.mr⟩ (by have:=hE.M.ml;omega) (Qab hE.M.cr 6) gX;have HI:=QdD E hE;have YX:QfK E.M.m E.M.m.length (cR E.M) va ac= [.u (frW (QaR E.M.m (cR E.M) va)*128+va%128:Nat),.u (Qa9 (cR E.M) va:Nat),.i 0]:=by unfold QfK;rw [zP hw]
 have hX:XB E.M.m E.M.m.length:=⟨rfl,hE.M.mr⟩;have HP:=Qif (r:=cR E.M) (va:=va) (ac:=ac) hX;have WA:=Qk6 (t:=E.T) (xs:=E.M.m) (n:=E.M.m.length) (r:=cR E.M) (ac:=ac) hE.T gX;have YG:=QgC (t:=E.T) (xs:=E.M.m) (n:=E.M.m.length) (r:=cR E.M) (va:=va) (ac:=ac) hE.tl;have vO:=Qhy E.M.m (Qbt E.M.m E.M.m.length (cR E.M) va ac) E.M.m.length rfl HP.1 hE.M.ml;rw [YX] at zK;clear YX hw hh;have hml0:=hE.M.ml;have wL:(⟨{ E.M with m:=Qbt E.M.m E.M.m.length (cR E.M) va ac },QcI E.T E.M.m E.M.m.length (cR E.M) va ac,E.B,E.o,E.f,E.s⟩:Eg).ok:=⟨⟨hE.M.x,hE.M.c,hE.M.xr,hE.M.cr,hE.M.pr,HP.2,by show (Qbt _ _ _ _ _).length<=_;rw [HP.1];exact hml0,hE.M.dk,hE.M.nk,hE.M.dv⟩,WA,YG,hE.B,hE.bl,hE.o,hE.ol,hE.f⟩;have gK:(Qd2 E.M.m (Qbt E.M.m E.M.m.length (cR E.M) va ac) E.M.m.length).length<=32:=Nat.le_trans (Ql9 _ _ _ _) (QaT _)
 have gU:∀ i∈Qd2 E.M.m (Qbt E.M.m E.M.m.length (cR E.M) va ac) E.M.m.length,i<4294967296:=fun i hi=>by
  unfold Qd2 at hi;rw [Qh7] at hi;have:=QaT E.M.m.length;omega
 have hXl:=HP.1;clear HP hX WA;have hfs:=Qf3 (Qd2 E.M.m (Qbt E.M.m E.M.m.length (cR E.M) va ac) E.M.m.length);have GT:=fun j fr h=>Qqs (Qd2 E.M.m (Qbt E.M.m E.M.m.length (cR E.M) va ac) E.M.m.length) j fr h
 generalize Qd2 E.M.m (Qbt E.M.m E.M.m.length (cR E.M) va ac) E.M.m.length=l at *;have YU:=Qaa (Qbt E.M.m E.M.m.length (cR E.M) va ac);have UG:=Qae (QcI E.T E.M.m E.M.m.length (cR E.M) va ac);generalize Qbt E.M.m E.M.m.length (cR E.M) va ac=X,QcI E.T E.M.m E.M.m.length (cR E.M) va ac=T',frW (QaR E.M.m (cR E.M) va)*128+va%128=A1,Qa9 (cR E.M) va=A2 at *;have wO:=fun B s h fr=>Qcl ⟨{ E.M with m:=X },T',B,E.o,E.f,s⟩ h fr
 have hwo:=fun B s (h:(⟨{ E.M with m:=X },T',B,E.o,E.f,s⟩:Eg).ok) fr=>Qe1 h fr
 have gW:=QG8 { E.M with m:=X } T' E.o E.f l;obtain ⟨Ez,JH⟩:∃ Ez,QiS l { E with T:=T',M:= { E.M with m:=X } }=Ez:=⟨_,rfl⟩;rw [JH];have gW:=gW Ez;have jL:QiS (l.drop 0) ⟨{ E.M with m:=X },T',E.B,E.o,E.f,E.s⟩=Ez:=JH;have fD:=Qaa E.M.m;have gO:=Qae E.T;have gZ:=Qac E.B;have fY:=(Qax hE.o).2.1;obtain ⟨hM,hT,_,_,_,_,_,uA⟩:=hE;obtain ⟨M,T,B,o,f,s⟩:=E;dsimp only [Eg.H,Eg.R,Eg.Rk,Eg.C,wrt] at *;obtain ⟨hx,hc,hY,gA,gH,gB,gI,gE,gD,gG⟩:=hM;obtain ⟨x,pc,c,m,ks,ta,td,tf,d,n,bt,bg,ct,wt,ht⟩:=M;dsimp only at *;obtain ⟨x0,x1,x2,x3,x4,x5,x6,x7,x8,x9,x10,x11,x12,x13,x14,x15,rfl⟩:=Qem hx;obtain ⟨c0,c1,c2,c3,c4,c5,c6,c7,rfl⟩:=QfC hc;obtain ⟨d0,d1,d2,d3,d4,d5,d6,d7⟩:=d;obtain ⟨n0,n1,n2,n3,n4,n5⟩:=n;dsimp only [Mc.C,Mc.D,Dk.C,Nk.C,Dk.ok,Nk.ok] at *
 try dsimp only [cR,Mc.C,Mc.D,Dk.C,Nk.C] at *
 try simp only [Qaf,zca,zna,List.getD_cons_succ,List.getD_cons_zero] at *
 generalize gP:wsv m=XX,hX3:bks B=BB,hX4:OLs o=OO,gJ:m.length=nn,gM:B.length=bn,gQ:o.length=on,gV:tes T=TT,htn:T.length=tn,hXX2:wsv X=X2 at *;generalize hTT2:tes T'=T2,YC:frs l=LL,hXl3:X.length=xn at *;have hXl:=hXl.symm;subst hXl;generalize ht2n:T'.length=t2n,uW:l.length=rl at *;have tm1:Int.tmod (va:Int) (sz:Int)=((va%sz:Nat):Int):=Qku;generalize UI:va%sz=vs at *;have tm2:Int.tmod (va:Int) 128=((va%128:Nat):Int):=Qku;have dv2:Int.tdiv (va:Int) 128=((va / 128:Nat):Int):=QfU;have dv3:IntKind.u32.wrap (Int.tdiv (va:Int) 128)=((va / 128:Nat):Int):=QAe;have KI:((vs:Nat):Int)=0:=by omega
 generalize va%128=V0,va / 128=V1 at *;clear gP gV hY gA gH gB gI gE gD gG hT JH;refine fnW Tryz.func90 ?_;(conv=>whnf);(repeat' ((first|exact zi2|refine zj0 fun hb=>?_|(with_reducible first|refine zv tm1 ?_|refine zv dv3 ?_)|(refine Qaw fW ?_)|(refine QaA uE ?_)|(refine Qaw HI ?_)|(refine QfS zK ?_)|(refine QfS vO ?_)|refine zse ?_|refine zbb ?_ ?_)<;>conv=>whnf))
 all_goals first|(exfalso;simp at hb;omega)|skip
 refine Lp.inv (fun mm σ=>∃ (j:Nat) (B:List Bk) (s:Bool),mm+j=rl/\(⟨⟨[x0,x1,x2,x3,x4,x5,x6,x7,x8,x9,x10,x11,x12,x13,x14,x15],pc,[c0,c1,c2,c3,c4,c5,c6,c7],X,ks,ta,td,tf,⟨d0,d1,d2,d3,d4,d5,d6,d7⟩,⟨n0,n1,n2,n3,n4,n5⟩,bt,bg,ct,wt,ht⟩,T',B,o,f,s⟩:Eg).ok/\QiS (l.drop j) ⟨⟨[x0,x1,x2,x3,x4,x5,x6,x7,x8,x9,x10,x11,x12,x13,x14,x15],pc,[c0,c1,c2,c3,c4,c5,c6,c7],X,ks,ta,td,tf,⟨d0,d1,d2,d3,d4,d5,d6,d7⟩,⟨n0,n1,n2,n3,n4,n5⟩,bt,bg,ct,wt,ht⟩,T',B,o,f,s⟩=Ez/\σ=QE5 rl j [.u x0,.u x1,.u x2,.u x3,.u x4,.u x5,.u x6,.u x7,.u x8,.u x9,.u x10,.u x11,.u x12,.u x13,.u x14,.u x15,.u pc,.u c0,.u c1,.u c2,.u c3,.u c4,.u c5,.u c6,.u c7,.sl 5 0 nn,.str ks,.bool ta,.u td,.bool tf,.u d0,.u d1,.u d2,.i d3,.i d4,.u d5,.u d6,.str d7,.u n0,.u n1,.bool n2,.u n3,.bool n4,.u n5,.u bt,.u bg,.w ct,.bool wt,.bool ht,.sl 6 0 t2n,.sl 7 0 B.length,.sl 8 0 on,.i f,.bool s] X2 T2 (bks B) OO LL [.u A1,.u A2,.i 0]) ?_ ?_
 .refine ⟨rl,QE5 rl 0 [.u x0,.u x1,.u x2,.u x3,.u x4,.u x5,.u x6,.u x7,.u x8,.u x9,.u x10,.u x11,.u x12,.u x13,.u x14,.u x15,.u pc,.u c0,.u c1,.u c2,.u c3,.u c4,.u c5,.u c6,.u c7,.sl 5 0 nn,.str ks,.bool ta,.u td,.bool tf,.u d0,.u d1,.u d2,.i d3,.i d4,.u d5,.u d6,.str d7,.u n0,.u n1,.bool n2,.u n3,.bool n4,.u n5,.u bt,.u bg,.w ct,.bool wt,.bool ht,.sl 6 0 t2n,.sl 7 0 bn,.sl 8 0 on,.i f,.bool s] X2 T2 BB OO LL [.u A1,.u A2,.i 0],?_,0,B,s,by omega,wL,jL,by rw [hX3,gM];try rfl⟩
  (exact zwV [(0,some 0),(1,some 1),(2,some 2),(3,some 3),(4,some 4),(5,some 459393),(6,some 459392),(7,some 3),(8,some 4),(9,some 655488),(10,some 459712)])
 rintro mm σ ⟨j,B,s,yT,hok,hf,rfl⟩;unfold QE5;have WP:=Qac B
 by_cases hj:j<rl
 .have uA:=gW j B s hj hf
  have g0:=GT j (l.getD j 0) (by rw [zgd,zgg (by omega)];rfl);have ca:=wO B s hok (l.getD j 0);have hok2:=hwo B s hok (l.getD j 0);have jB:=gU (l.getD j 0) (by rw [zgd,zgg (by omega)];exact List.getElem_mem _)
  try dsimp only [cR,wrt,Mc.C,Mc.D,Dk.C,Nk.C] at ca uA hok2
  try simp only [Qaf,zca,zna,List.getD_cons_succ,List.getD_cons_zero] at ca
  have hsB2:=Qac (B.filter (fun b=>decide (fk b≠((l.getD j 0:Nat):Int))));have q2:IntKind.i64.wrap ((j:Int)+1)=((j+1:Nat):Int):=QaS;have ix1:0+((j:Nat):Int).toNat * ty3.size=j:=QAd;generalize l.getD j 0=fr at *;generalize gO:(s||decide (fr=f))=s2,GM:B.filter (fun b=>decide (fk b≠((fr:Nat):Int)))=Bf,JF:bks B=BB3 at *;generalize wW:bks Bf=BB2,B.length=bn3,hbfn:Bf.length=bfn at *;clear gW wO hwo GT hok hf jL wL HI vO zK uE fW;(conv=>whnf);(repeat' ((first|exact zi2|refine zj0 fun hb=>?_|refine QhW ?_|refine Qwv ?_|refine Qm7 ?_|refine Qew ?_|(refine Qaw ca ?_)|refine zse ?_|refine zbb ?_ ?_)<;>conv=>whnf))
  all_goals first
   | (exfalso;simp at hb;omega)
   | (
     refine ⟨mm-1,QE5 rl (j+1) [.u x0,.u x1,.u x2,.u x3,.u x4,.u x5,.u x6,.u x7,.u x8,.u x9,.u x10,.u x11,.u x12,.u x13,.u x14,.u x15,.u pc,.u c0,.u c1,.u c2,.u c3,.u c4,.u c5,.u c6,.u c7,.sl 5 0 nn,.str ks,.bool ta,.u td,.bool tf,.u d0,.u d1,.u d2,.i d3,.i d4,.u d5,.u d6,.str d7,.u n0,.u n1,.bool n2,.u n3,.bool n4,.u n5,.u bt,.u bg,.w ct,.bool wt,.bool ht,.sl 6 0 t2n,.sl 7 0 bfn,.sl 8 0 on,.i f,.bool s2] X2 T2 BB2 OO LL [.u A1,.u A2,.i 0],by omega,?_,j+1,Bf,s2,by omega,hok2,uA,by rw [wW,hbfn];try rfl⟩
     (exact zwV [(0,some 0),(1,some 1),(2,some 2),(3,some 3),(4,some 4),(5,some 196736),(6,some 196737),(7,some 196738),(8,some 196739),(9,some 9),(10,some 10)]))
 .obtain rfl:j=rl:=by omega
  rw [List.drop_eq_nil_of_le (by omega)] at hf;change (⟨_,T',B,o,f,s⟩:Eg)=Ez at hf;subst hf;dsimp only [Eg.C,Mc.C,Mc.D,Dk.C,Nk.C];simp only [Qaf,zca,zna];rw [hXl3,gQ,hXX2,hX4,hTT2,ht2n];clear gW wO hwo GT hok jL wL HI vO zK uE fW;generalize JF:bks B=BB3,B.length=bn3 at *;exact QEC
theorem QfG (E:Eg) (hE:E.ok) (va sz:Nat) (ac:Int) (gX:ZU va) (qA:sz=1\/sz=4) :
  FN 90 [.s (.ptr 0 0),.s (.u va),.s (.u sz),.s (.i ac)] E.H (. =(rsv E va sz ac).1.R (.tup [.s (.u ((rsv E va sz ac).2.1:Nat)),.s (.bool (rsv E va sz ac).2.2)])):=by
 unfold rsv
 by_cases h:va%sz=0
 .rw [zN (fun h2=>h2 h)]
  by_cases hp:Qdf (E.M.c.getD 0 0)=false
  .rw [zP hp]
   exact QyZ E hE va sz ac gX qA h hp
  .rw [zN hp]
   have uU:Qdf (E.M.c.getD 0 0)=true:=by cases q:Qdf (E.M.c.getD 0 0) with|true=>rfl|false=>exact absurd q hp
   cases hh:Qos E.T (va / 128) ac with
   | some q=>obtain ⟨i,e⟩:=q;exact Qy0 E hE va sz ac gX qA h uU i e hh
   | none =>
    dsimp only
    by_cases hw:Qbo E.M.m E.M.m.length (cR E.M) va ac=true
    .rw [zP hw]
     exact Qy2 E hE va sz ac gX qA h uU hh hw
    .rw [zN hw]
     exact Qy1 E hE va sz ac gX qA h uU hh (by cases q:Qbo E.M.m E.M.m.length (cR E.M) va ac with|true=>exact absurd q hw|false=>rfl)
 .rw [zP h]
  exact QyY E hE va sz ac gX qA h
theorem QhN (E:Eg) (hE:E.ok) (va sz:Nat) (ac:Int) (gX:ZU va):∃ (X:List Nat) (T1:List Te) (B1:List Bk) (s1:Bool),(rsv E va sz ac).1=⟨{ E.M with m:=X },T1,B1,E.o,E.f,s1⟩/\X.length=E.M.m.length/\(rsv E va sz ac).1.ok/\((rsv E va sz ac).2.2=false->(rsv E va sz ac).1=E):=by
 unfold rsv
 by_cases h:va%sz≠0
 .rw [zP h];exact ⟨E.M.m,E.T,E.B,E.s,rfl,rfl,hE,fun _=>rfl⟩
 rw [zN h]
 by_cases hp:Qdf (E.M.c.getD 0 0)=false
 .rw [zP hp];exact ⟨E.M.m,E.T,E.B,E.s,rfl,rfl,hE,fun _=>rfl⟩
 rw [zN hp]
 cases hh:Qos E.T (va / 128) ac with
 | some q =>
  obtain ⟨i,e⟩:=q;obtain ⟨g1,_⟩:=Qik hh;exact ⟨E.M.m,QbB E.T i e,E.B,E.s,rfl,rfl,⟨hE.M,fun x hx=>hE.T x ((QgG E.T i e g1 x).1 hx),by show (QbB E.T i e).length<=8;rw [QeL E.T i e g1];exact hE.tl,hE.B,hE.bl,hE.o,hE.ol,hE.f⟩,fun h=>by cases h⟩
 | none =>
  dsimp only
  by_cases hw:Qbo E.M.m E.M.m.length (cR E.M) va ac=true
  .rw [zP hw]
   have hX:XB E.M.m E.M.m.length:=⟨rfl,hE.M.mr⟩;have HP:=Qif (r:=cR E.M) (va:=va) (ac:=ac) hX;have WA:=Qk6 (t:=E.T) (xs:=E.M.m) (n:=E.M.m.length) (r:=cR E.M) (ac:=ac) hE.T gX;have YG:=QgC (t:=E.T) (xs:=E.M.m) (n:=E.M.m.length) (r:=cR E.M) (va:=va) (ac:=ac) hE.tl;have gI:=hE.M.ml;have zV:Eg.ok { E with T:=QcI E.T E.M.m E.M.m.length (cR E.M) va ac,M:= { E.M with m:=Qbt E.M.m E.M.m.length (cR E.M) va ac } }:=⟨⟨hE.M.x,hE.M.c,hE.M.xr,hE.M.cr,hE.M.pr,HP.2,by show (Qbt _ _ _ _ _).length<=_;rw [HP.1];exact gI,hE.M.dk,hE.M.nk,hE.M.dv⟩,WA,YG,hE.B,hE.bl,hE.o,hE.ol,hE.f⟩;have VH:=QsC (Qd2 E.M.m (Qbt E.M.m E.M.m.length (cR E.M) va ac) E.M.m.length) zV;obtain ⟨k1,_,k3,k4,_⟩:=Qwr (Qd2 E.M.m (Qbt E.M.m E.M.m.length (cR E.M) va ac) E.M.m.length) { E with T:=QcI E.T E.M.m E.M.m.length (cR E.M) va ac,M:= { E.M with m:=Qbt E.M.m E.M.m.length (cR E.M) va ac } };generalize QiS (Qd2 E.M.m (Qbt E.M.m E.M.m.length (cR E.M) va ac) E.M.m.length) { E with T:=QcI E.T E.M.m E.M.m.length (cR E.M) va ac,M:= { E.M with m:=Qbt E.M.m E.M.m.length (cR E.M) va ac } }=E' at *;obtain ⟨_,T',B',_,_,s'⟩:=E';dsimp only at k1 k3 k4;subst k1 k3 k4;exact ⟨_,T',B',s',rfl,HP.1,VH,fun h=>by cases h⟩
  .rw [zN hw];exact ⟨E.M.m,E.T,E.B,E.s,rfl,rfl,hE,fun _=>rfl⟩
theorem Qla (x:Nat):∀ (t:List Bk) (k:Nat),(0<=QgI x (t.map (·.A)) k->∃ (i:Nat) (b:Bk),QgI x (t.map (·.A)) k=((k+i:Nat):Int)/\t[i]?=some b/\b.A=x)/\(¬ 0<=QgI x (t.map (·.A)) k->QgI x (t.map (·.A)) k= -1)
 | [],k=>⟨fun h=>by change (0:Int)<= -1 at h;omega,fun _=>rfl⟩
 | b::l,k=>by
  by_cases hp:b.A=x
  .have hu:QgI x ((b::l).map (·.A)) k=(k:Int):=by show (if _ then _ else _)=_;rw [zP hp]
   rw [hu];exact ⟨fun _=>⟨0,b,rfl,rfl,hp⟩,fun h=>by omega⟩
  .have hu:QgI x ((b::l).map (·.A)) k=QgI x (l.map (·.A)) (k+1):=by show (if _ then _ else _)=_;rw [zN hp]
   rw [hu];obtain ⟨h1,h2⟩:=Qla x l (k+1);refine ⟨fun h=>?_,h2⟩;obtain ⟨i,e',g1,g2,g3⟩:=h1 h;exact ⟨i+1,e',by rw [g1];congr 1;omega,g2,g3⟩
theorem QxK (E:Eg) (hE:E.ok) (a:Nat) (ha:ZU a) (i:Nat) (b:Bk) (hb:E.B[i]?=some b) (hi:QgI a (E.B.map (·.A)) 0=(i:Int)) :
  FN 91 [.s (.ptr 0 0),.s (.u a)] E.H (. =({ E with B:=Qbd E.B i b }:Eg).R (.a (.agg b.C))):=by
 have hfd:=QtL E.B _ rfl (by have:=hE.bl;omega) hE.B a i b hb hi
 have uC:(Qbd E.B i b).length=E.B.length:=by
  have gU:=(zgs.1 hb).1;unfold Qbd;rw [List.length_cons,zla,List.length_take,List.length_drop];omega
 have UF:=Qac (Qbd E.B i b);have fD:=Qaa E.M.m;have gO:=Qae E.T;have gZ:=Qac E.B;have fY:=(Qax hE.o).2.1;obtain ⟨hM,hT,_,hB,_,ho,_,_⟩:=hE;obtain ⟨M,T,B,o,_,s⟩:=E;dsimp only [Eg.H,Eg.R,Eg.Rk,Eg.C,wrt] at *;rw [uC];generalize VQ:bks (Qbd B i b)=B2,hX3:bks B=BB,gM:B.length=bn at *;obtain ⟨A,_,l⟩:=b;dsimp only [Bk.C] at *;generalize l.length=NL,mzs l=ML at *;obtain ⟨hx,hc,hY,gA,gH,gB,gI,gE,gD,gG⟩:=hM;obtain ⟨_,_,_,m,_,_,_,_,d,n⟩:=M;dsimp only at *;cases QaJ hx;cases zC8 hc;cases d;cases n;dsimp only [Mc.C,Mc.D,Dk.C,Nk.C,Dk.ok,Nk.ok] at *
 try dsimp only [cR,Mc.C,Mc.D,Dk.C,Nk.C] at *
 try simp only [Qaf,zca,zna,List.getD_cons_succ,List.getD_cons_zero] at *
 generalize gP:wsv m=XX,tes T=TT,hX4:OLs o=OO,gJ:m.length=nn,T.length=tn,gQ:o.length=on at *;clear gP hX3 hX4 gJ gM gQ hT hB ho hY gA gH gB gI gE gD gG hi hb uC VQ;refine fnW Tryz.func91 ?_;(conv=>whnf);(repeat' ((first|exact zi2|refine zj0 fun hb=>?_|(refine QaA hfd ?_)|refine zse ?_|refine zbb ?_ ?_)<;>conv=>whnf))
 all_goals first|(apply Fin.mv (m:= [(0,some 0),(1,some 1),(2,some 2),(3,some 3),(4,some 4),(5,some 1),(6,some 2),(7,some 131456),(8,some 4)]);(focus exact rfl);(all_goals ((try (show QcE _ _ _ [] _));first|exact aFi|exact rfl)))
theorem QxL (E:Eg) (hE:E.ok) (a:Nat) (ha:ZU a) (hi:QgI a (E.B.map (·.A)) 0= -1) :
  FN 91 [.s (.ptr 0 0),.s (.u a)] E.H (. =({ E with B:=Qkz E.B (fdB E.M.m E.M.m.length a 16) }:Eg).R (.a (.agg (fdB E.M.m E.M.m.length a 16).C))):=by
 have hfd:=QxI E.B _ rfl (by have:=hE.bl;omega) hE.B a hi;obtain ⟨F,_,_,_,hF,VU,_,cb,cf⟩:=Qvy E.M.m E.M.m.length rfl (by have:=hE.M.ml;omega) hE.M.mr a ha;rw [<- hF];have qB:=QqE E.B _ rfl (by have:=hE.bl;omega) hE.B F VU _ rfl _ rfl;have UF:=Qac (Qkz E.B F);have fD:=Qaa E.M.m;have gO:=Qae E.T;have gZ:=Qac E.B;have fY:=(Qax hE.o).2.1;obtain ⟨hM,hT,_,hB,_,ho,_,_⟩:=hE;obtain ⟨M,T,B,o,_,s⟩:=E;dsimp only [Eg.H,Eg.R,Eg.Rk,Eg.C,wrt] at *;generalize VQ:bks (Qkz B F)=B2,hb2:(Qkz B F).length=b2n,hX3:bks B=BB,gM:B.length=bn at *;clear hF VU;obtain ⟨A,_,l⟩:=F;dsimp only [Bk.C] at *;generalize l.length=NL,mzs l=ML at *;obtain ⟨hx,hc,hY,gA,gH,gB,gI,gE,gD,gG⟩:=hM;obtain ⟨_,_,_,m,_,_,_,_,d,n⟩:=M;dsimp only at *;cases QaJ hx;cases zC8 hc;cases d;cases n;dsimp only [Mc.C,Mc.D,Dk.C,Nk.C,Dk.ok,Nk.ok] at *
 try dsimp only [cR,Mc.C,Mc.D,Dk.C,Nk.C] at *
 try simp only [Qaf,zca,zna,List.getD_cons_succ,List.getD_cons_zero] at *
 generalize gP:wsv m=XX,tes T=TT,hX4:OLs o=OO,gJ:m.length=nn,T.length=tn,gQ:o.length=on at *;clear gP hX3 hX4 gJ gM gQ hT hB ho hY gA gH gB gI gE gD gG hi VQ hb2;refine fnW Tryz.func91 ?_;(conv=>whnf);(repeat' ((first|exact zi2|refine zj0 fun hb=>?_|(refine QaA hfd ?_)|(refine QaA cb ?_)|(refine QaA cf ?_)|(refine QaA qB ?_)|refine zse ?_|refine zbb ?_ ?_)<;>conv=>whnf))
 all_goals first|(apply Fin.mv (m:= [(0,some 0),(1,some 1),(2,some 2),(3,some 3),(4,some 4),(5,some 1),(6,some 2),(7,some 328128),(8,some 4)]);(focus exact rfl);(all_goals ((try (show QcE _ _ _ [] _));first|exact aFi|exact rfl)))
theorem QBY (E:Eg) (hE:E.ok) (a:Nat) (ha:ZU a):FN 91 [.s (.ptr 0 0),.s (.u a)] E.H (. =(fnd E a).1.R (.a (.agg (fnd E a).2.C))):=by
 obtain ⟨h1,h2⟩:=Qla a E.B 0
 by_cases h0:0<=QgI a (E.B.map (·.A)) 0
 .obtain ⟨i,b,g1,g2,_⟩:=h1 h0
  rw [Nat.zero_add] at g1;have hu:(QgI a (E.B.map (·.A)) 0).toNat=i:=by rw [g1];omega
  unfold fnd;rw [hu,g2];dsimp only;rw [zP h0];exact QxK E hE a ha i b g2 g1
 .have hm:=QxL E hE a ha (h2 h0)
  unfold fnd;split
  .rw [zN h0];exact hm
  .exact hm
end Go.Proofs.YtpgkkfajljekpabGreat
