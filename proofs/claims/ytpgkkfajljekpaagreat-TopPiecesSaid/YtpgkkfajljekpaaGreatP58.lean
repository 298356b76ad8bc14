import Derived.Test.YtpgkkfajljekpaaGreatP36
set_option linter.unusedSimpArgs false
set_option linter.unusedVariables false
set_option maxHeartbeats 0
set_option maxRecDepth 100000
namespace Go.Proofs.YtpgkkfajljekpaaGreat
open Go Go.RowKit
theorem Qdx (E:Eg) (hE:E.ok):FN 209 [.s (.ptr 0 0)] [⟨true,1,E.C 1 2 3 4⟩,⟨true,1,wsv E.M.m⟩,⟨true,4,tes E.T⟩,⟨true,3,bks E.B⟩,⟨true,4,OLs E.o⟩] (. =⟨.a (.s (.u (cR E.M:Nat))),[],[]⟩):=by
 have fH:=Qaa E.M.m;have gY:=Qah E.T;have fI:=Qae E.B;have qM:=(QaA hE.o).2.1;obtain ⟨hM,hT,_,hB,_,ho,_,_⟩:=hE;obtain ⟨M,T,B,o,_,s⟩:=E;unfold cR;dsimp only at *;obtain ⟨hx,hc,hY,gA,gH,gB,gI,gD,gE,gF⟩:=hM;obtain ⟨_,_,_,m,_,_,_,_,d,n⟩:=M;dsimp only at *;cases QJP hx;cases zC8 hc;cases d;cases n;dsimp only [Mc.C,Mc.D,Dk.C,Nk.C,Dk.ok,Nk.ok] at *;generalize gO:wsv m=XX,gU:tes T=TT,hX3:bks B=BB,hX4:OLs o=OO at *
 try dsimp only [Eg.H,Eg.R,Eg.C,wrt,fnE,Qda,Mc.C,Mc.D,Dk.C,Nk.C] at *
 try simp only [Qaf,zca,zna] at *
 generalize m.length=nn,T.length=tn,B.length=bn,o.length=on at *;clear gO gU hX3 hX4 hT hB ho hY gA gH gB gI gD gE gF;refine fnW Tryz.func209 ?_;(repeat' ((conv=>whnf);first|exact zi0|(refine zj0 ?_;intro hb)|refine zst ?_|refine zbb ?_ ?_));all_goals (conv=>whnf)
 all_goals first|(apply Fin.mk (m:= [(0,some 0),(1,some 1),(2,some 2),(3,some 3),(4,some 4)]);(focus exact rfl);(all_goals ((try (show HlS _ _ [] _));first|(exact aFi)|exact rfl)))
theorem Qgf (E:Eg) (hE:E.ok):FN 206 [.s (.ptr 0 0)] [⟨true,1,E.C 1 2 3 4⟩,⟨true,1,wsv E.M.m⟩,⟨true,4,tes E.T⟩,⟨true,3,bks E.B⟩,⟨true,4,OLs E.o⟩] (. =⟨.a (.s (.bool (Qdb (E.M.c.getD 0 0)))),[],[]⟩):=by
 have fH:=Qaa E.M.m;have gY:=Qah E.T;have fI:=Qae E.B;have qM:=(QaA hE.o).2.1;obtain ⟨hM,hT,_,hB,_,ho,_,_⟩:=hE;have h0:=Qab hM.cr 0;obtain ⟨M,T,B,o,_,s⟩:=E;dsimp only at *;obtain ⟨hx,hc,hY,gA,gH,gB,gI,gD,gE,gF⟩:=hM;obtain ⟨_,_,c,m,_,_,_,_,d,n⟩:=M;dsimp only at *;cases QJP hx;obtain ⟨c0,_,_,_,_,_,_,_,rfl⟩:=Qek hc;cases d;cases n;dsimp only [Mc.C,Mc.D,Dk.C,Nk.C,Dk.ok,Nk.ok] at *;generalize gO:wsv m=XX,gU:tes T=TT,hX3:bks B=BB,hX4:OLs o=OO at *
 try dsimp only [Eg.H,Eg.R,Eg.C,wrt,fnE,Qda,Mc.C,Mc.D,Dk.C,Nk.C] at *
 try simp only [Qaf,zca,zna] at *
 simp only [List.getD_cons_zero] at h0 |-;have e1:=QlM c0 h0;have e4:=Qvg c0 h0;unfold Qdb;generalize m.length=nn,T.length=tn,B.length=bn,o.length=on at *;clear gO gU hX3 hX4 hT hB ho hY gA gH gB gI gD gE gF;obtain ⟨_,yW⟩:∃ k,c0%2=k:=⟨_,rfl⟩;obtain ⟨_,jE⟩:∃ k,c0 / 4%2=k:=⟨_,rfl⟩;rw [yW] at e1 |-;rw [jE] at e4 |-;refine fnW Tryz.func206 ?_;(repeat' ((conv=>whnf);first|exact zi2|(refine zj0 ?_;intro hb)|(with_reducible first|refine zv e1 ?_|refine zv e4 ?_)|refine zse ?_|refine zbb ?_ ?_));all_goals (conv=>whnf)
 all_goals first
  | (refine QcF ?_ ?_;(focus (apply Fin.mk (m:= [(0,some 0),(1,some 1),(2,some 2),(3,some 3),(4,some 4)]);(focus exact rfl);(all_goals ((try (show HlS _ _ [] _));first|(exact aFi)|exact rfl))));symm;first|exact zdf (by omega)|exact zdt (by omega)|(rw [zbi];simp;done)|(rw [zbi];simp;omega)|(rw [zbi];simp;grind))
theorem Qpt (o:Int) (a b:Nat) (ha:a<4294967296) (fV:b<4294967296):FN 216 [.s (.i o),.s (.u a),.s (.u b)] [] (. =⟨.a (.s (.bool (Qdf o a b))),[],[]⟩):=by
 refine fnW Tryz.func216 ?_;exact QIx
theorem QcN (o:Int):FN 270 [.s (.i o)] [] (. =⟨.a (.s (.u (szO o:Nat))),[],[]⟩):=by
 unfold szO;refine fnW Tryz.func270 ?_;(repeat' ((conv=>whnf);first|exact zi0|(refine zj0 ?_;intro hb)|refine zs0 ?_|refine zbb ?_ ?_));all_goals (conv=>whnf)
 all_goals first|(refine Qan rfl ?_;first|(simp_all;done)|(rw [zP (by omega)];rfl)|(rw [zN (by omega)];rfl))
theorem QlE (E:Eg) (hE:E.ok) (fr:Nat) (jF:fr=E.f):FN 211 [.s (.ptr 0 0),.s (.i (fr:Nat))] E.H (. =(wrt fr E).R (.tup [])):=by
 have ci:=QeO E.B _ rfl (by have:=hE.bl;omega) hE.B (fr:Int) _ rfl _ rfl;have fP:=Qae (E.B.filter (fun b=>decide (fk b≠(fr:Int))));have fH:=Qaa E.M.m;have gY:=Qah E.T;have fI:=Qae E.B;have qM:=(QaA hE.o).2.1;obtain ⟨hM,hT,_,hB,_,ho,_,_⟩:=hE;obtain ⟨M,T,B,o,f,s⟩:=E;dsimp only [Eg.H,Eg.R,Eg.C,wrt] at *;generalize VU:B.filter (fun b=>decide (fk b≠(fr:Int)))=B2 at *;obtain ⟨hx,hc,hY,gA,gH,gB,gI,gD,gE,gF⟩:=hM;obtain ⟨_,_,_,m,_,_,_,_,d,n⟩:=M;dsimp only at *;cases QJP hx;cases zC8 hc;cases d;cases n;dsimp only [Mc.C,Mc.D,Dk.C,Nk.C,Dk.ok,Nk.ok] at *;generalize gO:wsv m=XX,gU:tes T=TT,hX3:bks B=BB,hX4:OLs o=OO at *
 try dsimp only [Eg.H,Eg.R,Eg.C,wrt,fnE,Qda,Mc.C,Mc.D,Dk.C,Nk.C] at *
 try simp only [Qaf,zca,zna] at *
 generalize hX5:bks B2=BB2,gJ:m.length=nn,htn:T.length=tn,gM:B.length=bn,hb2n:B2.length=b2n,gP:o.length=on at *;have hff:((fr:Nat):Int)=(f:Int):=by omega
 rw [zdt jF,Bool.or_true];exact QDB
theorem QlD (E:Eg) (hE:E.ok) (fr:Nat) (jF:¬ fr=E.f):FN 211 [.s (.ptr 0 0),.s (.i (fr:Nat))] E.H (. =(wrt fr E).R (.tup [])):=by
 have ci:=QeO E.B _ rfl (by have:=hE.bl;omega) hE.B (fr:Int) _ rfl _ rfl;have fP:=Qae (E.B.filter (fun b=>decide (fk b≠(fr:Int))));have fH:=Qaa E.M.m;have gY:=Qah E.T;have fI:=Qae E.B;have qM:=(QaA hE.o).2.1;obtain ⟨hM,hT,_,hB,_,ho,_,_⟩:=hE;obtain ⟨M,T,B,o,f,s⟩:=E;dsimp only [Eg.H,Eg.R,Eg.C,wrt] at *;generalize VU:B.filter (fun b=>decide (fk b≠(fr:Int)))=B2 at *;obtain ⟨hx,hc,hY,gA,gH,gB,gI,gD,gE,gF⟩:=hM;obtain ⟨_,_,_,m,_,_,_,_,d,n⟩:=M;dsimp only at *;cases QJP hx;cases zC8 hc;cases d;cases n;dsimp only [Mc.C,Mc.D,Dk.C,Nk.C,Dk.ok,Nk.ok] at *;generalize gO:wsv m=XX,gU:tes T=TT,hX3:bks B=BB,hX4:OLs o=OO at *
 try dsimp only [Eg.H,Eg.R,Eg.C,wrt,fnE,Qda,Mc.C,Mc.D,Dk.C,Nk.C] at *
 try simp only [Qaf,zca,zna] at *
 generalize hX5:bks B2=BB2,gJ:m.length=nn,htn:T.length=tn,gM:B.length=bn,hb2n:B2.length=b2n,gP:o.length=on at *;have hff:¬ ((fr:Nat):Int)=(f:Int):=by omega
 rw [zdf jF,Bool.or_false];exact QDB
theorem Qck (E:Eg) (hE:E.ok) (fr:Nat):FN 211 [.s (.ptr 0 0),.s (.i (fr:Nat))] E.H (. =(wrt fr E).R (.tup [])):=by
 by_cases h:fr=E.f
 .exact QlE E hE fr h
 .exact QlD E hE fr h
theorem Qe0 {E:Eg} (hE:E.ok) (fr:Nat):(wrt fr E).ok :=
 ⟨hE.M,hE.T,hE.tl,fun b hb=>hE.B b (List.mem_filter.1 hb).1,Nat.le_trans (List.length_filter_le _ _) hE.bl,hE.o,hE.ol,hE.f⟩
theorem QrZ {E:Eg} (hE:E.ok) (i:Nat):(QcI E i).ok:=by
 have h:=Qe0 hE i;unfold QcI;split
 .exact ⟨h.M,QiS,Nat.zero_le _,h.B,h.bl,h.o,h.ol,h.f⟩
 .exact h
def QsJ (r j:Nat) (C0 W0 X T B O L:List SV):St :=
 ⟨[(0,.a (.s (.ptr 0 0))),(25,.a (.s (.sl 10 0 r))),(26,.a (.s (.i r))),(27,.a (.s (.i j)))],
  [(0,some ⟨true,1,C0⟩),(1,none),(2,none),(3,none),(4,none),(5,some ⟨false,1,W0⟩),(6,some ⟨true,1,X⟩),(7,some ⟨true,4,T⟩),(8,some ⟨true,3,B⟩),(9,some ⟨true,4,O⟩),(10,some ⟨true,1,L⟩)],[0]⟩
theorem Qqg (l:List Nat) (j fr:Nat) (h:l[j]?=some fr):(frs l)[j]?=some (.i (fr:Nat)):=by
 unfold frs isv;rw [zgm,zgm,h];rfl
theorem Qzm (M0:Mc) (E:Eg) (hE:E.ok) (hl:M0.m.length=E.M.m.length) (hx:E.M.x.length=16) (hc:E.M.c.length=8) (l:List Nat) (hl2:l.length<=32) (gT:ZL l) (Ez:Eg) :
  ∀ (j:Nat) (T:List Te) (B:List Bk) (s:Bool),j<l.length->(⟨E.M,T,B,E.o,E.f,s⟩:Eg).ok->(l.drop j).foldl QcI ⟨E.M,T,B,E.o,E.f,s⟩=Ez ->
   ∃ (T2:List Te) (B2:List Bk) (s2:Bool),QcI ⟨E.M,T,B,E.o,E.f,s⟩ (l.getD j 0)=⟨E.M,T2,B2,E.o,E.f,s2⟩/\(⟨E.M,T2,B2,E.o,E.f,s2⟩:Eg).ok/\(l.drop (j+1)).foldl QcI ⟨E.M,T2,B2,E.o,E.f,s2⟩=Ez:=by
 intro j T B s hj hok hf
 have hd:l.drop j=l.getD j 0::l.drop (j+1):=by
  have:l[j]?=some (l.getD j 0):=by rw [zgd,zgg hj];rfl
  exact Qcm l j _ this
 rw [hd] at hf;have h1:=QrZ hok (l.getD j 0)
 have he:∀ F:Eg,∃ (T2:List Te) (B2:List Bk) (s2:Bool),QcI F (l.getD j 0)=⟨F.M,T2,B2,F.o,F.f,s2⟩:=fun F=>by
  unfold QcI;split
  .exact ⟨_,_,_,rfl⟩
  .exact ⟨_,_,_,rfl⟩
 obtain ⟨T2,B2,s2,h2⟩:=he ⟨E.M,T,B,E.o,E.f,s⟩;refine ⟨T2,B2,s2,h2,by rw [h2] at h1;exact h1,?_⟩;rw [<- hf];show _=(l.drop (j+1)).foldl QcI (QcI _ _);rw [h2]
theorem Qj2 (M0:Mc) (hM0:M0.ok) (E:Eg) (hE:E.ok) (hl:M0.m.length=E.M.m.length):FN 143 [.s (.ptr 0 0),.agg (M0.C 5)] (E.H++ [⟨false,1,wsv M0.m⟩]) (. =(stl M0 E).Rk 6 (.tup [])):=by
 have vU:=Qhs M0.m E.M.m E.M.m.length hl rfl hE.M.ml;have gK:(Qd2 M0.m E.M.m E.M.m.length).length<=32:=Nat.le_trans (QlT _ _ _ _) (QaS _)
 have gT:∀ i∈Qd2 M0.m E.M.m E.M.m.length,i<4294967296:=fun i hi=>by
  unfold Qd2 at hi;rw [QhZ] at hi;have:=QaS E.M.m.length;omega
 obtain ⟨Ez,JE⟩:∃ Ez,stl M0 E=Ez:=⟨_,rfl⟩;rw [JE];have hfs:=QfZ (Qd2 M0.m E.M.m E.M.m.length);have FH:=fun j fr h=>Qqg (Qd2 M0.m E.M.m E.M.m.length) j fr h
 have HF:=Qdx E hE;have HO:=fun T B s h=>Qdx ⟨E.M,T,B,E.o,E.f,s⟩ h
 have wU:=fun T B s h fr=>Qck ⟨E.M,T,B,E.o,E.f,s⟩ h fr
 have gV:=Qzm M0 E hE hl hE.M.x hE.M.c (Qd2 M0.m E.M.m E.M.m.length) gK gT Ez
 obtain ⟨T0,s0,hT0⟩:∃ T0 s0,Qkn (cR M0) E=⟨E.M,T0,E.B,E.o,E.f,E.s⟩/\(cR M0=cR E.M->T0=E.T)/\(¬ cR M0=cR E.M->T0= [])/\s0=E.s:=by
  unfold Qkn
  by_cases h:cR M0=cR E.M
  .exact ⟨E.T,E.s,by rw [zP h],fun _=>rfl,fun h2=>absurd h h2,rfl⟩
  .exact ⟨[],E.s,by rw [zN h],fun h2=>absurd h2 h,fun _=>rfl,rfl⟩
 obtain ⟨hT1,FY,JJ,_⟩:=hT0
 have wR:(⟨E.M,T0,E.B,E.o,E.f,E.s⟩:Eg).ok:=⟨hE.M,by
  by_cases h:cR M0=cR E.M
  .rw [FY h];exact hE.T
  .rw [JJ h];exact QiS,by
  by_cases h:cR M0=cR E.M
  .rw [FY h];exact hE.tl
  .rw [JJ h];exact Nat.zero_le _,hE.B,hE.bl,hE.o,hE.ol,hE.f⟩
 have jP:((Qd2 M0.m E.M.m E.M.m.length).drop 0).foldl QcI ⟨E.M,T0,E.B,E.o,E.f,E.s⟩=Ez:=by
  rw [<- JE];unfold stl;rw [hT1];rfl
 have hsT0:=Qah T0;have qB:=Qaa M0.m;have fH:=Qaa E.M.m;have gY:=Qah E.T;have fI:=Qae E.B;have qM:=(QaA hE.o).2.1;have hM:=hE.M;obtain ⟨_,_,_⟩:E.T.length<=8/\E.B.length<=16/\E.o.length<=900000:=⟨hE.tl,hE.bl,hE.ol⟩;have hroot:cR M0=M0.c.getD 6 0:=rfl;have hroot2:cR E.M=E.M.c.getD 6 0:=rfl;clear hE;obtain ⟨M,T,B,o,f,s⟩:=E;dsimp only [Eg.H,Eg.R,Eg.Rk,Eg.C,wrt] at *;generalize Qd2 M0.m M.m M.m.length=l at *;obtain ⟨h0x,h0c,_,_,_,_,_,_,_,_⟩:=hM0;obtain ⟨_,_,_,w,_,_,_,_,d',n'⟩:=M0;dsimp only at *;cases QJP h0x;obtain ⟨_,_,_,_,_,_,z6,_,rfl⟩:=Qek h0c;obtain ⟨_,e1,e2,e3,_,_,_,_⟩:=d';obtain ⟨g0,_,_,_,_,_⟩:=n';dsimp only [Mc.C,Mc.D,Dk.C,Nk.C] at *;rw [hl] at *;obtain ⟨hx,hc,hY,gA,gH,gB,gI,gD,gE,gF⟩:=hM;obtain ⟨x,pc,c,m,ks,ta,td,tf,d,n,bt,bg,ct,wt,ht⟩:=M;dsimp only at *;obtain ⟨x0,x1,x2,x3,x4,x5,x6,x7,x8,x9,x10,x11,x12,x13,x14,x15,rfl⟩:=QdY hx;obtain ⟨c0,c1,c2,c3,c4,c5,c6,c7,rfl⟩:=Qek hc;obtain ⟨d0,d1,d2,d3,d4,d5,d6,d7⟩:=d;obtain ⟨n0,n1,n2,n3,n4,n5⟩:=n;dsimp only [Mc.C,Mc.D,Dk.C,Nk.C,Dk.ok,Nk.ok] at *;dsimp only [cR,Mc.C,Mc.D,Dk.C,Nk.C] at *;simp only [Qaf,zca,zna,List.getD_cons_succ,List.getD_cons_zero] at *;generalize hXX:wsv m=XX,hWW:wsv w=WW,hOO:OLs o=OO,YH:frs l=LL,gJ:m.length=nn,gP:o.length=on,HD:l.length=rl at *;have hz:((z6:Nat):Int)=c6↔z6=c6:=by omega
 clear hY gA gD gE gB gF gH gI hT1 JE
 by_cases hr:z6=c6
 .have hr2:((z6:Nat):Int)=(c6:Int):=by omega
  obtain rfl:=FY hr;have WT:=Qae B;refine fnW Tryz.func143 ?_;(repeat' ((conv=>whnf);first|exact zi2|(refine zj0 ?_;intro hb)|(refine Qaw HF ?_)|(refine QiN vU ?_)|refine zse ?_|refine zbb ?_ ?_));all_goals (conv=>whnf)
  all_goals first|(exfalso;simp at hb;omega)|skip
  refine Lp.inv (fun mm σ=>∃ (j:Nat) (T:List Te) (B:List Bk) (s:Bool),mm+j=rl/\(⟨⟨[x0,x1,x2,x3,x4,x5,x6,x7,x8,x9,x10,x11,x12,x13,x14,x15],pc,[c0,c1,c2,c3,c4,c5,c6,c7],m,ks,ta,td,tf,⟨d0,d1,d2,d3,d4,d5,d6,d7⟩,⟨n0,n1,n2,n3,n4,n5⟩,bt,bg,ct,wt,ht⟩,T,B,o,f,s⟩:Eg).ok/\(l.drop j).foldl QcI ⟨⟨[x0,x1,x2,x3,x4,x5,x6,x7,x8,x9,x10,x11,x12,x13,x14,x15],pc,[c0,c1,c2,c3,c4,c5,c6,c7],m,ks,ta,td,tf,⟨d0,d1,d2,d3,d4,d5,d6,d7⟩,⟨n0,n1,n2,n3,n4,n5⟩,bt,bg,ct,wt,ht⟩,T,B,o,f,s⟩=Ez /\
    σ=QsJ rl j [.u x0,.u x1,.u x2,.u x3,.u x4,.u x5,.u x6,.u x7,.u x8,.u x9,.u x10,.u x11,.u x12,.u x13,.u x14,.u x15,.u pc,.u c0,.u c1,.u c2,.u c3,.u c4,.u c5,.u c6,.u c7,.sl 6 0 nn,.str ks,.bool ta,.u td,.bool tf,.u d0,.u d1,.u d2,.i d3,.i d4,.u d5,.u d6,.str d7,.u n0,.u n1,.bool n2,.u n3,.bool n4,.u n5,.u bt,.u bg,.w ct,.bool wt,.bool ht,.sl 7 0 T.length,.sl 8 0 B.length,.sl 9 0 on,.i f,.bool s] WW XX (tes T) (bks B) OO LL) ?_ ?_
  .refine ⟨rl,QsJ rl 0 [.u x0,.u x1,.u x2,.u x3,.u x4,.u x5,.u x6,.u x7,.u x8,.u x9,.u x10,.u x11,.u x12,.u x13,.u x14,.u x15,.u pc,.u c0,.u c1,.u c2,.u c3,.u c4,.u c5,.u c6,.u c7,.sl 6 0 nn,.str ks,.bool ta,.u td,.bool tf,.u d0,.u d1,.u d2,.i d3,.i d4,.u d5,.u d6,.str d7,.u n0,.u n1,.bool n2,.u n3,.bool n4,.u n5,.u bt,.u bg,.w ct,.bool wt,.bool ht,.sl 7 0 T0.length,.sl 8 0 B.length,.sl 9 0 on,.i f,.bool s] WW XX (tes T0) (bks B) OO LL,?_,0,_,_,_,by omega,wR,jP,rfl⟩
   (exact zwV [(0,some 0),(1,some 1),(2,some 2),(3,some 3),(4,some 4),(5,some 5),(6,some 1),(7,some 2),(8,some 3),(9,some 4),(10,some _)])
  rintro mm σ ⟨j,T,B,s,yY,hok,hf,rfl⟩;unfold QsJ;have UK:=Qah T;have WT:=Qae B;obtain ⟨_,hb2⟩:T.length<=8/\B.length<=16:=⟨hok.tl,hok.bl⟩
  by_cases hj:j<rl
  .obtain ⟨_,_,s2,h2,hok2,uI⟩:=gV j T B s hj hok hf
   have g0:=FH j (l.getD j 0) (by rw [zgd,zgg (by omega)];rfl);have ca:=wU T B s hok (l.getD j 0);have cr:=HO _ _ _ (Qe0 hok (l.getD j 0));have jF:=gT (l.getD j 0) (by rw [zgd,zgg (by omega)];exact List.getElem_mem _);unfold QcI at h2;dsimp only [cR,wrt,Mc.C,Mc.D,Dk.C,Nk.C] at ca cr h2;simp only [Qaf,zca,zna,List.getD_cons_succ,List.getD_cons_zero] at ca cr h2;have hsB2:=Qae (B.filter (fun b=>decide (fk b≠((l.getD j 0:Nat):Int))));have hbl2:(B.filter (fun b=>decide (fk b≠((l.getD j 0:Nat):Int)))).length<=16:=Nat.le_trans (List.length_filter_le _ _) hb2;have q2:IntKind.i64.wrap ((j:Int)+1)=((j+1:Nat):Int):=QaR;have q5:IntKind.u32.wrap ((l.getD j 0:Nat):Int)=((l.getD j 0:Nat):Int):=Qe4 (by omega) (by omega);have ix1:0+((j:Nat):Int).toNat * ty3.size=j:=Qz7;generalize l.getD j 0=fr at *;generalize GZ:B.filter (fun b=>decide (fk b≠((fr:Nat):Int)))=Bf at *;clear gV wU HO FH hok hf FY JJ jP wR HF vU
   by_cases hq:fr=c6
   .have uM:((fr:Nat):Int)=(c6:Int):=by omega
    rw [zP hq] at h2;injection h2 with _ e1 e2 _ _ e3
    subst e1 e2;generalize zD:tes T=TT,JD:bks B=BB at *;generalize yA:bks Bf=BB2,T.length=tn,B.length=bn,hbfn:Bf.length=bfn at *;rw [e3] at ca cr;(repeat' ((conv=>whnf);first|exact zi2|(refine zj0 ?_;intro hb)|refine QFh ?_|refine Qwj ?_|refine QmU ?_|refine Qex ?_|(refine Qaw ca ?_)|(refine Qaw cr ?_)|refine zse ?_|refine zbb ?_ ?_));all_goals (conv=>whnf)
    all_goals first
     | (exfalso;simp at hb;omega)
     | (
       refine ⟨mm-1,QsJ rl (j+1) [.u x0,.u x1,.u x2,.u x3,.u x4,.u x5,.u x6,.u x7,.u x8,.u x9,.u x10,.u x11,.u x12,.u x13,.u x14,.u x15,.u pc,.u c0,.u c1,.u c2,.u c3,.u c4,.u c5,.u c6,.u c7,.sl 6 0 nn,.str ks,.bool ta,.u td,.bool tf,.u d0,.u d1,.u d2,.i d3,.i d4,.u d5,.u d6,.str d7,.u n0,.u n1,.bool n2,.u n3,.bool n4,.u n5,.u bt,.u bg,.w ct,.bool wt,.bool ht,.sl 7 0 0,.sl 8 0 bfn,.sl 9 0 on,.i f,.bool s2] WW XX [] BB2 OO LL,by omega,?_,j+1,[],Bf,s2,by omega,hok2,uI,by rw [yA,hbfn];try rfl⟩
       (exact zwV [(0,some 0),(1,some 1),(2,some 2),(3,some 3),(4,some 4),(5,some 5),(6,some 196736),(7,none),(8,some 196738),(9,some 196739),(10,some 10)]))
   .have uM:¬ ((fr:Nat):Int)=(c6:Int):=by omega
    rw [zN hq] at h2;injection h2 with _ e1 e2 _ _ e3
    subst e1 e2;generalize zD:tes T=TT,JD:bks B=BB at *;generalize yA:bks Bf=BB2,htn:T.length=tn,B.length=bn,hbfn:Bf.length=bfn at *;rw [e3] at ca cr;(repeat' ((conv=>whnf);first|exact zi2|(refine zj0 ?_;intro hb)|refine QFh ?_|refine Qwj ?_|refine QmU ?_|refine Qex ?_|(refine Qaw ca ?_)|(refine Qaw cr ?_)|refine zse ?_|refine zbb ?_ ?_));all_goals (conv=>whnf)
    all_goals first
     | (exfalso;simp at hb;omega)
     | (
       refine ⟨mm-1,QsJ rl (j+1) [.u x0,.u x1,.u x2,.u x3,.u x4,.u x5,.u x6,.u x7,.u x8,.u x9,.u x10,.u x11,.u x12,.u x13,.u x14,.u x15,.u pc,.u c0,.u c1,.u c2,.u c3,.u c4,.u c5,.u c6,.u c7,.sl 6 0 nn,.str ks,.bool ta,.u td,.bool tf,.u d0,.u d1,.u d2,.i d3,.i d4,.u d5,.u d6,.str d7,.u n0,.u n1,.bool n2,.u n3,.bool n4,.u n5,.u bt,.u bg,.w ct,.bool wt,.bool ht,.sl 7 0 tn,.sl 8 0 bfn,.sl 9 0 on,.i f,.bool s2] WW XX TT BB2 OO LL,by omega,?_,j+1,T,Bf,s2,by omega,hok2,uI,by rw [yA,hbfn,zD,htn];try rfl⟩
       (exact zwV [(0,some 0),(1,some 1),(2,some 2),(3,some 3),(4,some 4),(5,some 5),(6,some 196736),(7,some 196737),(8,some 196738),(9,some 196739),(10,some 10)]))
  .obtain rfl:j=rl:=by omega
   rw [List.drop_eq_nil_of_le (by omega)] at hf;change (⟨_,T,B,o,f,s⟩:Eg)=Ez at hf;subst hf;clear gV wU HO FH hok FY JJ jP wR HF vU;dsimp only [Eg.C,Mc.C,Mc.D,Dk.C,Nk.C];simp only [Qaf,zca,zna];rw [gJ,gP,hXX,hOO];generalize zD:tes T=TT,JD:bks B=BB,T.length=tn,B.length=bn at *;exact QEv
 .have hr2:¬ ((z6:Nat):Int)=(c6:Int):=by omega
  obtain rfl:=JJ hr;have WT:=Qae B;refine fnW Tryz.func143 ?_;(repeat' ((conv=>whnf);first|exact zi2|(refine zj0 ?_;intro hb)|(refine Qaw HF ?_)|(refine QiN vU ?_)|refine zse ?_|refine zbb ?_ ?_));all_goals (conv=>whnf)
  all_goals first|(exfalso;simp at hb;omega)|skip
  refine Lp.inv (fun mm σ=>∃ (j:Nat) (T:List Te) (B:List Bk) (s:Bool),mm+j=rl/\(⟨⟨[x0,x1,x2,x3,x4,x5,x6,x7,x8,x9,x10,x11,x12,x13,x14,x15],pc,[c0,c1,c2,c3,c4,c5,c6,c7],m,ks,ta,td,tf,⟨d0,d1,d2,d3,d4,d5,d6,d7⟩,⟨n0,n1,n2,n3,n4,n5⟩,bt,bg,ct,wt,ht⟩,T,B,o,f,s⟩:Eg).ok/\(l.drop j).foldl QcI ⟨⟨[x0,x1,x2,x3,x4,x5,x6,x7,x8,x9,x10,x11,x12,x13,x14,x15],pc,[c0,c1,c2,c3,c4,c5,c6,c7],m,ks,ta,td,tf,⟨d0,d1,d2,d3,d4,d5,d6,d7⟩,⟨n0,n1,n2,n3,n4,n5⟩,bt,bg,ct,wt,ht⟩,T,B,o,f,s⟩=Ez /\
    σ=QsJ rl j [.u x0,.u x1,.u x2,.u x3,.u x4,.u x5,.u x6,.u x7,.u x8,.u x9,.u x10,.u x11,.u x12,.u x13,.u x14,.u x15,.u pc,.u c0,.u c1,.u c2,.u c3,.u c4,.u c5,.u c6,.u c7,.sl 6 0 nn,.str ks,.bool ta,.u td,.bool tf,.u d0,.u d1,.u d2,.i d3,.i d4,.u d5,.u d6,.str d7,.u n0,.u n1,.bool n2,.u n3,.bool n4,.u n5,.u bt,.u bg,.w ct,.bool wt,.bool ht,.sl 7 0 T.length,.sl 8 0 B.length,.sl 9 0 on,.i f,.bool s] WW XX (tes T) (bks B) OO LL) ?_ ?_
  .refine ⟨rl,QsJ rl 0 [.u x0,.u x1,.u x2,.u x3,.u x4,.u x5,.u x6,.u x7,.u x8,.u x9,.u x10,.u x11,.u x12,.u x13,.u x14,.u x15,.u pc,.u c0,.u c1,.u c2,.u c3,.u c4,.u c5,.u c6,.u c7,.sl 6 0 nn,.str ks,.bool ta,.u td,.bool tf,.u d0,.u d1,.u d2,.i d3,.i d4,.u d5,.u d6,.str d7,.u n0,.u n1,.bool n2,.u n3,.bool n4,.u n5,.u bt,.u bg,.w ct,.bool wt,.bool ht,.sl 7 0 0,.sl 8 0 B.length,.sl 9 0 on,.i f,.bool s] WW XX (tes []) (bks B) OO LL,?_,0,_,_,_,by omega,wR,jP,rfl⟩
   (exact zwV [(0,some 0),(1,some 1),(2,some 2),(3,some 3),(4,some 4),(5,some 5),(6,some 1),(7,none),(8,some 3),(9,some 4),(10,some _)])
  rintro mm σ ⟨j,T,B,s,yY,hok,hf,rfl⟩;unfold QsJ;have UK:=Qah T;have WT:=Qae B;obtain ⟨_,hb2⟩:T.length<=8/\B.length<=16:=⟨hok.tl,hok.bl⟩
  by_cases hj:j<rl
  .obtain ⟨_,_,s2,h2,hok2,uI⟩:=gV j T B s hj hok hf
   have g0:=FH j (l.getD j 0) (by rw [zgd,zgg (by omega)];rfl);have ca:=wU T B s hok (l.getD j 0);have cr:=HO _ _ _ (Qe0 hok (l.getD j 0));have jF:=gT (l.getD j 0) (by rw [zgd,zgg (by omega)];exact List.getElem_mem _);unfold QcI at h2;dsimp only [cR,wrt,Mc.C,Mc.D,Dk.C,Nk.C] at ca cr h2;simp only [Qaf,zca,zna,List.getD_cons_succ,List.getD_cons_zero] at ca cr h2;have hsB2:=Qae (B.filter (fun b=>decide (fk b≠((l.getD j 0:Nat):Int))));have hbl2:(B.filter (fun b=>decide (fk b≠((l.getD j 0:Nat):Int)))).length<=16:=Nat.le_trans (List.length_filter_le _ _) hb2;have q2:IntKind.i64.wrap ((j:Int)+1)=((j+1:Nat):Int):=QaR;have q5:IntKind.u32.wrap ((l.getD j 0:Nat):Int)=((l.getD j 0:Nat):Int):=Qe4 (by omega) (by omega);have ix1:0+((j:Nat):Int).toNat * ty3.size=j:=Qz7;generalize l.getD j 0=fr at *;generalize GZ:B.filter (fun b=>decide (fk b≠((fr:Nat):Int)))=Bf at *;clear gV wU HO FH hok hf FY JJ jP wR HF vU
   by_cases hq:fr=c6
   .have uM:((fr:Nat):Int)=(c6:Int):=by omega
    rw [zP hq] at h2;injection h2 with _ e1 e2 _ _ e3
    subst e1 e2;generalize zD:tes T=TT,JD:bks B=BB at *;generalize yA:bks Bf=BB2,T.length=tn,B.length=bn,hbfn:Bf.length=bfn at *;rw [e3] at ca cr;(repeat' ((conv=>whnf);first|exact zi2|(refine zj0 ?_;intro hb)|refine QFh ?_|refine Qwj ?_|refine QmU ?_|refine Qex ?_|(refine Qaw ca ?_)|(refine Qaw cr ?_)|refine zse ?_|refine zbb ?_ ?_));all_goals (conv=>whnf)
    all_goals first
     | (exfalso;simp at hb;omega)
     | (
       refine ⟨mm-1,QsJ rl (j+1) [.u x0,.u x1,.u x2,.u x3,.u x4,.u x5,.u x6,.u x7,.u x8,.u x9,.u x10,.u x11,.u x12,.u x13,.u x14,.u x15,.u pc,.u c0,.u c1,.u c2,.u c3,.u c4,.u c5,.u c6,.u c7,.sl 6 0 nn,.str ks,.bool ta,.u td,.bool tf,.u d0,.u d1,.u d2,.i d3,.i d4,.u d5,.u d6,.str d7,.u n0,.u n1,.bool n2,.u n3,.bool n4,.u n5,.u bt,.u bg,.w ct,.bool wt,.bool ht,.sl 7 0 0,.sl 8 0 bfn,.sl 9 0 on,.i f,.bool s2] WW XX [] BB2 OO LL,by omega,?_,j+1,[],Bf,s2,by omega,hok2,uI,by rw [yA,hbfn];try rfl⟩
       (exact zwV [(0,some 0),(1,some 1),(2,some 2),(3,some 3),(4,some 4),(5,some 5),(6,some 196736),(7,none),(8,some 196738),(9,some 196739),(10,some 10)]))
   .have uM:¬ ((fr:Nat):Int)=(c6:Int):=by omega
    rw [zN hq] at h2;injection h2 with _ e1 e2 _ _ e3
    subst e1 e2;generalize zD:tes T=TT,JD:bks B=BB at *;generalize yA:bks Bf=BB2,htn:T.length=tn,B.length=bn,hbfn:Bf.length=bfn at *;rw [e3] at ca cr;(repeat' ((conv=>whnf);first|exact zi2|(refine zj0 ?_;intro hb)|refine QFh ?_|refine Qwj ?_|refine QmU ?_|refine Qex ?_|(refine Qaw ca ?_)|(refine Qaw cr ?_)|refine zse ?_|refine zbb ?_ ?_));all_goals (conv=>whnf)
    all_goals first
     | (exfalso;simp at hb;omega)
     | (
       refine ⟨mm-1,QsJ rl (j+1) [.u x0,.u x1,.u x2,.u x3,.u x4,.u x5,.u x6,.u x7,.u x8,.u x9,.u x10,.u x11,.u x12,.u x13,.u x14,.u x15,.u pc,.u c0,.u c1,.u c2,.u c3,.u c4,.u c5,.u c6,.u c7,.sl 6 0 nn,.str ks,.bool ta,.u td,.bool tf,.u d0,.u d1,.u d2,.i d3,.i d4,.u d5,.u d6,.str d7,.u n0,.u n1,.bool n2,.u n3,.bool n4,.u n5,.u bt,.u bg,.w ct,.bool wt,.bool ht,.sl 7 0 tn,.sl 8 0 bfn,.sl 9 0 on,.i f,.bool s2] WW XX TT BB2 OO LL,by omega,?_,j+1,T,Bf,s2,by omega,hok2,uI,by rw [yA,hbfn,zD,htn];try rfl⟩
       (exact zwV [(0,some 0),(1,some 1),(2,some 2),(3,some 3),(4,some 4),(5,some 5),(6,some 196736),(7,some 196737),(8,some 196738),(9,some 196739),(10,some 10)]))
  .obtain rfl:j=rl:=by omega
   rw [List.drop_eq_nil_of_le (by omega)] at hf;change (⟨_,T,B,o,f,s⟩:Eg)=Ez at hf;subst hf;clear gV wU HO FH hok FY JJ jP wR HF vU;dsimp only [Eg.C,Mc.C,Mc.D,Dk.C,Nk.C];simp only [Qaf,zca,zna];rw [gJ,gP,hXX,hOO];generalize zD:tes T=TT,JD:bks B=BB,T.length=tn,B.length=bn at *;exact QEv
theorem Qqi {T:List Te} {pg:Nat} {ac:Int} {i:Nat} {e:Te} (h:Qoh T pg ac=some (i,e)):T[i]?=some e/\e.p=pg/\Qsa e.w e.x ac=true/\Qf2 pg T 0=(i:Int):=Qic h
theorem Qjw (T:List Te) (hT:T.length<=1000000) (pg:Nat) (ac:Int) (h:Qoh T pg ac=none):FN 207 [.s (.sl 0 0 T.length),.s (.u (pg:Nat)),.s (.i ac)] [⟨false,4,tes T⟩] (. =⟨.tup [.s (.u 0),.s (.sl 1 0 T.length),.s (.bool false)],[],[⟨true,4,tes T⟩]⟩):=by
 by_cases h0:0<=Qf2 pg T 0
 .obtain ⟨i,e,h1,h2,_⟩:=QkU pg T 0 h0
  rw [Nat.zero_add] at h1;refine Qno T _ rfl hT pg ac i e h2 h1 ?_;unfold Qoh at h;rw [show (Qf2 pg T 0).toNat=i by rw [h1];omega,h2] at h;dsimp only at h
  cases hp:Qsa e.w e.x ac with
  | false=>rfl
  | true=>rw [zP ⟨h0,hp⟩] at h;cases h
 .refine QkZ T _ rfl hT pg ac ?_
  have:∀ (t:List Te) (k:Nat),¬ 0<=Qf2 pg t k->Qf2 pg t k= -1:=fun t=>by
   induction t with
   | nil=>exact fun k _=>rfl
   | cons e l ih =>
    intro k hk;change ¬ 0<=(if e.p=pg then (k:Int) else Qf2 pg l (k+1)) at hk;show (if e.p=pg then (k:Int) else Qf2 pg l (k+1))= -1;split at hk
    .omega
    .rename_i fJ
     rw [zN fJ];exact ih (k+1) hk
  exact this T 0 h0
theorem QyU (E:Eg) (hE:E.ok) (va sz:Nat) (ac:Int) (gX:va<4294967296) (fZ:sz=1\/sz=4) (h:¬ va%sz=0) :
  FN 139 [.s (.ptr 0 0),.s (.u va),.s (.u sz),.s (.i ac)] E.H (. =E.R (.tup [.s (.u (0:Nat)),.s (.bool false)])):=by
 have fH:=Qaa E.M.m;have gY:=Qah E.T;have fI:=Qae E.B;have qM:=(QaA hE.o).2.1;obtain ⟨hM,hT,_,hB,_,ho,_,_⟩:=hE;obtain ⟨M,T,B,o,_,s⟩:=E;dsimp only [Eg.H,Eg.R,Eg.Rk,Eg.C,wrt] at *;obtain ⟨hx,hc,hY,gA,gH,gB,gI,gD,gE,gF⟩:=hM;obtain ⟨_,_,_,m,_,_,_,_,d,n⟩:=M;dsimp only at *;cases QJP hx;cases zC8 hc;cases d;cases n;dsimp only [Mc.C,Mc.D,Dk.C,Nk.C,Dk.ok,Nk.ok] at *
 try dsimp only [cR,Mc.C,Mc.D,Dk.C,Nk.C] at *
 try simp only [Qaf,zca,zna,List.getD_cons_succ,List.getD_cons_zero] at *
 generalize gO:wsv m=XX,hX3:bks B=BB,hX4:OLs o=OO,gJ:m.length=nn,gM:B.length=bn,gP:o.length=on,tes T=TT,T.length=tn at *;have tm1:Int.tmod (va:Int) (sz:Int)=((va%sz:Nat):Int):=Qhl;generalize va%sz=vs at *;clear gO hX3 hX4 gJ gM gP hT hB ho hY gA gH gB gI gD gE gF;have KU:¬ ((vs:Nat):Int)=0:=by omega
 refine fnW Tryz.func139 ?_;(repeat' ((conv=>whnf);first|exact zi2|(refine zj0 ?_;intro hb)|(with_reducible refine zv tm1 ?_)|refine zse ?_|refine zbb ?_ ?_))
 all_goals exact QzW
theorem QyV (E:Eg) (hE:E.ok) (va sz:Nat) (ac:Int) (gX:va<4294967296) (fZ:sz=1\/sz=4) (h:va%sz=0) (hp:Qdb (E.M.c.getD 0 0)=false) :
  FN 139 [.s (.ptr 0 0),.s (.u va),.s (.u sz),.s (.i ac)] E.H (. =E.R (.tup [.s (.u va),.s (.bool (decide (va<4*E.M.m.length)))])):=by
 have fQ:=Qgf E hE;rw [hp] at fQ;have fH:=Qaa E.M.m;have gY:=Qah E.T;have fI:=Qae E.B;have qM:=(QaA hE.o).2.1;obtain ⟨hM,hT,_,hB,_,ho,_,_⟩:=hE;obtain ⟨M,T,B,o,_,s⟩:=E;dsimp only [Eg.H,Eg.R,Eg.Rk,Eg.C,wrt] at *;obtain ⟨hx,hc,hY,gA,gH,gB,gI,gD,gE,gF⟩:=hM;obtain ⟨_,_,c,m,_,_,_,_,d,n⟩:=M;dsimp only at *;cases QJP hx;cases zC8 hc;cases d;cases n;dsimp only [Mc.C,Mc.D,Dk.C,Nk.C,Dk.ok,Nk.ok] at *
 try dsimp only [cR,Mc.C,Mc.D,Dk.C,Nk.C] at *
 try simp only [Qaf,zca,zna,List.getD_cons_succ,List.getD_cons_zero] at *
 generalize gO:wsv m=XX,hX3:bks B=BB,hX4:OLs o=OO,gJ:m.length=nn,gM:B.length=bn,gP:o.length=on,tes T=TT,T.length=tn at *;have tm1:Int.tmod (va:Int) (sz:Int)=((va%sz:Nat):Int):=Qhl;generalize va%sz=vs at *;have GN:nn<=1000000:=gI;have gT:decide ((va:Int)<4*(nn:Int))=decide (va<4*nn):=decide_eq_decide.2 (by omega);generalize decide (va<4*nn)=Bq at *;have KU:((vs:Nat):Int)=0:=by omega
 clear gO hX3 hX4 gJ gM gP hT hB ho hY gA gH gB gI gD gE gF;refine fnW Tryz.func139 ?_;(repeat' ((conv=>whnf);first|exact zi2|(refine zj0 ?_;intro hb)|((with_reducible apply Vl.mk (α:=Bool)); . with_reducible exact gT)|(with_reducible refine zv tm1 ?_)|(refine Qaw fQ ?_)|refine zse ?_|refine zbb ?_ ?_))
 all_goals exact QzW
theorem QyW (E:Eg) (hE:E.ok) (va sz:Nat) (ac:Int) (gX:va<4294967296) (fZ:sz=1\/sz=4) (h:va%sz=0) (hp:Qdb (E.M.c.getD 0 0)=true) (i:Nat) (e:Te) (hh:Qoh E.T (va / 128) ac=some (i,e)) :
  FN 139 [.s (.ptr 0 0),.s (.u va),.s (.u sz),.s (.i ac)] E.H (. =(({ E with T:=Qby E.T i e }:Eg)).R (.tup [.s (.u ((e.f*128+va%128)%4294967296:Nat)),.s (.bool true)])):=by
 have fQ:=Qgf E hE;rw [hp] at fQ;obtain ⟨k1,k2,k3,k4⟩:=Qqi hh;have KI:=Qnn E.T _ rfl (by have:=hE.tl;omega) (va / 128) ac i e k1 k4 k3;have fP:=Qah (Qby E.T i e);have uJ:(Qby E.T i e).length=E.T.length:=QeK E.T i e k1;have hef:=hE.T e (List.mem_of_getElem? k1);have fH:=Qaa E.M.m;have gY:=Qah E.T;have fI:=Qae E.B;have qM:=(QaA hE.o).2.1;obtain ⟨hM,hT,_,hB,_,ho,_,_⟩:=hE;obtain ⟨M,T,B,o,f,s⟩:=E;dsimp only [Eg.H,Eg.R,Eg.Rk,Eg.C,wrt] at *;rw [uJ];generalize FY:tes (Qby T i e)=T2 at *;obtain ⟨hx,hc,hY,gA,gH,gB,gI,gD,gE,gF⟩:=hM;obtain ⟨_,_,c,m,_,_,_,_,d,n⟩:=M;dsimp only at *;cases QJP hx;cases zC8 hc;cases d;cases n;dsimp only [Mc.C,Mc.D,Dk.C,Nk.C,Dk.ok,Nk.ok] at *
 try dsimp only [cR,Mc.C,Mc.D,Dk.C,Nk.C] at *
 try simp only [Qaf,zca,zna,List.getD_cons_succ,List.getD_cons_zero] at *
 generalize gO:wsv m=XX,hX3:bks B=BB,hX4:OLs o=OO,gJ:m.length=nn,gM:B.length=bn,gP:o.length=on,tes T=TT,T.length=tn at *;have tm1:Int.tmod (va:Int) (sz:Int)=((va%sz:Nat):Int):=Qhl;generalize va%sz=vs at *;have tm2:Int.tmod (va:Int) 128=((va%128:Nat):Int):=Qhl;have dv2:Int.tdiv (va:Int) 128=((va / 128:Nat):Int):=QfP;have dv3:IntKind.u32.wrap (Int.tdiv (va:Int) 128)=((va / 128:Nat):Int):=QJQ;have KU:((vs:Nat):Int)=0:=by omega
 obtain ⟨_,ef,_,_⟩:=e;dsimp only at *;have q1:IntKind.u32.wrap ((ef:Int)*128)=((ef*128%4294967296:Nat):Int):=by rw [Qcf];omega
 have q3:IntKind.u32.wrap (((ef*128%4294967296:Nat):Int)+((va%128:Nat):Int))=(((ef*128+va%128)%4294967296:Nat):Int):=by rw [Qcf];omega
 generalize (ef*128+va%128)%4294967296=R1,ef*128%4294967296=R0 at *;generalize va%128=V0,va / 128=V1 at *;clear gO hX3 hX4 gJ gM gP hT hB ho hY gA gH gB gI gD gE gF;clear hh k1 k2 k3 k4 FY;refine fnW Tryz.func139 ?_;(repeat' ((conv=>whnf);first|exact zi2|(refine zj0 ?_;intro hb)|(with_reducible first|refine zv tm1 ?_|refine zv tm2 ?_|refine zv dv3 ?_|refine zv q1 ?_|refine zv q3 ?_)|(refine Qaw fQ ?_)|(refine Qaz KI ?_)|refine zse ?_|refine zbb ?_ ?_));all_goals (conv=>whnf)
 all_goals first|(apply Fin.mv (m:= [(0,some 0),(1,some 1),(2,some 2),(3,some 3),(4,some 4),(5,some 1),(6,some 262656),(7,some 3),(8,some 4)]);(focus exact rfl);(all_goals ((try (show QcL _ _ _ [] _));first|exact aFi|exact rfl)))|(exfalso;simp at hb;omega)
theorem QyX (E:Eg) (hE:E.ok) (va sz:Nat) (ac:Int) (gX:va<4294967296) (fZ:sz=1\/sz=4) (h:va%sz=0) (hp:Qdb (E.M.c.getD 0 0)=true) (hh:Qoh E.T (va / 128) ac=none) (hw:Qbm E.M.m E.M.m.length (cR E.M) va ac=false) :
  FN 139 [.s (.ptr 0 0),.s (.u va),.s (.u sz),.s (.i ac)] E.H (. =E.R (.tup [.s (.u (0:Nat)),.s (.bool false)])):=by
 have fQ:=Qgf E hE;rw [hp] at fQ;have KI:FN 207 [.s (.sl 0 0 E.T.length),.s (.u (va / 128:Nat)),.s (.i ac)] [⟨false,4,tes E.T⟩] (. =⟨.tup [.s (.u 0),.s (.sl 1 0 E.T.length),.s (.bool false)],[],[⟨true,4,tes E.T⟩]⟩):=Qjw E.T (by have:=hE.tl;omega) (va / 128) ac hh;have zO:=QmL E.T _ rfl (by have:=hE.tl;omega) E.M.m E.M.m.length (cR E.M) va ac ⟨rfl,hE.M.mr⟩ (by have:=hE.M.ml;omega) (Qab hE.M.cr 6) gX;have HO:=Qdx E hE;have ZE:QfH E.M.m E.M.m.length (cR E.M) va ac= [.u 0,.u 0,.i (Qct ac)]:=by unfold QfH;rw [zN (by rw [hw];decide)]
 have yV:QcE E.T E.M.m E.M.m.length (cR E.M) va ac=E.T:=by unfold QcE;rw [zN (by rw [hw];decide)]
 have ZW:Qbr E.M.m E.M.m.length (cR E.M) va ac=E.M.m:=by unfold Qbr;rw [zN (by rw [hw];decide)]
 have qO:¬ Qct ac=0:=by unfold Qct;split;decide;split<;>decide
 rw [ZE,yV,ZW] at zO;clear ZE yV ZW hw hh;generalize Qct ac=ca at *;have fH:=Qaa E.M.m;have gY:=Qah E.T;have fI:=Qae E.B;have qM:=(QaA hE.o).2.1;obtain ⟨hM,hT,_,hB,_,ho,_,_⟩:=hE;obtain ⟨M,T,B,o,_,s⟩:=E;dsimp only [Eg.H,Eg.R,Eg.Rk,Eg.C,wrt] at *;obtain ⟨hx,hc,hY,gA,gH,gB,gI,gD,gE,gF⟩:=hM;obtain ⟨_,_,c,m,_,_,_,_,d,n⟩:=M;dsimp only at *;cases QJP hx;cases zC8 hc;cases d;cases n;dsimp only [Mc.C,Mc.D,Dk.C,Nk.C,Dk.ok,Nk.ok] at *
 try dsimp only [cR,Mc.C,Mc.D,Dk.C,Nk.C] at *
 try simp only [Qaf,zca,zna,List.getD_cons_succ,List.getD_cons_zero] at *
 generalize gO:wsv m=XX,hX3:bks B=BB,hX4:OLs o=OO,gJ:m.length=nn,gM:B.length=bn,gP:o.length=on,tes T=TT,T.length=tn at *;have tm1:Int.tmod (va:Int) (sz:Int)=((va%sz:Nat):Int):=Qhl;generalize va%sz=vs at *;have tm2:Int.tmod (va:Int) 128=((va%128:Nat):Int):=Qhl;have dv2:Int.tdiv (va:Int) 128=((va / 128:Nat):Int):=QfP;have dv3:IntKind.u32.wrap (Int.tdiv (va:Int) 128)=((va / 128:Nat):Int):=QJQ;have KU:((vs:Nat):Int)=0:=by omega
 generalize va%128=V0,va / 128=V1 at *;clear gO hX3 hX4 gJ gM gP hT hB ho hY gA gH gB gI gD gE gF;refine fnW Tryz.func139 ?_;(repeat' ((conv=>whnf);first|exact zi2|(refine zj0 ?_;intro hb)|(with_reducible first|refine zv tm1 ?_|refine zv dv3 ?_)|(refine Qaw fQ ?_)|(refine Qaz KI ?_)|(refine Qaw HO ?_)|(refine QiN zO ?_)|refine zse ?_|refine zbb ?_ ?_))
 all_goals exact QzW
def QEY (r j:Nat) (C0 X T B O L W:List SV):St :=
 ⟨[(0,.a (.s (.ptr 0 0))),(14,.a (.s (.ptr 10 0))),(99,.a (.s (.sl 9 0 r))),(100,.a (.s (.i r))),(101,.a (.s (.i j)))],
  [(0,some ⟨true,1,C0⟩),(1,none),(2,none),(3,none),(4,none),(5,some ⟨true,1,X⟩),(6,some ⟨true,4,T⟩),(7,some ⟨true,3,B⟩),(8,some ⟨true,4,O⟩),(9,some ⟨true,1,L⟩),(10,some ⟨true,1,W⟩)],[0]⟩
theorem QG6 (M:Mc) (T:List Te) (o:List (List SV)) (f:Nat) (l:List Nat) (Ez:Eg) :
  ∀ (j:Nat) (B:List Bk) (s:Bool),j<l.length->QiK (l.drop j) ⟨M,T,B,o,f,s⟩=Ez->QiK (l.drop (j+1)) (wrt (l.getD j 0) ⟨M,T,B,o,f,s⟩)=Ez:=by
 intro j B s hj hf
 have hd:l.drop j=l.getD j 0::l.drop (j+1):=by
  have:l[j]?=some (l.getD j 0):=by rw [zgd,zgg hj];rfl
  exact Qcm l j _ this
 rw [hd] at hf;exact hf
theorem QyY (E:Eg) (hE:E.ok) (va sz:Nat) (ac:Int) (gX:va<4294967296) (fZ:sz=1\/sz=4) (h:va%sz=0) (hp:Qdb (E.M.c.getD 0 0)=true) (hh:Qoh E.T (va / 128) ac=none) (hw:Qbm E.M.m E.M.m.length (cR E.M) va ac=true) :
  FN 139 [.s (.ptr 0 0),.s (.u va),.s (.u sz),.s (.i ac)] E.H (. =(QiK (Qd2 E.M.m (Qbr E.M.m E.M.m.length (cR E.M) va ac) E.M.m.length) { E with T:=QcE E.T E.M.m E.M.m.length (cR E.M) va ac,M:= { E.M with m:=Qbr E.M.m E.M.m.length (cR E.M) va ac } }:Eg).R (.tup [.s (.u (frW (QaQ E.M.m (cR E.M) va)*128+va%128:Nat)),.s (.bool true)])):=by
 have fQ:=Qgf E hE;rw [hp] at fQ;have KI:FN 207 [.s (.sl 0 0 E.T.length),.s (.u (va / 128:Nat)),.s (.i ac)] [⟨false,4,tes E.T⟩] (. =⟨.tup [.s (.u 0),.s (.sl 1 0 E.T.length),.s (.bool false)],[],[⟨true,4,tes E.T⟩]⟩):=Qjw E.T (by have:=hE.tl;omega) (va / 128) ac hh;have zO:=QmL E.T _ rfl (by have:=hE.tl;omega) E.M.m E.M.m.length (cR E.M) va ac ⟨rfl,hE.M.mr⟩ (by have:=hE.M.ml;omega) (Qab hE.M.cr 6) gX;have HO:=Qdx E hE;have ZE:QfH E.M.m E.M.m.length (cR E.M) va ac= [.u (frW (QaQ E.M.m (cR E.M) va)*128+va%128:Nat),.u (Qa8 (cR E.M) va:Nat),.i 0]:=by unfold QfH;rw [zP hw]
 have hX:XB E.M.m E.M.m.length:=⟨rfl,hE.M.mr⟩;have HY:=Qh8 (r:=cR E.M) (va:=va) (ac:=ac) hX;have WD:=QkR (t:=E.T) (xs:=E.M.m) (n:=E.M.m.length) (r:=cR E.M) (ac:=ac) hE.T gX;have YL:=Qgu (t:=E.T) (xs:=E.M.m) (n:=E.M.m.length) (r:=cR E.M) (va:=va) (ac:=ac) hE.tl;have vU:=Qhs E.M.m (Qbr E.M.m E.M.m.length (cR E.M) va ac) E.M.m.length rfl HY.1 hE.M.ml;rw [ZE] at zO;clear ZE hw hh;have hml0:=hE.M.ml;have wR:(⟨{ E.M with m:=Qbr E.M.m E.M.m.length (cR E.M) va ac },QcE E.T E.M.m E.M.m.length (cR E.M) va ac,E.B,E.o,E.f,E.s⟩:Eg).ok:=⟨⟨hE.M.x,hE.M.c,hE.M.xr,hE.M.cr,hE.M.pr,HY.2,by show (Qbr _ _ _ _ _).length<=_;rw [HY.1];exact hml0,hE.M.dk,hE.M.nk,hE.M.dv⟩,WD,YL,hE.B,hE.bl,hE.o,hE.ol,hE.f⟩;have gK:(Qd2 E.M.m (Qbr E.M.m E.M.m.length (cR E.M) va ac) E.M.m.length).length<=32:=Nat.le_trans (QlT _ _ _ _) (QaS _)
 have gT:∀ i∈Qd2 E.M.m (Qbr E.M.m E.M.m.length (cR E.M) va ac) E.M.m.length,i<4294967296:=fun i hi=>by
  unfold Qd2 at hi;rw [QhZ] at hi;have:=QaS E.M.m.length;omega
 have hXl:=HY.1;clear HY hX WD;have hfs:=QfZ (Qd2 E.M.m (Qbr E.M.m E.M.m.length (cR E.M) va ac) E.M.m.length);have FH:=fun j fr h=>Qqg (Qd2 E.M.m (Qbr E.M.m E.M.m.length (cR E.M) va ac) E.M.m.length) j fr h
 generalize Qd2 E.M.m (Qbr E.M.m E.M.m.length (cR E.M) va ac) E.M.m.length=l at *;have YZ:=Qaa (Qbr E.M.m E.M.m.length (cR E.M) va ac);have UK:=Qah (QcE E.T E.M.m E.M.m.length (cR E.M) va ac);generalize Qbr E.M.m E.M.m.length (cR E.M) va ac=X,QcE E.T E.M.m E.M.m.length (cR E.M) va ac=T',frW (QaQ E.M.m (cR E.M) va)*128+va%128=A1,Qa8 (cR E.M) va=A2 at *;have wU:=fun B s h fr=>Qck ⟨{ E.M with m:=X },T',B,E.o,E.f,s⟩ h fr
 have hwo:=fun B s (h:(⟨{ E.M with m:=X },T',B,E.o,E.f,s⟩:Eg).ok) fr=>Qe0 h fr
 have gV:=QG6 { E.M with m:=X } T' E.o E.f l;obtain ⟨Ez,JE⟩:∃ Ez,QiK l { E with T:=T',M:= { E.M with m:=X } }=Ez:=⟨_,rfl⟩;rw [JE];have gV:=gV Ez;have jP:QiK (l.drop 0) ⟨{ E.M with m:=X },T',E.B,E.o,E.f,E.s⟩=Ez:=JE;have fH:=Qaa E.M.m;have gY:=Qah E.T;have fI:=Qae E.B;have qM:=(QaA hE.o).2.1;obtain ⟨hM,hT,_,_,_,_,_,uI⟩:=hE;obtain ⟨M,T,B,o,f,s⟩:=E;dsimp only [Eg.H,Eg.R,Eg.Rk,Eg.C,wrt] at *;obtain ⟨hx,hc,hY,gA,gH,gB,gI,gD,gE,gF⟩:=hM;obtain ⟨x,pc,c,m,ks,ta,td,tf,d,n,bt,bg,ct,wt,ht⟩:=M;dsimp only at *;obtain ⟨x0,x1,x2,x3,x4,x5,x6,x7,x8,x9,x10,x11,x12,x13,x14,x15,rfl⟩:=QdY hx;obtain ⟨c0,c1,c2,c3,c4,c5,c6,c7,rfl⟩:=Qek hc;obtain ⟨d0,d1,d2,d3,d4,d5,d6,d7⟩:=d;obtain ⟨n0,n1,n2,n3,n4,n5⟩:=n;dsimp only [Mc.C,Mc.D,Dk.C,Nk.C,Dk.ok,Nk.ok] at *
 try dsimp only [cR,Mc.C,Mc.D,Dk.C,Nk.C] at *
 try simp only [Qaf,zca,zna,List.getD_cons_succ,List.getD_cons_zero] at *
 generalize gO:wsv m=XX,hX3:bks B=BB,hX4:OLs o=OO,gJ:m.length=nn,gM:B.length=bn,gP:o.length=on,gU:tes T=TT,htn:T.length=tn,hXX2:wsv X=X2 at *;generalize hTT2:tes T'=T2,YH:frs l=LL,hXl3:X.length=xn at *;have hXl:=hXl.symm;subst hXl;generalize ht2n:T'.length=t2n,HD:l.length=rl at *;have tm1:Int.tmod (va:Int) (sz:Int)=((va%sz:Nat):Int):=Qhl;generalize UL:va%sz=vs at *;have tm2:Int.tmod (va:Int) 128=((va%128:Nat):Int):=Qhl;have dv2:Int.tdiv (va:Int) 128=((va / 128:Nat):Int):=QfP;have dv3:IntKind.u32.wrap (Int.tdiv (va:Int) 128)=((va / 128:Nat):Int):=QJQ;have KU:((vs:Nat):Int)=0:=by omega
 generalize va%128=V0,va / 128=V1 at *;clear gO gU hY gA gH gB gI gD gE gF hT JE;refine fnW Tryz.func139 ?_;(repeat' ((conv=>whnf);first|exact zi2|(refine zj0 ?_;intro hb)|(with_reducible first|refine zv tm1 ?_|refine zv dv3 ?_)|(refine Qaw fQ ?_)|(refine Qaz KI ?_)|(refine Qaw HO ?_)|(refine QiN zO ?_)|(refine QiN vU ?_)|refine zse ?_|refine zbb ?_ ?_));all_goals (conv=>whnf)
 all_goals first|(exfalso;simp at hb;omega)|skip
 refine Lp.inv (fun mm σ=>∃ (j:Nat) (B:List Bk) (s:Bool),mm+j=rl/\(⟨⟨[x0,x1,x2,x3,x4,x5,x6,x7,x8,x9,x10,x11,x12,x13,x14,x15],pc,[c0,c1,c2,c3,c4,c5,c6,c7],X,ks,ta,td,tf,⟨d0,d1,d2,d3,d4,d5,d6,d7⟩,⟨n0,n1,n2,n3,n4,n5⟩,bt,bg,ct,wt,ht⟩,T',B,o,f,s⟩:Eg).ok/\QiK (l.drop j) ⟨⟨[x0,x1,x2,x3,x4,x5,x6,x7,x8,x9,x10,x11,x12,x13,x14,x15],pc,[c0,c1,c2,c3,c4,c5,c6,c7],X,ks,ta,td,tf,⟨d0,d1,d2,d3,d4,d5,d6,d7⟩,⟨n0,n1,n2,n3,n4,n5⟩,bt,bg,ct,wt,ht⟩,T',B,o,f,s⟩=Ez/\σ=QEY rl j [.u x0,.u x1,.u x2,.u x3,.u x4,.u x5,.u x6,.u x7,.u x8,.u x9,.u x10,.u x11,.u x12,.u x13,.u x14,.u x15,.u pc,.u c0,.u c1,.u c2,.u c3,.u c4,.u c5,.u c6,.u c7,.sl 5 0 nn,.str ks,.bool ta,.u td,.bool tf,.u d0,.u d1,.u d2,.i d3,.i d4,.u d5,.u d6,.str d7,.u n0,.u n1,.bool n2,.u n3,.bool n4,.u n5,.u bt,.u bg,.w ct,.bool wt,.bool ht,.sl 6 0 t2n,.sl 7 0 B.length,.sl 8 0 on,.i f,.bool s] X2 T2 (bks B) OO LL [.u A1,.u A2,.i 0]) ?_ ?_
 .refine ⟨rl,QEY rl 0 [.u x0,.u x1,.u x2,.u x3,.u x4,.u x5,.u x6,.u x7,.u x8,.u x9,.u x10,.u x11,.u x12,.u x13,.u x14,.u x15,.u pc,.u c0,.u c1,.u c2,.u c3,.u c4,.u c5,.u c6,.u c7,.sl 5 0 nn,.str ks,.bool ta,.u td,.bool tf,.u d0,.u d1,.u d2,.i d3,.i d4,.u d5,.u d6,.str d7,.u n0,.u n1,.bool n2,.u n3,.bool n4,.u n5,.u bt,.u bg,.w ct,.bool wt,.bool ht,.sl 6 0 t2n,.sl 7 0 bn,.sl 8 0 on,.i f,.bool s] X2 T2 BB OO LL [.u A1,.u A2,.i 0],?_,0,B,s,by omega,wR,jP,by rw [hX3,gM];try rfl⟩
  (exact zwV [(0,some 0),(1,some 1),(2,some 2),(3,some 3),(4,some 4),(5,some 459393),(6,some 459392),(7,some 3),(8,some 4),(9,some 655488),(10,some 459712)])
 rintro mm σ ⟨j,B,s,yY,hok,hf,rfl⟩;unfold QEY;have WT:=Qae B
 by_cases hj:j<rl
 .have uI:=gV j B s hj hf
  have g0:=FH j (l.getD j 0) (by rw [zgd,zgg (by omega)];rfl);have ca:=wU B s hok (l.getD j 0);have hok2:=hwo B s hok (l.getD j 0);have jF:=gT (l.getD j 0) (by rw [zgd,zgg (by omega)];exact List.getElem_mem _)
  try dsimp only [cR,wrt,Mc.C,Mc.D,Dk.C,Nk.C] at ca uI hok2
  try simp only [Qaf,zca,zna,List.getD_cons_succ,List.getD_cons_zero] at ca
  have hsB2:=Qae (B.filter (fun b=>decide (fk b≠((l.getD j 0:Nat):Int))));have q2:IntKind.i64.wrap ((j:Int)+1)=((j+1:Nat):Int):=QaR;have ix1:0+((j:Nat):Int).toNat * ty3.size=j:=Qz7;generalize l.getD j 0=fr at *;generalize gY:(s||decide (fr=f))=s2,GZ:B.filter (fun b=>decide (fk b≠((fr:Nat):Int)))=Bf,JD:bks B=BB3 at *;generalize yA:bks Bf=BB2,B.length=bn3,hbfn:Bf.length=bfn at *;clear gV wU hwo FH hok hf jP wR HO vU zO KI fQ;(repeat' ((conv=>whnf);first|exact zi2|(refine zj0 ?_;intro hb)|refine QiQ ?_|refine Qwj ?_|refine QmU ?_|refine Qex ?_|(refine Qaw ca ?_)|refine zse ?_|refine zbb ?_ ?_));all_goals (conv=>whnf)
  all_goals first
   | (exfalso;simp at hb;omega)
   | (
     refine ⟨mm-1,QEY rl (j+1) [.u x0,.u x1,.u x2,.u x3,.u x4,.u x5,.u x6,.u x7,.u x8,.u x9,.u x10,.u x11,.u x12,.u x13,.u x14,.u x15,.u pc,.u c0,.u c1,.u c2,.u c3,.u c4,.u c5,.u c6,.u c7,.sl 5 0 nn,.str ks,.bool ta,.u td,.bool tf,.u d0,.u d1,.u d2,.i d3,.i d4,.u d5,.u d6,.str d7,.u n0,.u n1,.bool n2,.u n3,.bool n4,.u n5,.u bt,.u bg,.w ct,.bool wt,.bool ht,.sl 6 0 t2n,.sl 7 0 bfn,.sl 8 0 on,.i f,.bool s2] X2 T2 BB2 OO LL [.u A1,.u A2,.i 0],by omega,?_,j+1,Bf,s2,by omega,hok2,uI,by rw [yA,hbfn];try rfl⟩
     (exact zwV [(0,some 0),(1,some 1),(2,some 2),(3,some 3),(4,some 4),(5,some 196736),(6,some 196737),(7,some 196738),(8,some 196739),(9,some 9),(10,some 10)]))
 .obtain rfl:j=rl:=by omega
  rw [List.drop_eq_nil_of_le (by omega)] at hf;change (⟨_,T',B,o,f,s⟩:Eg)=Ez at hf;subst hf;dsimp only [Eg.C,Mc.C,Mc.D,Dk.C,Nk.C];simp only [Qaf,zca,zna];rw [hXl3,gP,hXX2,hX4,hTT2,ht2n];clear gV wU hwo FH hok jP wR HO vU zO KI fQ;generalize JD:bks B=BB3,B.length=bn3 at *;exact QJR
theorem QfB (E:Eg) (hE:E.ok) (va sz:Nat) (ac:Int) (gX:va<4294967296) (fZ:sz=1\/sz=4) :
  FN 139 [.s (.ptr 0 0),.s (.u va),.s (.u sz),.s (.i ac)] E.H (. =(rsv E va sz ac).1.R (.tup [.s (.u ((rsv E va sz ac).2.1:Nat)),.s (.bool (rsv E va sz ac).2.2)])):=by
 unfold rsv
 by_cases h:va%sz=0
 .rw [zN (fun h2=>h2 h)]
  by_cases hp:Qdb (E.M.c.getD 0 0)=false
  .rw [zP hp]
   exact QyV E hE va sz ac gX fZ h hp
  .rw [zN hp]
   have HB:Qdb (E.M.c.getD 0 0)=true:=by cases q:Qdb (E.M.c.getD 0 0) with|true=>rfl|false=>exact absurd q hp
   cases hh:Qoh E.T (va / 128) ac with
   | some q=>obtain ⟨i,e⟩:=q;exact QyW E hE va sz ac gX fZ h HB i e hh
   | none =>
    dsimp only
    by_cases hw:Qbm E.M.m E.M.m.length (cR E.M) va ac=true
    .rw [zP hw]
     exact QyY E hE va sz ac gX fZ h HB hh hw
    .rw [zN hw]
     exact QyX E hE va sz ac gX fZ h HB hh (by cases q:Qbm E.M.m E.M.m.length (cR E.M) va ac with|true=>exact absurd q hw|false=>rfl)
 .rw [zP h]
  exact QyU E hE va sz ac gX fZ h
theorem QhG (E:Eg) (hE:E.ok) (va sz:Nat) (ac:Int) (gX:va<4294967296):∃ (X:List Nat) (T1:List Te) (B1:List Bk) (s1:Bool),(rsv E va sz ac).1=⟨{ E.M with m:=X },T1,B1,E.o,E.f,s1⟩/\X.length=E.M.m.length/\(rsv E va sz ac).1.ok/\((rsv E va sz ac).2.2=false->(rsv E va sz ac).1=E):=by
 unfold rsv
 by_cases h:va%sz≠0
 .rw [zP h];exact ⟨E.M.m,E.T,E.B,E.s,rfl,rfl,hE,fun _=>rfl⟩
 rw [zN h]
 by_cases hp:Qdb (E.M.c.getD 0 0)=false
 .rw [zP hp];exact ⟨E.M.m,E.T,E.B,E.s,rfl,rfl,hE,fun _=>rfl⟩
 rw [zN hp]
 cases hh:Qoh E.T (va / 128) ac with
 | some q =>
  obtain ⟨i,e⟩:=q;obtain ⟨g1,_⟩:=Qic hh;exact ⟨E.M.m,Qby E.T i e,E.B,E.s,rfl,rfl,⟨hE.M,fun x hx=>hE.T x ((Qgy E.T i e g1 x).1 hx),by show (Qby E.T i e).length<=8;rw [QeK E.T i e g1];exact hE.tl,hE.B,hE.bl,hE.o,hE.ol,hE.f⟩,fun h=>by cases h⟩
 | none =>
  dsimp only
  by_cases hw:Qbm E.M.m E.M.m.length (cR E.M) va ac=true
  .rw [zP hw]
   have hX:XB E.M.m E.M.m.length:=⟨rfl,hE.M.mr⟩;have HY:=Qh8 (r:=cR E.M) (va:=va) (ac:=ac) hX;have WD:=QkR (t:=E.T) (xs:=E.M.m) (n:=E.M.m.length) (r:=cR E.M) (ac:=ac) hE.T gX;have YL:=Qgu (t:=E.T) (xs:=E.M.m) (n:=E.M.m.length) (r:=cR E.M) (va:=va) (ac:=ac) hE.tl;have gI:=hE.M.ml;have FA:Eg.ok { E with T:=QcE E.T E.M.m E.M.m.length (cR E.M) va ac,M:= { E.M with m:=Qbr E.M.m E.M.m.length (cR E.M) va ac } }:=⟨⟨hE.M.x,hE.M.c,hE.M.xr,hE.M.cr,hE.M.pr,HY.2,by show (Qbr _ _ _ _ _).length<=_;rw [HY.1];exact gI,hE.M.dk,hE.M.nk,hE.M.dv⟩,WD,YL,hE.B,hE.bl,hE.o,hE.ol,hE.f⟩;have VG:=Qsu (Qd2 E.M.m (Qbr E.M.m E.M.m.length (cR E.M) va ac) E.M.m.length) FA;obtain ⟨k1,_,k3,k4,_⟩:=Qwg (Qd2 E.M.m (Qbr E.M.m E.M.m.length (cR E.M) va ac) E.M.m.length) { E with T:=QcE E.T E.M.m E.M.m.length (cR E.M) va ac,M:= { E.M with m:=Qbr E.M.m E.M.m.length (cR E.M) va ac } };generalize QiK (Qd2 E.M.m (Qbr E.M.m E.M.m.length (cR E.M) va ac) E.M.m.length) { E with T:=QcE E.T E.M.m E.M.m.length (cR E.M) va ac,M:= { E.M with m:=Qbr E.M.m E.M.m.length (cR E.M) va ac } }=E' at *;obtain ⟨_,T',B',_,_,s'⟩:=E';dsimp only at k1 k3 k4;subst k1 k3 k4;exact ⟨_,T',B',s',rfl,HY.1,VG,fun h=>by cases h⟩
  .rw [zN hw];exact ⟨E.M.m,E.T,E.B,E.s,rfl,rfl,hE,fun _=>rfl⟩
theorem QkV (x:Nat):∀ (t:List Bk) (k:Nat),(0<=QgA x (t.map (·.A)) k->∃ (i:Nat) (b:Bk),QgA x (t.map (·.A)) k=((k+i:Nat):Int)/\t[i]?=some b/\b.A=x)/\(¬ 0<=QgA x (t.map (·.A)) k->QgA x (t.map (·.A)) k= -1)
 | [],k=>⟨fun h=>by change (0:Int)<= -1 at h;omega,fun _=>rfl⟩
 | b::l,k=>by
  by_cases hp:b.A=x
  .have hu:QgA x ((b::l).map (·.A)) k=(k:Int):=by show (if _ then _ else _)=_;rw [zP hp]
   rw [hu];exact ⟨fun _=>⟨0,b,rfl,rfl,hp⟩,fun h=>by omega⟩
  .have hu:QgA x ((b::l).map (·.A)) k=QgA x (l.map (·.A)) (k+1):=by show (if _ then _ else _)=_;rw [zN hp]
   rw [hu];obtain ⟨h1,h2⟩:=QkV x l (k+1);refine ⟨fun h=>?_,h2⟩;obtain ⟨i,e',g1,g2,g3⟩:=h1 h;exact ⟨i+1,e',by rw [g1];congr 1;omega,g2,g3⟩
theorem QxD (E:Eg) (hE:E.ok) (a:Nat) (ha:a<4294967296) (i:Nat) (b:Bk) (hb:E.B[i]?=some b) (hi:QgA a (E.B.map (·.A)) 0=(i:Int)) :
  FN 140 [.s (.ptr 0 0),.s (.u a)] E.H (. =({ E with B:=Qbd E.B i b }:Eg).R (.a (.agg b.C))):=by
 have hfd:=QtA E.B _ rfl (by have:=hE.bl;omega) hE.B a i b hb hi
 have uJ:(Qbd E.B i b).length=E.B.length:=by
  have gT:=(zgs.1 hb).1;unfold Qbd;rw [List.length_cons,zla,List.length_take,List.length_drop];omega
 have fP:=Qae (Qbd E.B i b);have fH:=Qaa E.M.m;have gY:=Qah E.T;have fI:=Qae E.B;have qM:=(QaA hE.o).2.1;obtain ⟨hM,hT,_,hB,_,ho,_,_⟩:=hE;obtain ⟨M,T,B,o,_,s⟩:=E;dsimp only [Eg.H,Eg.R,Eg.Rk,Eg.C,wrt] at *;rw [uJ];generalize VU:bks (Qbd B i b)=B2,hX3:bks B=BB,gM:B.length=bn at *;obtain ⟨A,_,l⟩:=b;dsimp only [Bk.C] at *;generalize l.length=NL,mzs l=ML at *;obtain ⟨hx,hc,hY,gA,gH,gB,gI,gD,gE,gF⟩:=hM;obtain ⟨_,_,_,m,_,_,_,_,d,n⟩:=M;dsimp only at *;cases QJP hx;cases zC8 hc;cases d;cases n;dsimp only [Mc.C,Mc.D,Dk.C,Nk.C,Dk.ok,Nk.ok] at *
 try dsimp only [cR,Mc.C,Mc.D,Dk.C,Nk.C] at *
 try simp only [Qaf,zca,zna,List.getD_cons_succ,List.getD_cons_zero] at *
 generalize gO:wsv m=XX,tes T=TT,hX4:OLs o=OO,gJ:m.length=nn,T.length=tn,gP:o.length=on at *;clear gO hX3 hX4 gJ gM gP hT hB ho hY gA gH gB gI gD gE gF hi hb uJ VU;refine fnW Tryz.func140 ?_;(repeat' ((conv=>whnf);first|exact zi2|(refine zj0 ?_;intro hb)|(refine Qaz hfd ?_)|refine zse ?_|refine zbb ?_ ?_));all_goals (conv=>whnf)
 all_goals first|(apply Fin.mv (m:= [(0,some 0),(1,some 1),(2,some 2),(3,some 3),(4,some 4),(5,some 1),(6,some 2),(7,some 131456),(8,some 4)]);(focus exact rfl);(all_goals ((try (show QcL _ _ _ [] _));first|exact aFi|exact rfl)))
theorem QxE (E:Eg) (hE:E.ok) (a:Nat) (ha:a<4294967296) (hi:QgA a (E.B.map (·.A)) 0= -1) :
  FN 140 [.s (.ptr 0 0),.s (.u a)] E.H (. =({ E with B:=Qkk E.B (fdB E.M.m E.M.m.length a 16) }:Eg).R (.a (.agg (fdB E.M.m E.M.m.length a 16).C))):=by
 have hfd:=QxB E.B _ rfl (by have:=hE.bl;omega) hE.B a hi;obtain ⟨F,_,_,_,hF,VY,_,cb,cf⟩:=Qvr E.M.m E.M.m.length rfl (by have:=hE.M.ml;omega) hE.M.mr a ha;rw [<- hF];have fX:=Qqs E.B _ rfl (by have:=hE.bl;omega) hE.B F VY _ rfl _ rfl;have fP:=Qae (Qkk E.B F);have fH:=Qaa E.M.m;have gY:=Qah E.T;have fI:=Qae E.B;have qM:=(QaA hE.o).2.1;obtain ⟨hM,hT,_,hB,_,ho,_,_⟩:=hE;obtain ⟨M,T,B,o,_,s⟩:=E;dsimp only [Eg.H,Eg.R,Eg.Rk,Eg.C,wrt] at *;generalize VU:bks (Qkk B F)=B2,hb2:(Qkk B F).length=b2n,hX3:bks B=BB,gM:B.length=bn at *;clear hF VY;obtain ⟨A,_,l⟩:=F;dsimp only [Bk.C] at *;generalize l.length=NL,mzs l=ML at *;obtain ⟨hx,hc,hY,gA,gH,gB,gI,gD,gE,gF⟩:=hM;obtain ⟨_,_,_,m,_,_,_,_,d,n⟩:=M;dsimp only at *;cases QJP hx;cases zC8 hc;cases d;cases n;dsimp only [Mc.C,Mc.D,Dk.C,Nk.C,Dk.ok,Nk.ok] at *
 try dsimp only [cR,Mc.C,Mc.D,Dk.C,Nk.C] at *
 try simp only [Qaf,zca,zna,List.getD_cons_succ,List.getD_cons_zero] at *
 generalize gO:wsv m=XX,tes T=TT,hX4:OLs o=OO,gJ:m.length=nn,T.length=tn,gP:o.length=on at *;clear gO hX3 hX4 gJ gM gP hT hB ho hY gA gH gB gI gD gE gF hi VU hb2;refine fnW Tryz.func140 ?_;(repeat' ((conv=>whnf);first|exact zi2|(refine zj0 ?_;intro hb)|(refine Qaz hfd ?_)|(refine Qaz cb ?_)|(refine Qaz cf ?_)|(refine Qaz fX ?_)|refine zse ?_|refine zbb ?_ ?_));all_goals (conv=>whnf)
 all_goals first|(apply Fin.mv (m:= [(0,some 0),(1,some 1),(2,some 2),(3,some 3),(4,some 4),(5,some 1),(6,some 2),(7,some 328128),(8,some 4)]);(focus exact rfl);(all_goals ((try (show QcL _ _ _ [] _));first|exact aFi|exact rfl)))
theorem QBO (E:Eg) (hE:E.ok) (a:Nat) (ha:a<4294967296):FN 140 [.s (.ptr 0 0),.s (.u a)] E.H (. =(fnd E a).1.R (.a (.agg (fnd E a).2.C))):=by
 obtain ⟨h1,h2⟩:=QkV a E.B 0
 by_cases h0:0<=QgA a (E.B.map (·.A)) 0
 .obtain ⟨i,b,g1,g2,_⟩:=h1 h0
  rw [Nat.zero_add] at g1;have hu:(QgA a (E.B.map (·.A)) 0).toNat=i:=by rw [g1];omega
  unfold fnd;rw [hu,g2];dsimp only;rw [zP h0];exact QxD E hE a ha i b g2 g1
 .have hm:=QxE E hE a ha (h2 h0)
  unfold fnd;split
  .rw [zN h0];exact hm
  .exact hm
end Go.Proofs.YtpgkkfajljekpaaGreat
