import Derived.Test.YtflaceijiphfdaaGreatP29
import Derived.Test.YtflaceijiphfdaaGreatP36
set_option linter.unusedSimpArgs false
set_option linter.unusedVariables false
set_option maxHeartbeats 0
set_option maxRecDepth 100000
namespace Go.Proofs.YtflaceijiphfdaaGreat
open Go Go.RowKit
theorem QsU (E:Eg) (hE:E.ok):FN 47 [.s (.ptr 0 0)] [⟨true,1,E.C 1 2 3 4⟩,⟨true,1,wsv E.M.m⟩,⟨true,4,tes E.T⟩,⟨true,3,bks E.B⟩,⟨true,4,OLs E.o⟩] (. =⟨.a (.s (.bool (Qi4 E.M))),[],[]⟩):=by
 have ci:=QlG E.M hE.M;have cr:=QmW E.M hE.M;obtain ⟨R,hR⟩:∃ R,Qi4 E.M=R:=⟨_,rfl⟩;rw [hR];unfold Qi4 at hR;generalize Qm5 E.M=b1,Qe3 E.M=b2 at *;have fJ:=Qaa E.M.m;have gW:=Qaf E.T;have fG:=Qad E.B;have qH:=(Qaz hE.o).2.1;obtain ⟨hM,hT,_,hB,_,ho,_,_⟩:=hE;obtain ⟨M,T,B,o,_,s⟩:=E;dsimp only [Eg.H,Eg.R,Eg.Rk,Eg.C,wrt] at *;obtain ⟨hx,hc,hY,gA,gI,gB,gH,gE,gD,gG⟩:=hM;obtain ⟨_,_,_,m,_,_,_,_,d,n⟩:=M;dsimp only at *;cases QaO hx;cases zC8 hc;cases d;cases n;dsimp only [Mc.C,Mc.D,Dk.C,Nk.C,Dk.ok,Nk.ok] at *
 try dsimp only [cR,Mc.C,Mc.D,Dk.C,Nk.C] at *
 try simp only [Qai,zca,zna,List.getD_cons_succ,List.getD_cons_zero] at *
 generalize gP:wsv m=XX,hX3:bks B=BB,hX4:OLs o=OO,gJ:m.length=nn,gL:B.length=bn,hon:o.length=on,gT:tes T=TT,htn:T.length=tn at *;clear gP gT hX3 hX4 gJ gL hon htn hT hB ho hY gA gI gB gH gE gD gG;refine fnW Tryz.func47 ?_;(conv=>whnf);(repeat' ((first|exact zi2|refine zj0 fun hb=>?_|(refine QaD ci ?_)|(refine QaD cr ?_)|refine zse ?_|refine zbb ?_ ?_)<;>conv=>whnf))
 all_goals first
  | (refine QcD ?_ ?_;(focus (apply Fin.mk (m:= [(0,some 0),(1,some 1),(2,some 2),(3,some 3),(4,some 4)]);(focus exact rfl);(all_goals ((try (show HlS _ _ [] _));first|(exact aFi)|exact rfl))));rw [<- hR];symm;first|(simp_all;done)|(simp_all;omega)|(rw [zbi];simp_all;done)|(rw [zbi];simp_all;omega)|grind)
theorem QrG (M0:Mc) (E:Eg) (hE:E.ok):∃ (T2:List Te) (B2:List Bk) (s2:Bool),stl M0 E=⟨E.M,T2,B2,E.o,E.f,s2⟩/\(stl M0 E).ok:=by
 have h:∀ (l:List Nat) (F:Eg),F.ok->∃ (T2:List Te) (B2:List Bk) (s2:Bool),l.foldl QcG F=⟨F.M,T2,B2,F.o,F.f,s2⟩/\(l.foldl QcG F).ok:=fun l=>by
  induction l with
  | nil=>exact fun F hF=>⟨F.T,F.B,F.s,rfl,hF⟩
  | cons i l ih =>
   intro F hF;obtain ⟨T2,B2,s2,h1,h2⟩:=ih (QcG F i) (QrF hF i);have he:(QcG F i).M=F.M/\(QcG F i).o=F.o/\(QcG F i).f=F.f:=by unfold QcG;split<;>exact ⟨rfl,rfl,rfl⟩
   refine ⟨T2,B2,s2,?_,h2⟩;show l.foldl QcG (QcG F i)=_;rw [h1,he.1,he.2.1,he.2.2]
 have h0:(Qka (cR M0) E).ok/\(Qka (cR M0) E).M=E.M/\(Qka (cR M0) E).o=E.o/\(Qka (cR M0) E).f=E.f:=by
  unfold Qka;split
  .exact ⟨hE,rfl,rfl,rfl⟩
  .exact ⟨⟨hE.M,QiE,Nat.zero_le _,hE.B,hE.bl,hE.o,hE.ol,hE.f⟩,rfl,rfl,rfl⟩
 obtain ⟨T2,B2,s2,h1,h2⟩:=h (QdR M0.m E.M.m E.M.m.length) _ h0.1;rw [h0.2.1,h0.2.2.1,h0.2.2.2] at h1;exact ⟨T2,B2,s2,h1,h2⟩
theorem Qle (M:Mc) (hM:M.ok) (w:Nat) (hw:ZU w):(QdL M w).1.ok/\Qjs (QdL M w).2/\(QdL M w).1.m.length=M.m.length:=by
 unfold QdL;split
 .exact ⟨hM,(fun l h=>by cases h),rfl⟩
 .exact ⟨QeU M hM w hw,QfG M w,QhF M hM w⟩
theorem QnC (fX:FN 244 [.s (.str ⟨#[0]⟩),.s (.i 128)] [] (. =⟨.a (.s (.str z128)),[],[]⟩)) (E:Eg) (hE:E.ok) (GU:E.o.length<900000) (w:Nat) (hw:ZU w) (hO:(QdL E.M w).2=none) :
  FN 49 [.s (.ptr 0 0),.s (.u w)] E.H (. =(sgl w E).R (.tup [])):=by
 have cs:=QlL fX E.M hE.M w;clear fX;obtain ⟨g1,g2,g3⟩:=Qle E.M hE.M w hw;unfold sgl;obtain ⟨M2,vY⟩:∃ M2,(QdL E.M w).1=M2:=⟨_,rfl⟩;rw [hO] at cs g2 |-;rw [vY] at cs g1 g3 |-;dsimp only [Option.toList,oS,oR] at cs |-;rw [List.append_nil];have uY:(⟨M2,E.T,E.B,E.o,E.f,E.s⟩:Eg).ok:=⟨g1,hE.T,hE.tl,hE.B,hE.bl,hE.o,hE.ol,hE.f⟩;have cset:=QjO E.M hE.M ⟨M2,E.T,E.B,E.o,E.f,E.s⟩ uY g3.symm;obtain ⟨T2,B2,_,he,hok⟩:=QrG E.M ⟨M2,E.T,E.B,E.o,E.f,E.s⟩ uY;rw [he] at cset;change Fn _ _ _ _ (. =(stl E.M ⟨M2,E.T,E.B,E.o,E.f,E.s⟩).R (.tup []));rw [he];clear he hok uY g2;have uK:(OLs E.o).length=E.o.length*ty101.size:=(Qaz hE.o).1;have vZ:=Qaf T2;have yT:=Qad B2;have yY:=Qaa M2.m;obtain ⟨jT,KE,_,_,_,_,_,_,_,_⟩:=g1;have fJ:=Qaa E.M.m;have gW:=Qaf E.T;have fG:=Qad E.B;have qH:=(Qaz hE.o).2.1;obtain ⟨hM,hT,_,hB,_,ho,vI,_⟩:=hE;obtain ⟨M,T,B,o,f,s⟩:=E;dsimp only [Eg.H,Eg.R,Eg.Rk,Eg.C,wrt] at *;obtain ⟨_,_,_,mg,_,_,_,_,d',n'⟩:=M2;dsimp only at *;cases QaO jT;cases zC8 KE;obtain ⟨_,_,_,_,_,_,_,_⟩:=d';obtain ⟨_,_,_,_,_,_⟩:=n';generalize VW:wsv mg=XV,hT2v:tes T2=TT2,hB2v:bks B2=BB2,T2.length=t2n,B2.length=b2n at *;clear vY hO;obtain ⟨hx,hc,hY,gA,gI,gB,gH,gE,gD,gG⟩:=hM;obtain ⟨_,_,_,m,_,_,_,_,d,n⟩:=M;dsimp only at *;cases QaO hx;cases zC8 hc;cases d;cases n;dsimp only [Mc.C,Mc.D,Dk.C,Nk.C,Dk.ok,Nk.ok] at *
 try dsimp only [cR,Mc.C,Mc.D,Dk.C,Nk.C] at *
 try simp only [Qai,zca,zna,List.getD_cons_succ,List.getD_cons_zero] at *
 generalize gP:wsv m=XX,hX3:bks B=BB,hX4:OLs o=OO,gJ:m.length=nn,gL:B.length=bn,hon:o.length=on,gT:tes T=TT,htn:T.length=tn,hg3:mg.length=nn3 at *;subst g3;have hol3:on<=900000:=vI;clear gP gT hX3 hX4 gJ gL hon htn hT hB ho hY gA gI gB gH gE gD gG hg3 VW hT2v hB2v;refine fnW Tryz.func49 ?_;(repeat' ((conv=>whnf);first|exact zi2|refine zj0 fun hb=>?_|refine zq0 ?_|refine QEN ?_|((with_reducible apply Vl.mk (α:=List SV)); . with_reducible exact List.append_nil OO)|(refine QaD cs ?_)|(refine QjY cset ?_)|refine zse ?_|refine zbb ?_ ?_))
 all_goals exact QDw
theorem QnD (fX:FN 244 [.s (.str ⟨#[0]⟩),.s (.i 128)] [] (. =⟨.a (.s (.str z128)),[],[]⟩)) (E:Eg) (hE:E.ok) (GU:E.o.length<900000) (w:Nat) (hw:ZU w) (l:List SV) (hO:(QdL E.M w).2=some l) :
  FN 49 [.s (.ptr 0 0),.s (.u w)] E.H (. =(sgl w E).R (.tup [])):=by
 have cs:=QlL fX E.M hE.M w;clear fX;obtain ⟨g1,g2,g3⟩:=Qle E.M hE.M w hw;unfold sgl;obtain ⟨M2,vY⟩:∃ M2,(QdL E.M w).1=M2:=⟨_,rfl⟩;rw [hO] at cs g2 |-;rw [vY] at cs g1 g3 |-;dsimp only [Option.toList,oS,oR] at cs |-;obtain ⟨uO,_,uP⟩:=g2 l rfl;have hos2:QbA (E.o++ [l]):=QdF (O:=some l) hE.o g2;have hOa:=Qn7 E.o l;have uC:(E.o++ [l]).length=E.o.length+1:=by simp
 have uY:(⟨M2,E.T,E.B,E.o++ [l],E.f,E.s⟩:Eg).ok:=⟨g1,hE.T,hE.tl,hE.B,hE.bl,hos2,by show (E.o++ [l]).length<=_;omega,hE.f⟩;have cset:=QjO E.M hE.M ⟨M2,E.T,E.B,E.o++ [l],E.f,E.s⟩ uY g3.symm;obtain ⟨T2,B2,_,he,hok⟩:=QrG E.M ⟨M2,E.T,E.B,E.o++ [l],E.f,E.s⟩ uY;have hO2b:Qaq (OLs (E.o++ [l]))=true:=(Qaz hos2).2.1;rw [he] at cset;change Fn _ _ _ _ (. =(stl E.M ⟨M2,E.T,E.B,E.o++ [l],E.f,E.s⟩).R (.tup []));rw [he];clear he hok uY g2;have uK:(OLs E.o).length=E.o.length*ty101.size:=(Qaz hE.o).1;have vZ:=Qaf T2;have yT:=Qad B2;have yY:=Qaa M2.m;obtain ⟨jT,KE,_,_,_,_,_,_,_,_⟩:=g1;have fJ:=Qaa E.M.m;have gW:=Qaf E.T;have fG:=Qad E.B;have qH:=(Qaz hE.o).2.1;obtain ⟨hM,hT,_,hB,_,ho,vI,_⟩:=hE;obtain ⟨M,T,B,o,f,s⟩:=E;dsimp only [Eg.H,Eg.R,Eg.Rk,Eg.C,wrt] at *;generalize OLs (o++ [l])=OO2 at *;rw [uC] at *;obtain ⟨_,_,_,mg,_,_,_,_,d',n'⟩:=M2;dsimp only at *;cases QaO jT;cases zC8 KE;obtain ⟨_,_,_,_,_,_,_,_⟩:=d';obtain ⟨_,_,_,_,_,_⟩:=n';generalize VW:wsv mg=XV,hT2v:tes T2=TT2,hB2v:bks B2=BB2,T2.length=t2n,B2.length=b2n at *;clear vY hO;obtain ⟨hx,hc,hY,gA,gI,gB,gH,gE,gD,gG⟩:=hM;obtain ⟨_,_,_,m,_,_,_,_,d,n⟩:=M;dsimp only at *;cases QaO hx;cases zC8 hc;cases d;cases n;dsimp only [Mc.C,Mc.D,Dk.C,Nk.C,Dk.ok,Nk.ok] at *
 try dsimp only [cR,Mc.C,Mc.D,Dk.C,Nk.C] at *
 try simp only [Qai,zca,zna,List.getD_cons_succ,List.getD_cons_zero] at *
 generalize gP:wsv m=XX,hX3:bks B=BB,hX4:OLs o=OO,gJ:m.length=nn,gL:B.length=bn,hon:o.length=on,gT:tes T=TT,htn:T.length=tn,hg3:mg.length=nn3 at *;subst g3;have hol3:on<=900000:=vI;clear gP gT hX3 hX4 gJ gL hon htn hT hB ho hY gA gI gB gH gE gD gG hg3 VW hT2v hB2v;refine fnW Tryz.func49 ?_;(repeat' ((conv=>whnf);first|exact zi2|refine zj0 fun hb=>?_|refine zq0 ?_|refine QEN ?_|(apply Sk.mk; . exact QdU l uO uP)|((with_reducible apply Vl.mk (α:=List SV)); . with_reducible exact hOa.symm)|(refine QaD cs ?_)|(refine QjY cset ?_)|refine zse ?_|refine zbb ?_ ?_))
 all_goals exact QDw
theorem Qrz (fX:FN 244 [.s (.str ⟨#[0]⟩),.s (.i 128)] [] (. =⟨.a (.s (.str z128)),[],[]⟩)) (E:Eg) (hE:E.ok) (GU:E.o.length<900000) (w:Nat) (hw:ZU w) :
  FN 49 [.s (.ptr 0 0),.s (.u w)] E.H (. =(sgl w E).R (.tup [])):=by
 cases hO:(QdL E.M w).2 with
 | none=>exact QnC fX E hE GU w hw hO
 | some l=>exact QnD fX E hE GU w hw l hO
end Go.Proofs.YtflaceijiphfdaaGreat
