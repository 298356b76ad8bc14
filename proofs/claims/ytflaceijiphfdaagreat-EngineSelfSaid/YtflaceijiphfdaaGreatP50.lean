import Derived.Test.YtflaceijiphfdaaGreatP46
import Derived.Test.YtflaceijiphfdaaGreatP49
set_option linter.unusedSimpArgs false
set_option linter.unusedVariables false
set_option maxHeartbeats 0
set_option maxRecDepth 100000
namespace Go.Proofs.YtflaceijiphfdaaGreat
open Go Go.RowKit
noncomputable def bdP:Code:=(lpB (Tryz.f13.body.getD .skip)).getD 0 .skip
def Qcq (k ol n:Nat) (A0 MC Z X OL:List SV):St :=
 ⟨[(1,.a (.s (.w k))),(2,.a (.s (.ptr 1 0))),(4,.a (.s (.ptr 2 0))),(7,.a (.s (.sl 4 0 ol))),(8,.a (.s (.w n)))],
  [(0,some ⟨false,1,A0⟩),(1,some ⟨true,1,MC⟩),(2,some ⟨true,1,Z⟩),(3,some ⟨true,1,X⟩),(4,some ⟨true,4,OL⟩)],[0]⟩
theorem QF3 (k n:Nat) (hk:k<=4000) (A0 Z:List SV) (hA0:Qaq A0=true) (HX:Qaq Z=true) (M:Mc) (hM:M.ok) (os:List (List SV)) (vO:QbA os) (vI:os.length<=n) (K:Exit->St->Prop) (hn:¬ n<k) (hB:∀ σ1,Wk Tryz.f13.ntmps 1 σ1 (Qcq k os.length n A0 (M.C 3) Z (wsv M.m) (OLs os))->K (.exit 0) σ1) :
  vc Tryz.prog tys Tryz.f13.ntmps 1 bdP (Qcq k os.length n A0 (M.C 3) Z (wsv M.m) (OLs os)) K:=by
 obtain ⟨uK,_,_⟩:=Qaz vO;have YS:=Qaa M.m;have qs:=QcO M hM;have qr:=QcN M hM;have JI:=hM.x;have KH:=hM.c;exact QGN
theorem QF4 (k n:Nat) (hk:k<=4000) (A0 Z:List SV) (hA0:Qaq A0=true) (HX:Qaq Z=true) (M:Mc) (hM:M.ok) (os:List (List SV)) (vO:QbA os) (vI:os.length<=n) (K:Exit->St->Prop) (hn:n<k) (h1:Qch M=true) (hB:∀ σ1,Wk Tryz.f13.ntmps 1 σ1 (Qcq k os.length n A0 (M.C 3) Z (wsv M.m) (OLs os))->K (.exit 0) σ1) :
  vc Tryz.prog tys Tryz.f13.ntmps 1 bdP (Qcq k os.length n A0 (M.C 3) Z (wsv M.m) (OLs os)) K:=by
 obtain ⟨uK,_,_⟩:=Qaz vO;have YS:=Qaa M.m;have qs:=QcO M hM;have qr:=QcN M hM;have JI:=hM.x;have KH:=hM.c;rw [h1] at qs;clear h1;exact QGN
theorem QF5 (k n:Nat) (hk:k<=4000) (A0 Z:List SV) (hA0:Qaq A0=true) (HX:Qaq Z=true) (M:Mc) (hM:M.ok) (os:List (List SV)) (vO:QbA os) (vI:os.length<=n) (K:Exit->St->Prop) (hn:n<k) (h1:Qch M=false) (h2:Qe3 M=true) (hB:∀ σ1,Wk Tryz.f13.ntmps 1 σ1 (Qcq k os.length n A0 (M.C 3) Z (wsv M.m) (OLs os))->K (.exit 0) σ1) :
  vc Tryz.prog tys Tryz.f13.ntmps 1 bdP (Qcq k os.length n A0 (M.C 3) Z (wsv M.m) (OLs os)) K:=by
 obtain ⟨uK,_,_⟩:=Qaz vO;have YS:=Qaa M.m;have qs:=QcO M hM;have qr:=QcN M hM;have JI:=hM.x;have KH:=hM.c;rw [h1] at qs;rw [h2] at qr;clear h1 h2;exact QGN
theorem QF6 (k n:Nat) (hk:k<=4000) (A0 Z:List SV) (hA0:Qaq A0=true) (HX:Qaq Z=true) (M:Mc) (hM:M.ok) (os:List (List SV)) (vO:QbA os) (vI:os.length<=n) (K:Exit->St->Prop) (hn:n<k) (h1:Qch M=false) (h2:Qe3 M=false)  (hO:(Qbi M 0).2=none) (hN:∀ σ1,Wk Tryz.f13.ntmps 1 σ1 (Qcq k (os++(Qbi M 0).2.toList).length (n+1) A0 ((Qbi M 0).1.C 3) Z (wsv (Qbi M 0).1.m) (OLs (os++(Qbi M 0).2.toList)))->K .normal σ1) :
  vc Tryz.prog tys Tryz.f13.ntmps 1 bdP (Qcq k os.length n A0 (M.C 3) Z (wsv M.m) (OLs os)) K:=by
 obtain ⟨uK,_,_⟩:=Qaz vO;have YS:=Qaa M.m;have qs:=QcO M hM;have qr:=QcN M hM;have JI:=hM.x;have KH:=hM.c;rw [h1] at qs;rw [h2] at qr;clear h1 h2;have qa:=Qme M hM 0 (by decide);have hak:=QeU M hM 0 (by decide);have gZ:=QhF M hM 0;have q2:IntKind.u64.wrap ((n:Int)+1)=((n+1:Nat):Int):=Qg8;rw [hO] at qa hN;generalize (Qbi M 0).1=M3 at *;have fG:=Qaa M3.m;have UO:=hak.x;have ZK:=hak.c;dsimp only [Option.toList,oS,oR] at *;clear hM vO hak hO;rw [List.append_nil] at hN;replace uK:(OLs os).length=os.length*ty101.size:=uK;generalize OLs os=OL,os.length=ol,wsv M.m=Xe,wsv M3.m=Xg at *;obtain ⟨_,_,_,me,_,_,_,_,de,ne⟩:=M;dsimp only at *;cases QaO JI;cases zC8 KH;cases de;cases ne;obtain ⟨_,_,_,mg,_,_,_,_,dg,ng⟩:=M3;dsimp only at *;cases QaO UO;cases zC8 ZK;cases dg;cases ng;unfold Qcq;unfold Qcq at hN;simp only [Qai,zca,zna,Mc.C,Mc.D,Dk.C,Nk.C] at *;generalize mg.length=nn3,me.length=nn1 at *;subst gZ;(repeat' ((conv=>whnf);first|exact zi4|refine zj4 fun hb=>?_|refine QhE ?_|refine QEN ?_|((with_reducible apply Vl.mk (α:=List SV)); . with_reducible exact List.append_nil OL)|(refine QaD qs ?_)|(refine QaD qr ?_)|(refine Qsc qa ?_)|refine zse ?_|refine zbb ?_ ?_))
 all_goals exact QDF
theorem QF7 (k n:Nat) (hk:k<=4000) (A0 Z:List SV) (hA0:Qaq A0=true) (HX:Qaq Z=true) (M:Mc) (hM:M.ok) (os:List (List SV)) (vO:QbA os) (vI:os.length<=n) (K:Exit->St->Prop) (hn:n<k) (h1:Qch M=false) (h2:Qe3 M=false) (l:List SV) (hO:(Qbi M 0).2=some l) (hN:∀ σ1,Wk Tryz.f13.ntmps 1 σ1 (Qcq k (os++(Qbi M 0).2.toList).length (n+1) A0 ((Qbi M 0).1.C 3) Z (wsv (Qbi M 0).1.m) (OLs (os++(Qbi M 0).2.toList)))->K .normal σ1) :
  vc Tryz.prog tys Tryz.f13.ntmps 1 bdP (Qcq k os.length n A0 (M.C 3) Z (wsv M.m) (OLs os)) K:=by
 obtain ⟨uK,hO2,_⟩:=Qaz vO;have YS:=Qaa M.m;have qs:=QcO M hM;have qr:=QcN M hM;have JI:=hM.x;have KH:=hM.c;rw [h1] at qs;rw [h2] at qr;clear h1 h2;have qa:=Qme M hM 0 (by decide);have hak:=QeU M hM 0 (by decide);have gZ:=QhF M hM 0;have q2:IntKind.u64.wrap ((n:Int)+1)=((n+1:Nat):Int):=Qg8;obtain ⟨uO,hls,uP⟩:=QfG M 0 l hO;have hOa:=Qn7 os l;have uC:(os++ [l]).length=os.length+1:=by simp
 rw [hO] at qa hN;generalize (Qbi M 0).1=M3 at *;have fG:=Qaa M3.m;have UO:=hak.x;have ZK:=hak.c;dsimp only [Option.toList,oS,oR] at *;clear hM vO hak hO;rw [uC,hOa] at hN;have hO2b:Qaq (OLs os++l)=true:=Qbb hO2 hls;obtain ⟨_,hOap⟩:∃ L,OLs os++l=L:=⟨_,rfl⟩;rw [hOap] at hN hO2b;clear hOa uC;replace uK:(OLs os).length=os.length*ty101.size:=uK;generalize OLs os=OL,os.length=ol,wsv M.m=Xe,wsv M3.m=Xg at *;obtain ⟨_,_,_,me,_,_,_,_,de,ne⟩:=M;dsimp only at *;cases QaO JI;cases zC8 KH;cases de;cases ne;obtain ⟨_,_,_,mg,_,_,_,_,dg,ng⟩:=M3;dsimp only at *;cases QaO UO;cases zC8 ZK;cases dg;cases ng;unfold Qcq;unfold Qcq at hN;simp only [Qai,zca,zna,Mc.C,Mc.D,Dk.C,Nk.C] at *;generalize mg.length=nn3,me.length=nn1 at *;subst gZ;(repeat' ((conv=>whnf);first|exact zi4|refine zj4 fun hb=>?_|refine QhE ?_|refine QEN ?_|(apply Sk.mk; . exact QdU l uO uP)|((with_reducible apply Vl.mk (α:=List SV)); . with_reducible exact hOap)|(refine QaD qs ?_)|(refine QaD qr ?_)|(refine Qsc qa ?_)|refine zse ?_|refine zbb ?_ ?_))
 all_goals exact QDF
def Z41:List SV:=List.replicate 25 (.u 0)++ [.nilsl,.str ⟨#[]⟩,.bool false,.u 0,.bool false,.u 0,.u 0,.u 0,.i 0,.i 0,.u 0,.u 0,.str ⟨#[]⟩,.u 0,.u 0,.bool false,.u 0,.bool false,.u 0,.u 0,.u 0,.w 0,.bool false,.bool false]
theorem QvJ:∀ {k:Nat} {M:Mc} {os:List (List SV)} {n:Nat},M.ok->QbA os->(stR k M os n).1.ok/\QbA (stR k M os n).2.1
 | 0,_,_,_,h,h'=>⟨h,h'⟩
 | k+1,M,os,n,h,h'=>by
  unfold stR;split
  .exact ⟨h,h'⟩
  split
  .exact ⟨h,h'⟩
  .exact QvJ (QeU M h 0 (by decide)) (QdF h' (QfG M 0))
theorem Quq (M:Mc) (hM:M.ok) (k:Nat) (hk:k<=4000):FN 13 [.agg (M.C 0),.s (.w k)] [⟨false,1,wsv M.m⟩]
  (. =⟨.tup [.agg ((stR k M [] 0).1.C 1),.s (.sl 2 0 (stR k M [] 0).2.1.length),.s (.w ((stR k M [] 0).2.2:Nat))],[],[⟨true,1,wsv (stR k M [] 0).1.m⟩,⟨true,4,OLs (stR k M [] 0).2.1⟩]⟩):=by
 have q0:=QB0 M hM;have yK:=Qaa M.m;obtain ⟨hRM,WY⟩:=QvJ (k:=k) (n:=0) hM (show QbA [] from fun l h=>by cases h);obtain ⟨R,hR⟩:∃ R,stR k M [] 0=R:=⟨_,rfl⟩;rw [hR] at hRM WY |-;obtain ⟨Mz,oz,nz⟩:=R;dsimp only at hRM WY |-;obtain ⟨MS,WX⟩:∃ r:Mc,r=M:=⟨_,rfl⟩;rw [<- WX] at hR;have WU:MS.ok:=by rw [WX];exact hM
 obtain ⟨A0,hA0⟩:∃ A,A=wsv M.m:=⟨_,rfl⟩;rw [<- hA0] at q0 yK |-;have FG:=hM.x;have qJ:=hM.c;have hxz:=hRM.x;have GQ:=hRM.c;have fQ:=Qaa Mz.m;obtain ⟨_,_,_⟩:=Qaz WY;clear hM hRM WY;obtain ⟨_,_,_,ma,_,_,_,_,da,na⟩:=M;dsimp only at *;cases QaO FG;cases zC8 qJ;cases da;cases na;simp only [Qai,zca,zna,Mc.C,Mc.D,Dk.C,Nk.C] at q0 |-;generalize gJ:ma.length=nn at *;obtain ⟨Z,hZ⟩:∃ Z,Z41=Z:=⟨_,rfl⟩;have hZl:Z.length=49:=by rw [<- hZ];rfl
 have HX:Qaq Z=true:=by rw [<- hZ];rfl
 refine fnW Tryz.func13 ?_;(conv=>whnf);(repeat' ((first|exact zi4|refine zj4 fun hb=>?_|(refine QaD q0 ?_)|refine zse ?_|refine zbb ?_ ?_)<;>conv=>whnf))
 refine Qqj (x:=vc Tryz.prog tys Tryz.f13.ntmps 1 bdP) (by kernel_rfl) ?_;refine Qqk (fun mm σ=>∃ (M:Mc) (os:List (List SV)) (n:Nat),mm=k-n/\n<=k/\M.ok/\QbA os/\os.length<=n/\stR (k-n) M os n=(Mz,oz,nz)/\σ=Qcq k os.length n A0 (M.C 3) Z (wsv M.m) (OLs os)) (Qcq k oz.length nz A0 (Mz.C 3) Z (wsv Mz.m) (OLs oz)) 0 ?_ ?_ ?_
 .refine ⟨k,Qcq k 0 0 A0 (MS.C 3) Z (wsv MS.m) [],?_,MS,[],0,rfl,Nat.zero_le _,WU,(fun l h=>by cases h),Nat.zero_le _,hR,rfl⟩
  rw [WX];rw [<- hA0,<- hZ];unfold Qcq Z41;simp only [Qai,zca,zna,Mc.C,Mc.D,Dk.C,Nk.C,gJ]
  (exact zwL [(0,some 0),(1,some 65536),(2,some 65600),(3,some 131136),(4,none)])
 .rintro mm σ ⟨M,os,n,uQ,gD,hM,vO,vI,gX,rfl⟩ K hB hN
  have ZI:∀ {M':Mc} {os':List (List SV)} {n':Nat},(M',os',n')=(Mz,oz,nz)->Qcq k os'.length n' A0 (M'.C 3) Z (wsv M'.m) (OLs os')=Qcq k oz.length nz A0 (Mz.C 3) Z (wsv Mz.m) (OLs oz):=fun e=>by injection e with e1 e2;injection e2 with e2 e3;subst e1 e2 e3;rfl
  by_cases hn:n<k
  .obtain ⟨j,hj⟩:∃ j,k-n=j+1:=⟨k-n-1,by omega⟩
   rw [hj] at gX;unfold stR at gX
   cases h1:Qch M with
   | true =>
    rw [zP h1] at gX;rw [<- ZI gX] at hB;exact QF4 k n hk A0 Z yK HX M hM os vO vI K hn h1 hB
   | false =>
    rw [zN (by rw [h1];decide)] at gX
    cases h2:Qe3 M with
    | true =>
     rw [zP h2] at gX;rw [<- ZI gX] at hB;exact QF5 k n hk A0 Z yK HX M hM os vO vI K hn h1 h2 hB
    | false =>
     rw [zN (by rw [h2];decide)] at gX;have YN:k-(n+1)=j:=by omega
     rw [<- YN] at gX;have VD:=fun σ1 h=>hN (mm-1) _ σ1 (by omega) h ⟨(Qbi M 0).1,os++(Qbi M 0).2.toList,n+1,by omega,by omega,QeU M hM 0 (by decide),QdF vO (QfG M 0),by cases h:(Qbi M 0).2<;>simp [Option.toList]<;>omega,gX,rfl⟩
     cases hO:(Qbi M 0).2 with
     | none=>exact QF6 k n hk A0 Z yK HX M hM os vO vI K hn h1 h2 hO VD
     | some l=>exact QF7 k n hk A0 Z yK HX M hM os vO vI K hn h1 h2 l hO VD
  .rw [show k-n=0 by omega] at gX
   rw [<- ZI gX] at hB;exact QF3 k n hk A0 Z yK HX M hM os vO vI K hn hB
 .clear hR WX WU hA0 q0 hZ
  generalize OLs oz=OL,oz.length=ol,wsv Mz.m=Xz at *;obtain ⟨_,_,_,mz,_,_,_,_,dz,nz⟩:=Mz;dsimp only at *;cases QaO hxz;cases zC8 GQ;cases dz;cases nz;unfold Qcq;simp only [Qai,zca,zna,Mc.C,Mc.D,Dk.C,Nk.C] at *;generalize mz.length=nn1 at *;(repeat' ((conv=>whnf);first|exact zi4|refine zj4 fun hb=>?_|((with_reducible apply Vl.mk (α:=List SV)); . exact QbQ (by rw [hZl];rfl))|(apply Sd.mk; . exact ⟨rfl,rfl,rfl,(by show 0+_<=Z.length;rw [hZl];exact Nat.le_refl 49)⟩)|refine zse ?_|refine zbb ?_ ?_))
  all_goals exact QDz
theorem Qt7 (M:Mc) (hM:M.ok):FN 14 [.agg (M.C 0),.agg (M.C 1)] [⟨false,1,wsv M.m⟩,⟨false,1,wsv M.m⟩] (. =⟨.a (.s (.bool true)),[],[]⟩):=by
 have GH:=QyF M.m _ rfl (by have:=hM.ml;omega);have gK:=Qaa M.m;have k1:=QsL M.x M.pc M.c hM.x hM.c;obtain ⟨hx,hc,hY,gA,_,gB,_,gE,gD,gG⟩:=hM;obtain ⟨x,pc,c,m,_,_,_,_,d,n⟩:=M;dsimp only at *;cases QaO hx;cases zC8 hc;cases d;cases n;dsimp only [Mc.C,Mc.D,Dk.C,Nk.C,Dk.ok,Nk.ok] at *;simp only [Qai] at k1;generalize m.length=nn,wsv m=XX at *;clear hY gA gE gD gB gG;refine fnW Tryz.func14 ?_;(conv=>whnf);(repeat' ((first|exact zi2|refine zj0 fun hb=>?_|(refine Eqs.mk true (Qi6 _ QFx rfl _ _ _ (by with_reducible exact k1)) ?_)|(refine Qg6 GH ?_)|refine zse ?_|refine zbb ?_ ?_)<;>conv=>whnf))
 all_goals clear GH k1
 all_goals first|(exfalso;simp_all [QbN];done)|(refine QcD ?_ ?_;(focus (exact QdQ));simp [QbN];done)
end Go.Proofs.YtflaceijiphfdaaGreat
