import Derived.Test.YtflelebfmdggkaaGreatP153
import Derived.Test.YtflelebfmdggkaaGreatP161
import Derived.Test.YtflelebfmdggkaaGreatP163
import Derived.Test.YtflelebfmdggkaaGreatP23
set_option linter.unusedSimpArgs false
set_option linter.unusedVariables false
set_option maxHeartbeats 100000000
set_option maxRecDepth 100000
namespace Go.Proofs.YtflelebfmdggkaaGreat
open Go Go.RowKit
theorem QJs (np i s:Nat) (ZK:np<=20) (hs:s<=6*i) (ps:List Int) (wO:ps.length=np) (A0 A1:List SV) (GA:isv .i64 ps=A1) (hA0s:Qau A0=true) (M0:Mc) (hM0:M0.ok) (E:Eg) (hE:E.ok) (hC:Coh E) (fK:QbQ E.M=true) (os:List (List SV)) (qX:Qbn os) (jH:os.length<=s) (K:Exit->St->Prop) (hi:i=np)
  (hB:∀ σ1,Wk Tryz.f3.ntmps 2 σ1 (Qnz np np s os.length A0 A1 (M0.C 3) (wsv M0.m) (E.V 5 6 7) (wsv E.M.m) (tes E.T) (bks E.B) (OLs os))->K (.exit 0) σ1) :
  vc Tryz.prog tys Tryz.f3.ntmps 2 bdL (Qnz np i s os.length A0 A1 (M0.C 3) (wsv M0.m) (E.V 5 6 7) (wsv E.M.m) (tes E.T) (bks E.B) (OLs os)) K:=by
 subst hi;have hA1s:Qau A1=true:=by rw [<- GA];exact QaO _ _
 have vO:=Qaa M0.m;obtain ⟨vY,_,_⟩:=QaA qX;have jZ:=Qaa E.M.m;have jT:=Qaf E.T;have jY:=Qad E.B;have WY:=hM0.x;have JD:=hM0.c;have uD:=hE.M.x;have uQ:=hE.M.c;clear hE hC fK hM0 qX GA wO;obtain ⟨M,T,B⟩:=E;dsimp only [Eg.V] at *;generalize OLs os=OL,os.length=ol,wsv M0.m=X0,wsv M.m=XE,tes T=TE,bks B=BE,T.length=tn,B.length=bn at *;obtain ⟨_,_,_,mm,_,_,_,_,dm,nm⟩:=M0;dsimp only at *;cases zC16 WY;cases zC8 JD;cases dm;cases nm;obtain ⟨_,_,_,me,_,_,_,_,de,ne⟩:=M;dsimp only at *;cases zC16 uD;cases zC8 uQ;cases de;cases ne;unfold Qnz;unfold Qnz at hB;simp only [Qah,zca,zna,Mc.C,Mc.D,Dk.C,Nk.C] at *;generalize mm.length=nm,me.length=nE at *;(repeat' ((conv=>whnf);first|exact zi4|(refine zj4 ?_;intro hb)|refine zse ?_|refine zbb ?_ ?_));all_goals (conv=>whnf)
 all_goals first|(refine hB _ ?_;(exact zwL [(0,some 0),(1,some 1),(2,some 2),(3,some 3),(4,some 4),(5,some 5),(6,some 6),(7,some 7),(8,some 8)]))
theorem Qtf (kind:Int) (ls ps:List Int) (nl np:Nat) (hn:ls.length=nl) (hp:ps.length=np) (h:¬ (nl<=40/\np<=20)) :
  FN 3 [.s (.i kind),.s (.sl 0 0 nl),.s (.sl 1 0 np)] [⟨false,1,isv .i64 ls⟩,⟨false,1,isv .i64 ps⟩] (. =⟨.a (.s (.bool true)),[],[]⟩):=by
 have ca:=Qhu;have vO:=QaO .i64 ls;have fJ:=QaO .i64 ps;generalize isv .i64 ls=A0,isv .i64 ps=A1 at *;refine fnW Tryz.func3 ?_;(repeat' ((conv=>whnf);first|exact zi4|(refine zj4 ?_;intro hb)|(refine zpu ca ?_)|refine zse ?_|refine zbb ?_ ?_))
 all_goals exact QFw
theorem Qph (fI:FN 251 [.s (.str ⟨#[0]⟩),.s (.i 128)] [] (. =⟨.a (.s (.str z128)),[],[]⟩)) (gW:∀ (E:Eg) (lim:Nat),E.ok->Coh E->lim<18446744073709551616->FN 44 [.s (.ptr 0 0),.s (.w lim)] E.H (. =(Qee lim E).1.R (.a (.s (.w ((Qee lim E).2:Nat))))))
  (kind:Int) (ls ps:List Int) (nl np:Nat) (hn:ls.length=nl) (hp:ps.length=np) (h1:nl<=40) (h2:np<=20) :
  FN 3 [.s (.i kind),.s (.sl 0 0 nl),.s (.sl 1 0 np)] [⟨false,1,isv .i64 ls⟩,⟨false,1,isv .i64 ps⟩] (. =⟨.a (.s (.bool true)),[],[]⟩):=by
 have ca:=Qhu;have cm:=Qnw kind ls nl hn h1;have vO:=QaO .i64 ls;have fJ:=QaO .i64 ps;generalize isv .i64 ls=A0 at *;obtain ⟨A1,GA⟩:∃ A,isv .i64 ps=A:=⟨_,rfl⟩;rw [GA] at fJ |-;refine fnW Tryz.func3 ?_;(repeat' ((conv=>whnf);first|exact zi4|(refine zj4 ?_;intro hb)|(refine Qip cm [⟨0,0⟩] [(0,⟨false,1,A0⟩)] aRn ⟨rfl,trivial⟩ ⟨rfl,Qar (by assumption),trivial⟩ ?_ ?_;(focus (rintro R ⟨M,_,_,rfl⟩;exact ⟨(by show 1<=Qao;decide),fun p h=>by cases h⟩));rintro R ⟨M,hM,⟨GO,UQ⟩,rfl⟩;have cn:=QDU M hM;have hsM:=Qaa M.m;obtain ⟨MS,uE⟩:∃ r:Mc,r=M:=⟨_,rfl⟩;have hM0:MS.ok:=uE ▸ hM;rw [<- uE] at GO UQ;have GD:=hM.x;have qM:=hM.c;clear hM;obtain ⟨X0,KI⟩:∃ A,A=wsv M.m:=⟨_,rfl⟩;rw [<- KI] at cn hsM;obtain ⟨_,_,ca,ma,_,_,_,_,da,na,_,_,_,_,_⟩:=M;dsimp only at *;cases zC16 GD;cases zC8 qM;cases da;cases na;dsimp only [Mc.N] at cn;simp only [Qah,zca,zna,Mc.C,Mc.D,Dk.C,Nk.C] at cn |-;generalize gJ:ma.length=nn at *;rw [<- KI])|(refine QaD cn ?_)|refine zse ?_|refine zbb ?_ ?_));all_goals (conv=>whnf)
 all_goals try (first|(exfalso;omega)|(exfalso;simp at hb;done))
 refine QkS (x:=vc Tryz.prog tys Tryz.f3.ntmps 2 bdL) (by kernel_rfl) ?_;refine QrC (fun mm σ=>∃ (E:Eg) (os:List (List SV)) (i s:Nat),mm=np-i/\i<=np/\s<=6*i/\E.ok/\Coh E/\QbQ E.M=true/\os.length<=s/\Qkb s MS os E.M/\σ=Qnz np i s os.length A0 A1 (MS.C 3) (wsv MS.m) (E.V 5 6 7) (wsv E.M.m) (tes E.T) (bks E.B) (OLs os)) (fun σ=>∃ (E:Eg) (os:List (List SV)) (s:Nat),s<=6*np/\E.ok/\(∀ x∈os,oK x)/\os.length<=s/\Qkb s MS os E.M/\σ=Qnz np np s os.length A0 A1 (MS.C 3) (wsv MS.m) (E.V 5 6 7) (wsv E.M.m) (tes E.T) (bks E.B) (OLs os)) 0 ?_ ?_ ?_
 .have HA:(⟨MS,[],[],[],0,false⟩:Eg).ok:=⟨hM0,(fun t h=>by cases h),Nat.zero_le _,(fun b h=>by cases h),Nat.zero_le _,(show Qbn [] from fun l h=>by cases h),Nat.zero_le _,by show (0:Nat)<_;decide⟩
  have hC0:Coh (⟨MS,[],[],[],0,false⟩:Eg):=⟨by show mpg MS.m.length*32=MS.m.length;rw [GO];rfl,rfl,⟨Nat.zero_le _,fun i b h=>by cases i<;>cases h⟩⟩;refine ⟨np,Qnz np 0 0 0 A0 A1 (MS.C 3) (wsv MS.m) (Eg.V ⟨MS,[],[],[],0,false⟩ 5 6 7) (wsv MS.m) [] [] [],?_,⟨MS,[],[],[],0,false⟩,[],0,0,rfl,Nat.zero_le _,Nat.zero_le _,HA,hC0,UQ,Nat.zero_le _,⟨rfl,rfl⟩,rfl⟩;rw [uE];rw [<- KI];unfold Qnz;dsimp only [Eg.V,List.length_nil];simp only [Qah,zca,zna,Mc.C,Mc.D,Dk.C,Nk.C,gJ]
  (exact zwL [(0,some 0),(1,some 1),(2,some 196800),(3,some 196736),(4,some 262272),(5,some 262208),(6,none),(7,none),(8,none)])
 .rintro mm σ ⟨E,os,i,s,zA,qB,YB,hE,hC,fK,jH,VW,rfl⟩ K hB hN
  have qX:=Qvw VW
  by_cases hi:i<np
  .obtain ⟨k,hk⟩:∃ k:Nat,ps.getD i 0%7=(k:Int):=⟨(ps.getD i 0%7).toNat,by omega⟩
   have hk7:k<7:=by omega
   have hz:E.z.ok:=⟨hE.M,hE.T,hE.tl,hE.B,hE.bl,(by unfold Qbn;exact fun l h=>by cases h),Nat.zero_le _,by show (0:Nat)<_;decide⟩
   have qQ:E.M.ct<=1152921504606846976:=by
    have h:=fK;unfold QbQ at h;exact (of_decide_eq_true h).2.2.2.2.2.2.2.2.2.2.2.1
   have hL:QiA E.M k<=k:=by unfold QiA;omega
   have hD:=Qin (QiA E.M k) (QiA E.M k) 0 E.z hz ⟨hC.n,hC.T,hC.B⟩ fK (Nat.zero_le _) (by omega) (by show E.M.ct+(QiA E.M k-0)<=_;unfold QiA;omega) (by show 0+(QiA E.M k-0)<=_;omega);change Adv _ _ _ (QiL E k) at hD;obtain ⟨l,ho,hr⟩:=hD.run;rw [show E.z.o= [] from rfl,zna] at ho;subst ho;rw [Nat.sub_zero] at hr;have yG:=hD.li;have hoL:=hD.ol;exact QJ3 fI gW np i s h2 YB ps hp A0 A1 GA vO MS hM0 E hE hC fK os (Qso qX) jH K hi k hk hk7 (QiL E k) rfl (by omega) hD.ok (by rw [show E.z.o.length=0 from rfl] at hoL;omega) fun σ1 hw=>hN (mm-1) _ σ1 (by omega) hw ⟨(QiL E k).1,os++(QiL E k).1.o,i+1,s+(QiL E k).2,by omega,by omega,by omega,hD.ok,hD.coh,hD.may,by rw [zla];rw [show E.z.o.length=0 from rfl] at hoL;omega,QdL VW hr,rfl⟩
  .obtain rfl:i=np:=by omega
   exact QJs i i s h2 YB ps hp A0 A1 GA vO MS hM0 E hE hC fK os (Qso qX) jH K rfl fun σ1 hw=>hB _ σ1 ⟨E,os,s,YB,hE,qX,jH,VW,rfl⟩ hw
 .rintro σ ⟨E,os,s,YB,hE,qX,jH,VW,rfl⟩
  have cst:=QsE MS hM0 s (by omega);rw [Qon [] 0 VW,zna,Nat.zero_add] at cst;have csm:=QsI E.M hE.M;have cso:=Qs3 os _ rfl (by omega) qX;clear cm cn GA hp hn UQ GO;obtain ⟨vY,_,_⟩:=QaA (Qso qX);have hsm0:=Qaa MS.m;have jZ:=Qaa E.M.m;have jT:=Qaf E.T;have jY:=Qad E.B;have uD:=hE.M.x;have uQ:=hE.M.c;have WY:=hM0.x;have JD:=hM0.c;clear hE VW qX KI hsM hM0 uE;obtain ⟨M,T,B,o⟩:=E;dsimp only [Eg.V] at *;generalize OLs os=OL,os.length=ol,wsv MS.m=XM,wsv M.m=XE,tes T=TE,bks B=BE,T.length=tn,B.length=bn at *;obtain ⟨_,_,cm,mm,_,_,_,_,dm,nm⟩:=MS;dsimp only at *;cases zC16 WY;cases zC8 JD;cases dm;cases nm;obtain ⟨_,_,_,me,_,_,_,_,de,ne⟩:=M;dsimp only at *;cases zC16 uD;cases zC8 uQ;cases de;cases ne;unfold Qnz;simp only [Qah,zca,zna,Mc.C,Mc.D,Dk.C,Nk.C] at *;generalize mm.length=nm,me.length=nE at *;(repeat' ((conv=>whnf);first|exact zi4|(refine zj4 ?_;intro hb)|(refine QaD cst ?_)|(refine QhF csm ?_)|(refine QhF cso ?_)|(refine zpu ca ?_)|refine zse ?_|refine zbb ?_ ?_))
  all_goals exact QB4
theorem lbud_fn (kind:Int) (ls ps:List Int) (nl np:Nat) (hn:ls.length=nl) (hp:ps.length=np) :
  FN 3 [.s (.i kind),.s (.sl 0 0 nl),.s (.sl 1 0 np)] [⟨false,1,isv .i64 ls⟩,⟨false,1,isv .i64 ps⟩] (. =⟨.a (.s (.bool true)),[],[]⟩):=by
 by_cases h:nl<=40/\np<=20
 .exact Qph QDO Qwm kind ls ps nl np hn hp h.1 h.2
 .exact Qtf kind ls ps nl np hn hp h
end Go.Proofs.YtflelebfmdggkaaGreat
