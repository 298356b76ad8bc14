import Derived.Test.YtflelebfmdggkaaGreatP154
set_option linter.unusedSimpArgs false
set_option linter.unusedVariables false
set_option maxHeartbeats 100000000
set_option maxRecDepth 100000
namespace Go.Proofs.YtflelebfmdggkaaGreat
open Go Go.RowKit
theorem QHq (lim rl j d:Nat) (qU:lim<18446744073709551616) (L:List SV) (YT:Qau L=true) (E:Eg) (hok:E.ok) (fG:Coh E) (zT:d<=lim) (K:Exit->St->Prop) (m1:Mi) (qD:Qbt m1) (zY:1<=m1.n) (vI:m1.n<=16) (hj:j<rl) (FB:rl<=16) (seg:(m1.C).length=6/\∀ (i:Nat) s,(m1.C)[i]?=some s->L[j*6+i]?=some s) (hA:¬ lim-d<m1.n.toNat) (wC:(exO E m1).2=true) (hs:(exO E m1).1.s=true) (hB:∀ σ1,Wk Tryz.f44.ntmps 5 σ1 (QsB (ctE m1.n.toNat (exO E m1).1) (d+m1.n.toNat))->K (.exit 0) σ1) :
  vc Tryz.prog tys Tryz.f44.ntmps 5 bdU (Qmx lim rl j d E L) K:=by
 unfold Qmx Qu6;unfold QsB Qz5 at hB;have ce_:=QqY E hok fG m1 qD ⟨zY,vI⟩;obtain ⟨_,_,X',T',B',_,uV,JW,zE,wM,jX⟩:=QlK E hok fG m1 qD wC;rw [uV] at ce_ hs hB wM jX;rw [wC] at ce_;clear uV wC;dsimp only at hs;subst hs;obtain ⟨nN,JA⟩:∃ nN:Nat,m1.n=(nN:Int):=⟨m1.n.toNat,by omega⟩;have KM:m1.n.toNat=nN:=by omega
 rw [KM] at hA hB;have q2:IntKind.i64.wrap ((j:Int)+1)=((j+1:Nat):Int):=QbP;have q3:IntKind.u64.wrap ((lim:Int)-(d:Int))=((lim-d:Nat):Int):=Qe5;have ix1:0+((j:Nat):Int).toNat * ty119.size=j*6:=Qun;have jZ:=Qaa E.M.m;have jT:=Qaf E.T;have jY:=Qad E.B;have yA:=(QaA hok.o).2.1;have q4:IntKind.u64.wrap ((E.M.ct:Int)+(nN:Int))=(((E.M.ct+nN)%18446744073709551616:Nat):Int):=by rw [QnY];omega
 have q5:IntKind.u64.wrap ((d:Int)+(nN:Int))=((d+nN:Nat):Int):=Qe5;have HF:=Qaa X';have hsT':=Qaf T';have hsB':=Qad B';cases zC16 JW;unfold ctE at hB;dsimp only at hB;generalize qZ:(E.M.ct+nN)%18446744073709551616=ct2 at *;clear wM jX;obtain ⟨_,_,_,_,mk⟩:=m1;dsimp only [Mi.C] at *;subst JA;obtain ⟨hME,HH,_,HW,_,HI,_,_⟩:=hok;have wY:=hME.x;have gK:=hME.c;have HL:E.M.ct<18446744073709551616:=hME.dv.2.2.2.1;clear hME HH HW HI fG;obtain ⟨⟨_,_,_,me,_,_,_,_,fe,ne,_,_,_,_,_⟩,Te,Be,oe,_,_⟩:=E;cases fe;cases ne;dsimp only at wY gK;cases zC16 wY;cases zC8 gK
 try dsimp only [Eg.H,Eg.R,Eg.C,Mc.C,Mc.D,Dk.C,Nk.C,ctE] at *
 try simp only [Qah,zca,zna] at *
 generalize wsv me=Xe,tes Te=TTe,bks Be=BBe,OLs oe=OOe,me.length=men,Te.length=ten,Be.length=ben,oe.length=oen,wsv X'=X2e,tes T'=T2e,bks B'=B2e,X'.length=x2n at *;subst zE;generalize T'.length=t2n,B'.length=b2n',lim-d=ld at *;clear qZ;exact QDI
end Go.Proofs.YtflelebfmdggkaaGreat
