import Derived.Test.YtflelebfmdggkaaGreatP20
import Derived.Test.YtflelebfmdggkaaGreatP149
set_option linter.unusedSimpArgs false
set_option linter.unusedVariables false
set_option maxHeartbeats 100000000
set_option maxRecDepth 100000
namespace Go.Proofs.YtflelebfmdggkaaGreat
open Go Go.RowKit
theorem QwO {E:Eg} (hC:Coh E) (hm:QbQ E.M=true):QAj E=true:=by
 unfold QAj;rw [hm,hC.T,@decide_eq_true _ (Classical.propDecidable _) hC.B];rfl
noncomputable def bdL:Code:=(lpB (Tryz.f3.body.getD .skip)).getD 0 .skip
def Qnz (np i s ol:Nat) (A0 A1 MC X0 V X T B OL:List SV):St :=
 ⟨[(2,.a (.s (.sl 1 0 np))),(7,.a (.s (.ptr 2 0))),(8,.a (.s (.ptr 4 0))),(9,.a (.s (.sl 8 0 ol))),(10,.a (.s (.w s))),(11,.a (.s (.i i)))],
  [(0,some ⟨false,1,A0⟩),(1,some ⟨false,1,A1⟩),(2,some ⟨true,1,MC⟩),(3,some ⟨true,1,X0⟩),(4,some ⟨true,1,V⟩),(5,some ⟨true,1,X⟩),(6,some ⟨true,4,T⟩),(7,some ⟨true,3,B⟩),(8,some ⟨true,4,OL⟩)],[0]⟩
theorem QJ3 (fI:FN 251 [.s (.str ⟨#[0]⟩),.s (.i 128)] [] (. =⟨.a (.s (.str z128)),[],[]⟩)) (gW:∀ (E:Eg) (lim:Nat),E.ok->Coh E->lim<18446744073709551616->FN 44 [.s (.ptr 0 0),.s (.w lim)] E.H (. =(Qee lim E).1.R (.a (.s (.w ((Qee lim E).2:Nat))))))
  (np i s:Nat) (ZK:np<=20) (hs:s<=6*i) (ps:List Int) (wO:ps.length=np) (A0 A1:List SV) (GA:isv .i64 ps=A1) (hA0s:Qau A0=true) (M0:Mc) (hM0:M0.ok) (E:Eg) (hE:E.ok) (hC:Coh E) (fK:QbQ E.M=true) (os:List (List SV)) (qX:Qbn os) (jH:os.length<=s) (K:Exit->St->Prop) (hi:i<np) (k:Nat) (hk:ps.getD i 0%7=(k:Int)) (hk7:k<7) (R:Eg × Nat) (hR:QiL E k=R) (GQ:R.2<=k) (hRo:R.1.ok) (JN:R.1.o.length<=k)
  (hN:∀ σ1,Wk Tryz.f3.ntmps 2 σ1 (Qnz np (i+1) (s+R.2) (os++R.1.o).length A0 A1 (M0.C 3) (wsv M0.m) (R.1.V 5 6 7) (wsv R.1.M.m) (tes R.1.T) (bks R.1.B) (OLs (os++R.1.o)))->K .normal σ1) :
  vc Tryz.prog tys Tryz.f3.ntmps 2 bdL (Qnz np i s os.length A0 A1 (M0.C 3) (wsv M0.m) (E.V 5 6 7) (wsv E.M.m) (tes E.T) (bks E.B) (OLs os)) K:=by
 have q1:=Qfx (ps.getD i 0) 7 (by decide) (by decide);rw [hk] at q1;have u1:IntKind.u64.wrap (k:Int)=(k:Int):=QzR (by omega) (by omega);have q2:IntKind.i64.wrap ((i:Int)+1)=((i+1:Nat):Int):=QbP;have q3:IntKind.u64.wrap ((s:Int)+(R.2:Int))=((s+R.2:Nat):Int):=Qe5;have cs:=QtK fI gW E hE (QwO hC fK) hC fK k (by omega);rw [hR] at cs;have g1:A1[i]?=some (.i (ps.getD i 0)):=by rw [<- GA];exact Qih .i64 ps i (by omega)
 have hA1s:Qau A1=true:=by rw [<- GA];exact QaO _ _
 have vO:=Qaa M0.m;obtain ⟨vY,HY,_⟩:=QaA qX;obtain ⟨VP,hP2,hP3⟩:=QaA hRo.o;have hap:OLs os++OLs R.1.o=OLs (os++R.1.o):=by unfold OLs;rw [List.flatten_append]
 have gZ:(os++R.1.o).length=os.length+R.1.o.length:=zla ..;have hsA:Qau (OLs (os++R.1.o))=true:=by rw [<- hap];exact QaX HY hP2
 rw [gZ] at hN;have jZ:=Qaa E.M.m;have jT:=Qaf E.T;have jY:=Qad E.B;have GH:=Qaa R.1.M.m;have HK:=Qaf R.1.T;have HO:=Qad R.1.B;have WY:=hM0.x;have JD:=hM0.c;have uD:=hE.M.x;have uQ:=hE.M.c;have hY:=hRo.M.x;have gA:=hRo.M.c;obtain ⟨R,r2⟩:=R;dsimp only at *;replace vY:(OLs os).length=os.length*ty80.size:=vY;replace VP:(OLs R.o).length=R.o.length*ty80.size:=VP;clear hR hRo hE hC fK hM0 qX hk GA wO;obtain ⟨M,T,B,o⟩:=E;obtain ⟨Mr,Tr,Br,or⟩:=R;generalize ps.getD i 0=pv at *;dsimp only [Eg.V] at *;generalize OLs (os++or)=OA,OLs os=OL,os.length=ol,OLs or=OR,or.length=orn,wsv M0.m=X0,wsv M.m=XE,wsv Mr.m=XR,tes T=TE at *;generalize tes Tr=TR,bks B=BE at *;generalize bks Br=BR,T.length=tn,B.length=bn,Tr.length=trn,Br.length=brn at *;obtain ⟨_,_,_,mm,_,_,_,_,dm,nm⟩:=M0;dsimp only at *;cases zC16 WY;cases zC8 JD;cases dm;cases nm;obtain ⟨_,_,_,me,_,_,_,_,de,ne⟩:=M;dsimp only at *;cases zC16 uD;cases zC8 uQ;cases de;cases ne;obtain ⟨_,_,_,mr,_,_,_,_,dr,nr⟩:=Mr;dsimp only at *;cases zC16 hY;cases zC8 gA;cases dr;cases nr;unfold Qnz;unfold Qnz at hN;simp only [Qah,zca,zna,Mc.C,Mc.D,Dk.C,Nk.C] at *;generalize mm.length=nm,me.length=nE,mr.length=nr at *;(repeat' ((conv=>whnf);first|exact zi4|(refine zj4 ?_;intro hb)|(with_reducible first|refine zv q2 ?_|refine zv q3 ?_|refine zv u1 ?_)|((with_reducible apply Ge.mk (α:=SV)); . exact g1)|(apply Sd.mk; . first|omega|exact ⟨rfl,rfl,vY,bnd (by omega) (by decide),by omega⟩)|(apply Sk.mk; . exact Qct OR VP hP3)|((with_reducible apply Vl.mk (α:=List SV)); . with_reducible exact hap)|(refine zpu q1 ?_)|(refine Qp1 cs ?_)|refine zse ?_|refine zbb ?_ ?_));all_goals (conv=>whnf)
 all_goals first|(refine hN _ ?_;(exact zwL [(0,some 0),(1,some 1),(2,some 2),(3,some 3),(4,some 4),(5,some 196736),(6,some 196737),(7,some 196738),(8,some 393344)]))
end Go.Proofs.YtflelebfmdggkaaGreat
