import Derived.Test.YtpgkkfajljekpaaGreatP59
set_option linter.unusedSimpArgs false
set_option linter.unusedVariables false
set_option maxHeartbeats 0
set_option maxRecDepth 100000
namespace Go.Proofs.YtpgkkfajljekpaaGreat
open Go Go.RowKit
noncomputable def bdT (i:Nat):Code:=(lpB (Tryz.f3.body.getD .skip)).getD i .skip
def QfF (np n i:Nat) (A0 A1 MC WC X0 X5:List SV):St :=
 ⟨[(2,.a (.s (.sl 1 0 np))),(7,.a (.s (.ptr 2 0))),(8,.a (.s (.ptr 3 0))),(9,.a (.s (.w n))),(10,.a (.s (.i i)))],
  [(0,some ⟨false,1,A0⟩),(1,some ⟨false,1,A1⟩),(2,some ⟨true,1,MC⟩),(3,some ⟨true,1,WC⟩),(4,some ⟨true,1,X0⟩),(5,some ⟨true,1,X5⟩)],[0]⟩
def QdW (s np n i k q:Nat) (A0 A1 MC WC X0 X5:List SV):St :=
 ⟨[(2,.a (.s (.sl 1 0 np))),(7,.a (.s (.ptr 2 0))),(8,.a (.s (.ptr 3 0))),(9,.a (.s (.w n))),(10,.a (.s (.i i))),(11,.a (.s (.w k))),(s,.a (.s (.w q)))],
  [(0,some ⟨false,1,A0⟩),(1,some ⟨false,1,A1⟩),(2,some ⟨true,1,MC⟩),(3,some ⟨true,1,WC⟩),(4,some ⟨true,1,X0⟩),(5,some ⟨true,1,X5⟩)],[0]⟩
def Qko (n q:Nat) (A0 A1 MC WC X0 X5:List SV):St :=
 ⟨[(7,.a (.s (.ptr 2 0))),(8,.a (.s (.ptr 3 0))),(9,.a (.s (.w n))),(22,.a (.s (.w q)))],
  [(0,some ⟨false,1,A0⟩),(1,some ⟨false,1,A1⟩),(2,some ⟨true,1,MC⟩),(3,some ⟨true,1,WC⟩),(4,some ⟨true,1,X0⟩),(5,some ⟨true,1,X5⟩)],[0]⟩
def BS (b s:Nat):Prop:=(b=1/\s=12)\/(b=2/\s=16)\/(b=3/\s=21)
def Frm (M:Mc) (p:Nat) (X0 X5:List SV):Prop:=(p=4/\X0=wsv M.m)\/(p=5/\X5=wsv M.m)
theorem QJU (b s:Nat) (hbs:BS b s) (np n i k q:Nat) (hq:q<k) (hk:k<=8) (A0 A1 X0 X5:List SV) (qE:Qad A0=true) (qF:Qad A1=true) (qB:Qad X0=true) (fP:Qad X5=true) (N:Mc) (hN0:N.ok) (M:Mc) (hM:M.ok) (p:Nat) (hF:Frm M p X0 X5) (K:Exit->St->Prop)
  (hN:∀ σ1,Wk Tryz.f3.ntmps 2 σ1 (QdW s np n i k (q+1) A0 A1 ((Qhi M).C 5) (N.C 4) X0 (wsv (Qhi M).m))->K .normal σ1) :
  vc Tryz.prog tys Tryz.f3.ntmps 2 (bdT b) (QdW s np n i k q A0 A1 (M.C p) (N.C 4) X0 X5) K:=by
 have cs:=QeH Qmw M hM 5;have q3:IntKind.u64.wrap ((q:Int)+1)=((q+1:Nat):Int):=QdE;obtain ⟨g1,g2,g3⟩:=Qg2 M hM 5 (by decide);have jO:=hM.x;have jL:=hM.c;have vO:=hN0.x;have vM:=hN0.c;have yM:=g1.x;have yE:=g1.c;have jN:=Qaa (QbS M 5).1.m;unfold Qhi at hN;clear hM hN0 g1;rcases hbs with ⟨rfl,rfl⟩|⟨rfl,rfl⟩|⟨rfl,rfl⟩<;>rcases hF with ⟨rfl,rfl⟩|⟨rfl,rfl⟩
 all_goals
  generalize (QbS M 5).1=M3,wsv M.m=Xe at *;generalize wsv M3.m=Xg at *;cases hO:(QbS M 5).2
  all_goals
   rw [hO] at cs;dsimp only [oS,oR] at cs
   try have ZA:=(g2 _ hO).2.1
   clear g2 hO;obtain ⟨_,_,_,me,_,_,_,_,de,ne⟩:=M;dsimp only at *;cases QJP jO;cases zC8 jL;cases de;cases ne;obtain ⟨_,_,_,mw,_,_,_,_,dw,nw,_,_,_,_,_⟩:=N;dsimp only at *;cases QJP vO;cases zC8 vM;cases dw;cases nw;obtain ⟨_,_,_,mg,_,_,_,_,dg,ng⟩:=M3;dsimp only at *;cases QJP yM;cases zC8 yE;cases dg;cases ng;unfold QdW;unfold QdW at hN;simp only [Qaf,zca,zna,Mc.C,Mc.D,Dk.C,Nk.C] at *;generalize mg.length=nn3,me.length=nn1,mw.length=nn2 at *;subst g3;exact QAe
theorem QJV (b s:Nat) (hbs:BS b s) (np n i k q:Nat) (hq:¬ q<k) (A0 A1 X0 X5:List SV) (qE:Qad A0=true) (qF:Qad A1=true) (qB:Qad X0=true) (fP:Qad X5=true) (N:Mc) (hN0:N.ok) (M:Mc) (hM:M.ok) (p:Nat) (hF:Frm M p X0 X5) (K:Exit->St->Prop)
  (hB:∀ σ1,Wk Tryz.f3.ntmps 2 σ1 (QdW s np n i k q A0 A1 (M.C p) (N.C 4) X0 X5)->K (.exit (2*b+1)) σ1) :
  vc Tryz.prog tys Tryz.f3.ntmps 2 (bdT b) (QdW s np n i k q A0 A1 (M.C p) (N.C 4) X0 X5) K:=by
 have jO:=hM.x;have jL:=hM.c;have vO:=hN0.x;have vM:=hN0.c;clear hM hN0;rcases hbs with ⟨rfl,rfl⟩|⟨rfl,rfl⟩|⟨rfl,rfl⟩<;>rcases hF with ⟨rfl,rfl⟩|⟨rfl,rfl⟩
 all_goals
  generalize wsv M.m=Xe at *;obtain ⟨_,_,_,me,_,_,_,_,de,ne⟩:=M;dsimp only at *;cases QJP jO;cases zC8 jL;cases de;cases ne;obtain ⟨_,_,_,mw,_,_,_,_,dw,nw,_,_,_,_,_⟩:=N;dsimp only at *;cases QJP vO;cases zC8 vM;cases dw;cases nw;unfold QdW;unfold QdW at hB;simp only [Qaf,zca,zna,Mc.C,Mc.D,Dk.C,Nk.C] at *;generalize me.length=nn1,mw.length=nn2 at *;exact QEi
theorem QJT (b s:Nat) (hbs:BS b s) (np n i k q0:Nat) (VH:q0<=k) (hk:k<=8) (A0 A1 X0 X5:List SV) (qE:Qad A0=true) (qF:Qad A1=true) (qB:Qad X0=true) (fP:Qad X5=true) (N:Mc) (hN0:N.ok) (M:Mc) (hM:Mv M) (p:Nat) (hF:Frm M p X0 X5) (σ:St) (hw:Wk Tryz.f3.ntmps 2 σ (QdW s np n i k q0 A0 A1 (M.C p) (N.C 4) X0 X5)) (Q:Exit->St->Prop)
  (hQ:∀ (p':Nat) (X5':List SV),Qad X5'=true->Frm (itr (k-q0) M) p' X0 X5'->Q (.exit (2*b+1)) (QdW s np n i k k A0 A1 ((itr (k-q0) M).C p') (N.C 4) X0 X5')) :
  Lp Tryz.f3.ntmps 2 (vc Tryz.prog tys Tryz.f3.ntmps 2 (bdT b)) σ Q:=by
 refine Qem (fun mm σ=>∃ (q p:Nat) (X5:List SV),mm=k-q/\q0<=q/\q<=k/\Qad X5=true/\Frm (itr (q-q0) M) p X0 X5/\σ=QdW s np n i k q A0 A1 ((itr (q-q0) M).C p) (N.C 4) X0 X5) (fun σ=>∃ (p:Nat) (X5:List SV),Qad X5=true/\Frm (itr (k-q0) M) p X0 X5/\σ=QdW s np n i k k A0 A1 ((itr (k-q0) M).C p) (N.C 4) X0 X5) (2*b+1) ?_ ?_ ?_
 .exact ⟨k-q0,_,hw,q0,p,X5,rfl,Nat.le_refl _,VH,fP,by rw [Nat.sub_self];exact hF,by rw [Nat.sub_self];rfl⟩
 .rintro mm σ ⟨q,p,X5,wZ,hq1,uM,fP,hF,rfl⟩ Kt hB hN
  have hMq:=Qdt (q-q0) hM
  by_cases hq:q<k
  .refine QJU b s hbs np n i k q hq hk A0 A1 X0 X5 qE qF qB fP N hN0 _ hMq.ok p hF Kt fun σ1 h=>hN (mm-1) _ σ1 (by omega) h ⟨q+1,5,wsv (itr (q+1-q0) M).m,by omega,by omega,by omega,Qaa _,.inr ⟨rfl,rfl⟩,?_⟩
   rw [QtP,show q-q0+1=q+1-q0 by omega]
  .obtain rfl:q=k:=by omega
   exact QJV b s hbs np n i q q hq A0 A1 X0 X5 qE qF qB fP N hN0 _ hMq.ok p hF Kt fun σ1 h=>hB _ σ1 ⟨p,X5,fP,hF,rfl⟩ h
 .rintro σ ⟨p,X5,fP,hF,rfl⟩
  exact hQ p X5 fP hF
theorem QGF (n q:Nat) (hq:q<n) (hn:n<=1000000) (A0 A1 X0 X5:List SV) (qE:Qad A0=true) (qF:Qad A1=true) (qB:Qad X0=true) (fP:Qad X5=true) (N:Mc) (hN0:N.ok) (M:Mc) (hM:M.ok) (p:Nat) (hF:Frm M p X0 X5) (K:Exit->St->Prop)
  (hN:∀ σ1,Wk Tryz.f3.ntmps 2 σ1 (Qko n (q+1) A0 A1 (N.C 4) ((Qhi M).C 5) X0 (wsv (Qhi M).m))->K .normal σ1) :
  vc Tryz.prog tys Tryz.f3.ntmps 2 (bdT 4) (Qko n q A0 A1 (N.C 4) (M.C p) X0 X5) K:=by
 have cs:=Qus M hM 5 (by decide);have q3:IntKind.u64.wrap ((q:Int)+1)=((q+1:Nat):Int):=QdE;obtain ⟨g1,g2,g3⟩:=Qg2 M hM 5 (by decide);have jO:=hM.x;have jL:=hM.c;have vO:=hN0.x;have vM:=hN0.c;have yM:=g1.x;have yE:=g1.c;have jN:=Qaa (QbS M 5).1.m;unfold Qhi at hN;clear hM hN0 g1;rcases hF with ⟨rfl,rfl⟩|⟨rfl,rfl⟩
 all_goals
  generalize (QbS M 5).1=M3,wsv M.m=Xe at *;generalize wsv M3.m=Xg at *;cases hO:(QbS M 5).2
  all_goals
   rw [hO] at cs;dsimp only [oS,oR] at cs
   try have ZA:=(g2 _ hO).2.1
   clear g2 hO;obtain ⟨_,_,_,me,_,_,_,_,de,ne⟩:=M;dsimp only at *;cases QJP jO;cases zC8 jL;cases de;cases ne;obtain ⟨_,_,_,mw,_,_,_,_,dw,nw,_,_,_,_,_⟩:=N;dsimp only at *;cases QJP vO;cases zC8 vM;cases dw;cases nw;obtain ⟨_,_,_,mg,_,_,_,_,dg,ng⟩:=M3;dsimp only at *;cases QJP yM;cases zC8 yE;cases dg;cases ng;unfold Qko;unfold Qko at hN;simp only [Qaf,zca,zna,Mc.C,Mc.D,Dk.C,Nk.C] at *;generalize mg.length=nn3,me.length=nn1,mw.length=nn2 at *;subst g3;exact QAe
theorem QGJ (n q:Nat) (hq:¬ q<n) (A0 A1 X0 X5:List SV) (qE:Qad A0=true) (qF:Qad A1=true) (qB:Qad X0=true) (fP:Qad X5=true) (N:Mc) (hN0:N.ok) (M:Mc) (hM:M.ok) (p:Nat) (hF:Frm M p X0 X5) (K:Exit->St->Prop)
  (hB:∀ σ1,Wk Tryz.f3.ntmps 2 σ1 (Qko n q A0 A1 (N.C 4) (M.C p) X0 X5)->K (.exit 9) σ1) :
  vc Tryz.prog tys Tryz.f3.ntmps 2 (bdT 4) (Qko n q A0 A1 (N.C 4) (M.C p) X0 X5) K:=by
 have jO:=hM.x;have jL:=hM.c;have vO:=hN0.x;have vM:=hN0.c;clear hM hN0;rcases hF with ⟨rfl,rfl⟩|⟨rfl,rfl⟩
 all_goals
  generalize wsv M.m=Xe at *;obtain ⟨_,_,_,me,_,_,_,_,de,ne⟩:=M;dsimp only at *;cases QJP jO;cases zC8 jL;cases de;cases ne;obtain ⟨_,_,_,mw,_,_,_,_,dw,nw,_,_,_,_,_⟩:=N;dsimp only at *;cases QJP vO;cases zC8 vM;cases dw;cases nw;unfold Qko;unfold Qko at hB;simp only [Qaf,zca,zna,Mc.C,Mc.D,Dk.C,Nk.C] at *;generalize me.length=nn1,mw.length=nn2 at *;exact QEi
theorem QCR (n q0:Nat) (VH:q0<=n) (hn:n<=1000000) (A0 A1 X0 X5:List SV) (qE:Qad A0=true) (qF:Qad A1=true) (qB:Qad X0=true) (fP:Qad X5=true) (N:Mc) (hN0:N.ok) (M:Mc) (hM:Mv M) (p:Nat) (hF:Frm M p X0 X5) (σ:St) (hw:Wk Tryz.f3.ntmps 2 σ (Qko n q0 A0 A1 (N.C 4) (M.C p) X0 X5)) (Q:Exit->St->Prop)
  (hQ:∀ (p':Nat) (X5':List SV),Qad X5'=true->Frm (itr (n-q0) M) p' X0 X5'->Q (.exit 9) (Qko n n A0 A1 (N.C 4) ((itr (n-q0) M).C p') X0 X5')) :
  Lp Tryz.f3.ntmps 2 (vc Tryz.prog tys Tryz.f3.ntmps 2 (bdT 4)) σ Q:=by
 refine Qem (fun mm σ=>∃ (q p:Nat) (X5:List SV),mm=n-q/\q0<=q/\q<=n/\Qad X5=true/\Frm (itr (q-q0) M) p X0 X5/\σ=Qko n q A0 A1 (N.C 4) ((itr (q-q0) M).C p) X0 X5) (fun σ=>∃ (p:Nat) (X5:List SV),Qad X5=true/\Frm (itr (n-q0) M) p X0 X5/\σ=Qko n n A0 A1 (N.C 4) ((itr (n-q0) M).C p) X0 X5) 9 ?_ ?_ ?_
 .exact ⟨n-q0,_,hw,q0,p,X5,rfl,Nat.le_refl _,VH,fP,by rw [Nat.sub_self];exact hF,by rw [Nat.sub_self];rfl⟩
 .rintro mm σ ⟨q,p,X5,wZ,hq1,uM,fP,hF,rfl⟩ Kt hB hN
  have hMq:=Qdt (q-q0) hM
  by_cases hq:q<n
  .refine QGF n q hq hn A0 A1 X0 X5 qE qF qB fP N hN0 _ hMq.ok p hF Kt fun σ1 h=>hN (mm-1) _ σ1 (by omega) h ⟨q+1,5,wsv (itr (q+1-q0) M).m,by omega,by omega,by omega,Qaa _,.inr ⟨rfl,rfl⟩,?_⟩
   rw [QtP,show q-q0+1=q+1-q0 by omega]
  .obtain rfl:q=n:=by omega
   exact QGJ q q hq A0 A1 X0 X5 qE qF qB fP N hN0 _ hMq.ok p hF Kt fun σ1 h=>hB _ σ1 ⟨p,X5,fP,hF,rfl⟩ h
 .rintro σ ⟨p,X5,fP,hF,rfl⟩
  exact hQ p X5 fP hF
theorem QBI {a0 a1 a2 a3 a4 a5 a6 a7 a8 a9 a10 a11 a12 a13 a14 a15 a16 a17 a18 a19 a20 a21 a22 a23 a24 b0 b1 b2 b3 b4 b5 b6 b7 b8 b9 b10 b11 b12 b13 b14 b15 b16 b17 b18 b19 b20 b21 b22 b23 b24 z s:SV} {r:List SV} {place:Nat->Option (Nat × Nat)} (h:place 0=some (0,25)) (h':place 1=some (25,1)):QbY place (a0::a1::a2::a3::a4::a5::a6::a7::a8::a9::a10::a11::a12::a13::a14::a15::a16::a17::a18::a19::a20::a21::a22::a23::a24::z::r) [(0,[b0,b1,b2,b3,b4,b5,b6,b7,b8,b9,b10,b11,b12,b13,b14,b15,b16,b17,b18,b19,b20,b21,b22,b23,b24]),(1,[s])]=some (b0::b1::b2::b3::b4::b5::b6::b7::b8::b9::b10::b11::b12::b13::b14::b15::b16::b17::b18::b19::b20::b21::b22::b23::b24::s::r):=by
 have e:=QCG (o:=0) rfl (r:=z::r) (a0:=a0) (a1:=a1) (a2:=a2) (a3:=a3) (a4:=a4) (a5:=a5) (a6:=a6) (a7:=a7) (a8:=a8) (a9:=a9) (a10:=a10) (a11:=a11) (a12:=a12) (a13:=a13) (a14:=a14) (a15:=a15) (a16:=a16) (a17:=a17) (a18:=a18) (a19:=a19) (a20:=a20) (a21:=a21) (a22:=a22) (a23:=a23) (a24:=a24) (b0:=b0) (b1:=b1) (b2:=b2) (b3:=b3) (b4:=b4) (b5:=b5) (b6:=b6) (b7:=b7) (b8:=b8) (b9:=b9) (b10:=b10) (b11:=b11) (b12:=b12) (b13:=b13) (b14:=b14) (b15:=b15) (b16:=b16) (b17:=b17) (b18:=b18) (b19:=b19) (b20:=b20) (b21:=b21) (b22:=b22) (b23:=b23) (b24:=b24);have k:Nat.ble (0+ [b0,b1,b2,b3,b4,b5,b6,b7,b8,b9,b10,b11,b12,b13,b14,b15,b16,b17,b18,b19,b20,b21,b22,b23,b24].length) (a0::a1::a2::a3::a4::a5::a6::a7::a8::a9::a10::a11::a12::a13::a14::a15::a16::a17::a18::a19::a20::a21::a22::a23::a24::z::r).length=true:=Nat.ble_eq_true_of_le (by simp only [List.length_cons,List.length_nil];omega);have k2:Nat.ble (25+ [s].length) (b0::b1::b2::b3::b4::b5::b6::b7::b8::b9::b10::b11::b12::b13::b14::b15::b16::b17::b18::b19::b20::b21::b22::b23::b24::z::r).length=true:=Nat.ble_eq_true_of_le (by simp only [List.length_cons,List.length_nil];omega);unfold QbY;rw [h];show (match Nat.ble (0+ [b0,b1,b2,b3,b4,b5,b6,b7,b8,b9,b10,b11,b12,b13,b14,b15,b16,b17,b18,b19,b20,b21,b22,b23,b24].length) (a0::a1::a2::a3::a4::a5::a6::a7::a8::a9::a10::a11::a12::a13::a14::a15::a16::a17::a18::a19::a20::a21::a22::a23::a24::z::r).length with|false=>none|true=>QbY place (QaC (a0::a1::a2::a3::a4::a5::a6::a7::a8::a9::a10::a11::a12::a13::a14::a15::a16::a17::a18::a19::a20::a21::a22::a23::a24::z::r) 0 [b0,b1,b2,b3,b4,b5,b6,b7,b8,b9,b10,b11,b12,b13,b14,b15,b16,b17,b18,b19,b20,b21,b22,b23,b24]) [(1,[s])])=_;rw [k,e];show QbY place (b0::b1::b2::b3::b4::b5::b6::b7::b8::b9::b10::b11::b12::b13::b14::b15::b16::b17::b18::b19::b20::b21::b22::b23::b24::z::r) [(1,[s])]=_;unfold QbY;rw [h'];show (match Nat.ble (25+ [s].length) (b0::b1::b2::b3::b4::b5::b6::b7::b8::b9::b10::b11::b12::b13::b14::b15::b16::b17::b18::b19::b20::b21::b22::b23::b24::z::r).length with|false=>none|true=>QbY place (QaC (b0::b1::b2::b3::b4::b5::b6::b7::b8::b9::b10::b11::b12::b13::b14::b15::b16::b17::b18::b19::b20::b21::b22::b23::b24::z::r) 25 [s]) [])=_;rw [k2];rfl
theorem QlH:∀ a b,zer (a+b)=zer a++zer b
 | 0,b=>by rw [Nat.zero_add];rfl
 | a+1,b=>by rw [Nat.succ_add];show 0::zer (a+b)=0::(zer a++zer b);rw [QlH a b]
def cpW (ws:List Nat):List Nat:=ws++zer (256-ws.length)
theorem QwT (ws:List Nat) (h:ws.length<=256):QaC (wsv (zer 256)) 0 (wsv ws)=wsv (cpW ws):=by
 have e:wsv (zer 256)=wsv (zer ws.length)++wsv (zer (256-ws.length)):=by
  unfold wsv;rw [<- List.map_append,<- QlH,show ws.length+(256-ws.length)=256 by omega]
 rw [e,Qfh (by rw [wsv_length,wsv_length,QdD])];unfold cpW wsv;rw [List.map_append]
theorem Qgr (ws:List Nat) (h:ws.length<=256):(cpW ws).length=256:=by unfold cpW;rw [zla,QdD];omega
theorem Qsx:∀ n,∀ y∈zer n,y<4294967296
 | 0,y,h=>by cases h
 | n+1,y,h=>by
  rcases List.mem_cons.1 h with rfl|h
  .decide
  .exact Qsx n y h
theorem QBb (ws:List Nat) (h:ZL ws):∀ y∈cpW ws,y<4294967296:=fun y hy=>by
 rcases List.mem_append.1 hy with h1|h1
 .exact h y h1
 .exact Qsx _ y h1
def Qhe (ws:List Nat):Mc:=⟨[0,0,0,0,0,0,0,0,0,0,0,0,0,0,0,0],0,[1,0,0,0,0,0,0,0],cpW ws,⟨#[]⟩,false,0,false,⟨4,0,0,0,0,0,0,⟨#[]⟩⟩,⟨0,0,false,0,false,0⟩,0,0,0,false,false⟩
theorem QqT (ws:List Nat) (h:ws.length<=256) (hr:ZL ws):(Qhe ws).ok:=by
 have h0:∀ y∈([0,0,0,0,0,0,0,0,0,0,0,0,0,0,0,0]:List Nat),y<4294967296:=by decide
 have h1:∀ y∈([1,0,0,0,0,0,0,0]:List Nat),y<4294967296:=by decide
 refine ⟨rfl,rfl,h0,h1,(by show (0:Nat)<4294967296;decide),QBb ws hr,?_,⟨by show (4:Nat)<4294967296;decide,by show (0:Nat)<4294967296;decide,by show (0:Nat)<4294967296;decide,by show (0:Nat)<4294967296;decide,by show (0:Nat)<4294967296;decide,Nat.zero_le _,by show (Lit.int .i64 0).wf=true;decide,by show (Lit.int .i64 0).wf=true;decide⟩,⟨by show (0:Nat)<4294967296;decide,by show (0:Nat)<4294967296;decide,by show (0:Nat)<4294967296;decide,by show (0:Nat)<4294967296;decide⟩,⟨by show (0:Nat)<4294967296;decide,by show (0:Nat)<4294967296;decide,by show (0:Nat)<4294967296;decide,by show (0:Nat)<18446744073709551616;decide,Nat.zero_le _⟩⟩;show (cpW ws).length<=1000000;rw [Qgr ws h];omega
theorem QnP {z l y:List SV} {o:Nat} (ho:o=0) (h:QaC z 0 l=y):QaC z o l=y:=by rw [ho];exact h
theorem QqS (ws:List Nat) (n:Nat) (hn:ws.length=n) (h:n<=256):FN 17 [.s (.i 8),.s (.i 4),.s (.sl 0 0 n)] [⟨false,1,wsv ws⟩]
  (. =⟨.tup [.agg ((Qhe ws).C 1),.s (.bool true)],[],[⟨true,1,wsv (Qhe ws).m⟩]⟩):=by
 have q0:=Qru 0;have q1:=Qya 8 (by decide) (by decide);change Fn _ _ _ _ (. =⟨.a (.s (.sl 0 0 256)),[],[⟨true,1,wsv (zer 256)⟩]⟩) at q1;have hcp:=QwT ws (by omega);have gK:=Qgr ws (by omega);have qB:=Qaa ws;have fZ:=Qaa (zer 256);have fM:=Qaa (cpW ws);have hlz:(wsv (zer 256)).length=256:=by rw [wsv_length,QdD]
 have uW:(wsv ws).length=n*ty24.size:=by rw [wsv_length,hn];show n=n*1;omega
 have hkw:Qat (wsv ws)=true:=QbD ws;have zU:min n 256=n:=by omega
 have hlw2:(wsv ws).length<=256:=by rw [wsv_length];omega
 unfold Qhe;dsimp only [Mc.C,Mc.D,Dk.C,Nk.C];rw [gK];simp only [Qaf,zca,zna];unfold Qv1 at q0;have h0:((0:Nat):Int)=0:=rfl;have h1:((1:Nat):Int)=1:=rfl;have h4:((4:Nat):Int)=4:=rfl;simp only [h0,h1,h4];clear h0 h1 h4;generalize wsv (zer 256)=Z,wsv (cpW ws)=X2,wsv ws=X1 at *;clear hn gK;refine fnW Tryz.func17 ?_;(repeat' ((conv=>whnf);first|exact zi3|(refine zj0 ?_;intro hb)|((with_reducible apply Ge.mk (α:=List SV)); . (refine QBI ?_ ?_<;>exact rfl))|((with_reducible apply Vl.mk (α:=Nat)); . with_reducible exact zU)|(apply Sk.mk; . exact Qc8 X1 uW hkw)|(apply Sd.mk; . refine ⟨rfl,?_⟩;(show 0+X1.length<=Z.length;omega))|((with_reducible apply Vl.mk (α:=List SV)); . (with_reducible refine QnP ?_ hcp);exact rfl)|(refine zpu q0 ?_)|(refine Qag q1 [] [] aRn trivial trivial ⟨rfl,Qdc rfl⟩ ?_)|refine zse ?_|refine zbb ?_ ?_))
 all_goals exact Qet
theorem Quk:Qiw eqt tys true fns Qyd 100 20 46 [.s .nilsl] []=some ⟨.a (.s (.bool true)),[],[]⟩:=by kernel_rfl
theorem QyK:FN 46 [.s .nilsl] [] (. =⟨.a (.s (.bool true)),[],[]⟩):=QgZ Quk
theorem Qt3 (M:Mc) (p:Int) (v:Nat):(QbA M p v).1.ct=M.ct:=by
 unfold QbA
 repeat' split
 all_goals rfl
theorem QsO (M:Mc) (w:Nat):(Qa0 M w).1.ct=(M.ct+1)%18446744073709551616:=by
 unfold Qa0;split
 .show ((inM _ _).ct+1)%_=_
  unfold inM;split<;>rfl
 split
 .show ((QbA _ _ _).1.ct+1)%_=_
  rw [Qt3];rfl
 split
 .rfl
 split<;>rfl
def rnQ (I:Mc->Prop) (R:Res):Prop:=∃ (M':Mc) (os:List (List SV)),I M'/\M'.ok/\Qbk os/\R=⟨.tup [.agg (M'.C 1),.s (.sl 2 0 os.length),.s (.i 0),.s (.i 0)],[],[⟨true,1,wsv M'.m⟩,⟨true,4,OLs os⟩]⟩
def Z41:List SV:=List.replicate 25 (.u 0)++ [.nilsl,.str ⟨#[]⟩,.bool false,.u 0,.bool false,.u 0,.u 0,.u 0,.i 0,.i 0,.u 0,.u 0,.str ⟨#[]⟩,.u 0,.u 0,.bool false,.u 0,.bool false,.u 0,.u 0,.u 0,.w 0,.bool false,.bool false]
def Qkm (ol:Nat) (A0 MC Z X OL:List SV):St :=
 ⟨[(1,.a (.s .nilsl)),(2,.a (.s (.w 87))),(3,.a (.s (.ptr 1 0))),(6,.a (.s (.ptr 2 0))),(10,.a (.s (.sl 4 0 ol))),(11,.a (.s (.i 0)))],
  [(0,some ⟨false,1,A0⟩),(1,some ⟨true,1,MC⟩),(2,some ⟨true,1,Z⟩),(3,some ⟨true,1,X⟩),(4,some ⟨true,4,OL⟩)],[0]⟩
theorem QyP (I:Mc->Prop) (M:Mc) (hM:M.ok) (qG:QbK M=true) (qN:M.ct=0) (FB:I M) (hI:∀ M:Mc,M.ok->I M->M.ct<87->M.ht=false->Qhy M=false->Qmt M=false/\I (Qa0 M 0).1):FN 18 [.agg (M.C 0),.s .nilsl,.s (.w 87)] [⟨false,1,wsv M.m⟩] (rnQ I):=by
 have q0:=Qmr M hM;have q1:=Qro M hM;rw [qG] at q1;have q2:=QyK;have qB:=Qaa M.m;have yN:=hM.x;have gK:=hM.c;have hM0:=hM;have hct0:M.ct=0:=qN;obtain ⟨MS,jD⟩:∃ r:Mc,r=M:=⟨_,rfl⟩;rw [<- jD] at hM0 hct0 FB;obtain ⟨A0,hA0⟩:∃ A,A=wsv M.m:=⟨_,rfl⟩;rw [<- hA0] at q0 q1 qB |-;clear hM qG;obtain ⟨_,_,_,ma,_,_,_,_,da,na⟩:=M;dsimp only at *;cases QJP yN;cases zC8 gK;cases da;cases na;simp only [Qaf,zca,zna,Mc.C,Mc.D,Dk.C,Nk.C] at *;generalize gJ:ma.length=nn at *;subst qN;obtain ⟨Z,hZ⟩:∃ Z,Z41=Z:=⟨_,rfl⟩;have JL:Z.length=49:=by rw [<- hZ];rfl
 have yT:Qad Z=true:=by rw [<- hZ];rfl
 refine fnW Tryz.func18 ?_;(repeat' ((conv=>whnf);first|exact zi4|(refine zj4 ?_;intro hb)|(refine Qaz q0 ?_)|(refine Qaz q1 ?_)|(refine zpu q2 ?_)|refine zse ?_|refine zbb ?_ ?_));all_goals (conv=>whnf)
 all_goals try (first|(exfalso;omega)|(exfalso;simp at hb;done))
 refine Lp.inv (fun mm σ=>∃ (M:Mc) (os:List (List SV)),mm+M.ct=87/\I M/\M.ok/\Qbk os/\os.length<=M.ct/\σ=Qkm os.length A0 (M.C 3) Z (wsv M.m) (OLs os)) ?_ ?_
 .refine ⟨87,Qkm 0 A0 (MS.C 3) Z (wsv MS.m) [],?_,MS,[],by omega,FB,hM0,(fun l h=>by cases h),Nat.zero_le _,rfl⟩
  rw [jD];rw [<- hA0,<- hZ];unfold Qkm Z41;simp only [Qaf,zca,zna,Mc.C,Mc.D,Dk.C,Nk.C,gJ]
  (exact zwL [(0,some 0),(1,some 65536),(2,some 65600),(3,some 262208),(4,none)])
 clear jD hM0 hct0 q0 q1;rintro mm σ ⟨M,os,wZ,FU,hM,qW,vR,rfl⟩;obtain ⟨wA,UV,_⟩:=QaA qW;have fH:=Qaa M.m;have hx:=hM.x;have hc:=hM.c
 by_cases gT:M.ct<87
 .have qi:=Qmy M hM
  have qr:=Qrt M hM;have qa:=Qiu M hM 0 (by decide);have ZN:=QdF M 0;have hak:=QcA M hM 0 (by decide);have gW:=Qcw M hM 0;have HJ:=QsO M 0;have US:=hI M hM FU gT;generalize Qhy M=ib,Qmt M=rb,Qa0 M 0=AV at *;obtain ⟨M3,O⟩:=AV;dsimp only at *
  by_cases GJ:M.ht=true
  .clear qi qr qa ZN hak gW HJ US
   have vF:rnQ I ⟨.tup [.agg (M.C 1),.s (.sl 2 0 os.length),.s (.i 0),.s (.i 0)],[],[⟨true,1,wsv M.m⟩,⟨true,4,OLs os⟩]⟩:=⟨M,os,FU,hM,qW,rfl⟩;clear hM FU hI;generalize OLs os=OL,os.length=ol,hXe:wsv M.m=Xe at *;obtain ⟨_,_,_,me,_,_,_,_,de,ne,_,_,_,_,FR⟩:=M;dsimp only at *;cases QJP hx;cases zC8 hc;cases de;cases ne;unfold Qkm;simp only [Qaf,zca,zna,Mc.C,Mc.D,Dk.C,Nk.C] at *;generalize fJ:me.length=nn1 at *;subst GJ;(repeat' ((conv=>whnf);first|exact zi4|(refine zj4 ?_;intro hb)|refine zse ?_|refine zbb ?_ ?_));all_goals (conv=>whnf)
   all_goals try (first|(exfalso;omega)|(exfalso;simp at hb;done))
   refine Lp.unroll 1 ?_;exact QEl
  cases ib
  case true =>
   clear qr qa ZN hak gW HJ US;have vF:rnQ I ⟨.tup [.agg (M.C 1),.s (.sl 2 0 os.length),.s (.i 0),.s (.i 0)],[],[⟨true,1,wsv M.m⟩,⟨true,4,OLs os⟩]⟩:=⟨M,os,FU,hM,qW,rfl⟩;clear hM FU hI;generalize OLs os=OL,os.length=ol,hXe:wsv M.m=Xe at *;obtain ⟨_,_,_,me,_,_,_,_,de,ne,_,_,_,_,FR⟩:=M;dsimp only at *;cases QJP hx;cases zC8 hc;cases de;cases ne;unfold Qkm;simp only [Qaf,zca,zna,Mc.C,Mc.D,Dk.C,Nk.C] at *;generalize fJ:me.length=nn1 at *;obtain rfl:FR=false:=by simpa using GJ
   (repeat' ((conv=>whnf);first|exact zi4|(refine zj4 ?_;intro hb)|refine zse ?_|refine zbb ?_ ?_));all_goals (conv=>whnf)
   all_goals try (first|(exfalso;omega)|(exfalso;simp at hb;done))
   refine Lp.unroll 1 ?_;(repeat' ((conv=>whnf);first|exact zi4|(refine zj4 ?_;intro hb)|refine QHc ?_|refine QDl ?_|(refine Qaz qi ?_)|refine zse ?_|refine zbb ?_ ?_))
   all_goals exact QDV
  obtain ⟨hrb,VZ⟩:=US (by simpa using GJ) rfl;subst hrb;have UM:=hak.x;have JP:=hak.c;have fI:=Qaa M3.m;have HA:=QcO qW ZN;have hct3:M3.ct=M.ct+1:=by rw [HJ];omega
  obtain ⟨r3,WS⟩:∃ r:Mc,r=M3:=⟨_,rfl⟩;have JN:=hak;rw [<- WS] at JN VZ;have hct3':r3.ct=M.ct+1:=by rw [WS];exact hct3
  clear HJ hak
  cases O with
  | none =>
   dsimp only [Option.toList,oS,oR] at *;rw [List.append_nil] at HA;have gP:os.length<=M.ct+1:=by omega
   have vV:∀ MC X ol OL,MC=M3.C 3->X=wsv M3.m->ol=os.length->OL=OLs os->Qkm ol A0 MC Z X OL=Qkm os.length A0 (r3.C 3) Z (wsv r3.m) (OLs os):=fun MC X ol OL h1 h2 h3 h4=>by rw [h1,h2,h3,h4,WS]
   clear WS qW hM FU hI;replace wA:(OLs os).length=os.length*ty137.size:=wA;generalize hOLo:OLs os=OL,hoLo:os.length=ol,hXe:wsv M.m=Xe,hXg:wsv M3.m=Xg at *;obtain ⟨_,_,_,me,_,_,_,_,de,ne,_,_,_,_,FR⟩:=M;dsimp only at *;cases QJP hx;cases zC8 hc;cases de;cases ne;obtain ⟨_,_,_,mg,_,_,_,_,dg,ng,_,_,_,_,_⟩:=M3;dsimp only at *;cases QJP UM;cases zC8 JP;cases dg;cases ng;have GH:=vV _ Xg ol OL rfl rfl rfl rfl;clear vV;unfold Qkm;simp only [Qaf,zca,zna,Mc.C,Mc.D,Dk.C,Nk.C] at *;generalize hng:mg.length=nn3,fJ:me.length=nn1 at *;subst gW;obtain rfl:FR=false:=by simpa using GJ
   (repeat' ((conv=>whnf);first|exact zi4|(refine zj4 ?_;intro hb)|refine zse ?_|refine zbb ?_ ?_));all_goals (conv=>whnf)
   all_goals try (first|(exfalso;omega)|(exfalso;simp at hb;done))
   refine Lp.unroll 1 ?_;(repeat' ((conv=>whnf);first|exact zi4|(refine zj4 ?_;intro hb)|refine QFb ?_|refine QHg ?_|(refine Qaz qi ?_)|(refine Qaz qr ?_)|(refine QlG qa ?_)|refine zse ?_|refine zbb ?_ ?_));all_goals (conv=>whnf)
   all_goals first|(refine ⟨mm-1,Qkm ol A0 _ Z Xg OL,by omega,?_,r3,os,by omega,VZ,JN,HA,by omega,by rw [hoLo,hOLo];exact GH⟩;unfold Qkm;(exact zwL [(0,some 0),(1,some 1),(2,some 2),(3,some 3),(4,some 590016)]))
  | some l =>
   obtain ⟨KH,UH,KI⟩:=ZN l rfl;have hOa:=Qkr os l;have wS:(os++ [l]).length=os.length+1:=by simp
   dsimp only [Option.toList,oS,oR] at *;have gP:(os++ [l]).length<=M.ct+1:=by rw [wS];omega
   have vV:∀ MC X ol OL,MC=M3.C 3->X=wsv M3.m->ol=(os++ [l]).length->OL=OLs (os++ [l])->Qkm ol A0 MC Z X OL=Qkm (os++ [l]).length A0 (r3.C 3) Z (wsv r3.m) (OLs (os++ [l])):=fun MC X ol OL h1 h2 h3 h4=>by rw [h1,h2,h3,h4,WS]
   clear WS qW hM FU hI;rw [hOa,wS] at vV;obtain ⟨OL2,HU⟩:∃ L,OLs os++l=L:=⟨_,rfl⟩;have JI:Qad OL2=true:=by rw [<- HU];exact Qa2 UV UH
   rw [HU] at vV hOa;replace wA:(OLs os).length=os.length*ty137.size:=wA;generalize hOLo:OLs os=OL,hoLo:os.length=ol,hXe:wsv M.m=Xe,hXg:wsv M3.m=Xg at *;obtain ⟨_,_,_,me,_,_,_,_,de,ne,_,_,_,_,FR⟩:=M;dsimp only at *;cases QJP hx;cases zC8 hc;cases de;cases ne;obtain ⟨_,_,_,mg,_,_,_,_,dg,ng,_,_,_,_,_⟩:=M3;dsimp only at *;cases QJP UM;cases zC8 JP;cases dg;cases ng;have GH:=vV _ Xg (ol+1) OL2 rfl rfl rfl rfl;clear vV;unfold Qkm;simp only [Qaf,zca,zna,Mc.C,Mc.D,Dk.C,Nk.C] at *;generalize hng:mg.length=nn3,fJ:me.length=nn1 at *;subst gW;obtain rfl:FR=false:=by simpa using GJ
   (repeat' ((conv=>whnf);first|exact zi4|(refine zj4 ?_;intro hb)|refine zse ?_|refine zbb ?_ ?_));all_goals (conv=>whnf)
   all_goals try (first|(exfalso;omega)|(exfalso;simp at hb;done))
   refine Lp.unroll 1 ?_;(repeat' ((conv=>whnf);first|exact zi4|(refine zj4 ?_;intro hb)|refine QFb ?_|refine QuX ?_|refine QHi ?_|(refine Qaz qi ?_)|(refine Qaz qr ?_)|(refine QlG qa ?_)|refine zse ?_|refine zbb ?_ ?_));all_goals (conv=>whnf)
   all_goals first|(refine ⟨mm-1,Qkm (ol+1) A0 _ Z Xg OL2,by omega,?_,r3,(os++ [l]),by omega,VZ,JN,HA,by omega,by rw [wS,hOa];exact GH⟩;unfold Qkm;(exact zwL [(0,some 0),(1,some 1),(2,some 2),(3,some 3),(4,some 590016)]))
 .have jA:M.ct=87:=by omega
  have vF:rnQ I ⟨.tup [.agg (M.C 1),.s (.sl 2 0 os.length),.s (.i 0),.s (.i 0)],[],[⟨true,1,wsv M.m⟩,⟨true,4,OLs os⟩]⟩:=⟨M,os,FU,hM,qW,rfl⟩;clear hM FU hI;generalize OLs os=OL,os.length=ol,hXe:wsv M.m=Xe at *;obtain ⟨_,_,_,me,_,_,_,_,de,ne,_,_,_,_,FR⟩:=M;dsimp only at *;cases QJP hx;cases zC8 hc;cases de;cases ne;unfold Qkm;simp only [Qaf,zca,zna,Mc.C,Mc.D,Dk.C,Nk.C] at *;generalize fJ:me.length=nn1 at *;exact QEl
theorem Qs6:Qiw eqt tys true fns Qyd 100 20 76 [.s .nilsl] []=some ⟨.a (.s (.bool true)),[],[]⟩:=by kernel_rfl
theorem QwS:FN 76 [.s .nilsl] [] (. =⟨.a (.s (.bool true)),[],[]⟩):=QgZ Qs6
theorem QoB (M:Mc) (hM:M.ok) (qG:QbK M=true) (k:Nat) (hk:k<=4000) (U:Nat) (hU:U<18446744073709551616) (ZM:U=M.ct+k) :
  FN 28 [.agg (M.C 0),.s .nilsl,.s (.w U)] [⟨false,1,wsv M.m⟩] (. =⟨.a (.s (.i 0)),[],[]⟩):=by
 have q1:=QkB M hM;rw [qG] at q1;have q2:=QwS;have gL:=Qaa M.m;have e1:IntKind.u64.wrap ((U:Int)-(M.ct:Int))=(k:Int):=QdE;clear qG;obtain ⟨hx,hc,hY,gA,gH,gB,_,gD,gE,gF⟩:=hM;obtain ⟨_,_,_,m,_,_,_,_,d,n,_,_,ct⟩:=M;dsimp only at *;cases QJP hx;cases zC8 hc;cases d;cases n;dsimp only [Mc.C,Mc.D,Dk.C,Nk.C,Dk.ok,Nk.ok] at *;generalize m.length=nn,wsv m=XX at *;simp only [Qaf,zca,zna] at *;clear hY gA gD gE gB gF gH;refine fnW Tryz.func28 ?_;(repeat' ((conv=>whnf);first|exact zi4|(refine zj4 ?_;intro hb)|refine QE5 ?_|(refine Qaz q1 ?_)|(refine zpu q2 ?_)|refine zse ?_|refine zbb ?_ ?_));all_goals (conv=>whnf)
 all_goals try (first|(exfalso;omega)|(exfalso;simp at hb;done))
 refine Lp.unroll 1 ?_;exact QJS
noncomputable def bdR:Code:=(lpB (Tryz.f10.body.getD .skip)).getD 0 .skip
def Qd1 (U ol:Nat) (er:Int) (A0 MC Z X OL:List SV):St :=
 ⟨[(1,.a (.s .nilsl)),(2,.a (.s (.w U))),(3,.a (.s (.ptr 1 0))),(6,.a (.s (.ptr 2 0))),(11,.a (.s (.sl 4 0 ol))),(12,.a (.s (.i er))),(13,.a (.s (.i 0)))],
  [(0,some ⟨false,1,A0⟩),(1,some ⟨true,1,MC⟩),(2,some ⟨true,1,Z⟩),(3,some ⟨true,1,X⟩),(4,some ⟨true,4,OL⟩)],[0]⟩
theorem QIH (U:Nat) (hU:U<18446744073709551616) (A0 Z:List SV) (hA0:Qad A0=true) (yT:Qad Z=true) (M:Mc) (hM:M.ok) (os:List (List SV)) (qW:Qbk os) (vR:os.length<=4000) (K:Exit->St->Prop) (hn:¬ M.ct<U) (hB:∀ σ1,Wk Tryz.f10.ntmps 1 σ1 (Qd1 U os.length 0 A0 (M.C 3) Z (wsv M.m) (OLs os))->K (.exit 0) σ1) :
  vc Tryz.prog tys Tryz.f10.ntmps 1 bdR (Qd1 U os.length 0 A0 (M.C 3) Z (wsv M.m) (OLs os)) K:=by
 exact QDt
theorem QII (U:Nat) (hU:U<18446744073709551616) (A0 Z:List SV) (hA0:Qad A0=true) (yT:Qad Z=true) (M:Mc) (hM:M.ok) (os:List (List SV)) (qW:Qbk os) (vR:os.length<=4000) (K:Exit->St->Prop) (hn:M.ct<U) (h1:1152921504606846976<=M.ct) (hB:∀ σ1,Wk Tryz.f10.ntmps 1 σ1 (Qd1 U os.length 0 A0 (M.C 3) Z (wsv M.m) (OLs os))->K (.exit 0) σ1) :
  vc Tryz.prog tys Tryz.f10.ntmps 1 bdR (Qd1 U os.length 0 A0 (M.C 3) Z (wsv M.m) (OLs os)) K:=by
 exact QDt
theorem QIJ (U:Nat) (hU:U<18446744073709551616) (A0 Z:List SV) (hA0:Qad A0=true) (yT:Qad Z=true) (M:Mc) (hM:M.ok) (os:List (List SV)) (qW:Qbk os) (vR:os.length<=4000) (K:Exit->St->Prop) (hn:M.ct<U) (h1:M.ct<1152921504606846976) (h2:M.ht=true) (hB:∀ σ1,Wk Tryz.f10.ntmps 1 σ1 (Qd1 U os.length 0 A0 (M.C 3) Z (wsv M.m) (OLs os))->K (.exit 0) σ1) :
  vc Tryz.prog tys Tryz.f10.ntmps 1 bdR (Qd1 U os.length 0 A0 (M.C 3) Z (wsv M.m) (OLs os)) K:=by
 obtain ⟨wA,_,_⟩:=QaA qW;have WU:=Qaa M.m;have jO:=hM.x;have jL:=hM.c;clear hM qW wA;generalize OLs os=OL,os.length=ol,wsv M.m=Xe at *;obtain ⟨_,_,_,me,_,_,_,_,de,ne⟩:=M;dsimp only at *;cases QJP jO;cases zC8 jL;cases de;cases ne;unfold Qd1;unfold Qd1 at hB;simp only [Qaf,zca,zna,Mc.C,Mc.D,Dk.C,Nk.C] at *;subst h2;generalize me.length=nn1 at *;(repeat' ((conv=>whnf);first|exact zi4|(refine zj4 ?_;intro hb)|refine zse ?_|refine zbb ?_ ?_));all_goals (conv=>whnf)
 all_goals try (first|(exfalso;omega)|(exfalso;simp at hb;done))
 refine Lp.unroll 1 ?_;(repeat' ((conv=>whnf);first|exact zi4|(refine zj4 ?_;intro hb)|refine zse ?_|refine zbb ?_ ?_))
 all_goals exact QHu
theorem QIK (U:Nat) (hU:U<18446744073709551616) (A0 Z:List SV) (hA0:Qad A0=true) (yT:Qad Z=true) (M:Mc) (hM:M.ok) (os:List (List SV)) (qW:Qbk os) (vR:os.length<=4000) (K:Exit->St->Prop) (hn:M.ct<U) (h1:M.ct<1152921504606846976) (h2:M.ht=false) (h3:Qhy M=true) (hB:∀ σ1,Wk Tryz.f10.ntmps 1 σ1 (Qd1 U os.length 0 A0 (M.C 3) Z (wsv M.m) (OLs os))->K (.exit 0) σ1) :
  vc Tryz.prog tys Tryz.f10.ntmps 1 bdR (Qd1 U os.length 0 A0 (M.C 3) Z (wsv M.m) (OLs os)) K:=by
 obtain ⟨wA,_,_⟩:=QaA qW;have WU:=Qaa M.m;have jO:=hM.x;have jL:=hM.c;have qi:=QdG M hM;rw [h3] at qi;clear h3;clear hM qW wA;generalize OLs os=OL,os.length=ol,wsv M.m=Xe at *;obtain ⟨_,_,_,me,_,_,_,_,de,ne⟩:=M;dsimp only at *;cases QJP jO;cases zC8 jL;cases de;cases ne;unfold Qd1;unfold Qd1 at hB;simp only [Qaf,zca,zna,Mc.C,Mc.D,Dk.C,Nk.C] at *;subst h2;generalize me.length=nn1 at *;(repeat' ((conv=>whnf);first|exact zi4|(refine zj4 ?_;intro hb)|(refine Qaz qi ?_)|refine zse ?_|refine zbb ?_ ?_));all_goals (conv=>whnf)
 all_goals try (first|(exfalso;omega)|(exfalso;simp at hb;done))
 refine Lp.unroll 1 ?_;(repeat' ((conv=>whnf);first|exact zi4|(refine zj4 ?_;intro hb)|(refine Qaz qi ?_)|refine zse ?_|refine zbb ?_ ?_))
 all_goals exact QHu
theorem QIL (U:Nat) (hU:U<18446744073709551616) (A0 Z:List SV) (hA0:Qad A0=true) (yT:Qad Z=true) (M:Mc) (hM:M.ok) (os:List (List SV)) (qW:Qbk os) (vR:os.length<=4000) (K:Exit->St->Prop) (hn:M.ct<U) (h1:M.ct<1152921504606846976) (h2:M.ht=false) (h3:Qhy M=false) (h4:QfA M=true) (hB:∀ σ1,Wk Tryz.f10.ntmps 1 σ1 (Qd1 U os.length 1302 A0 (M.C 3) Z (wsv M.m) (OLs os))->K (.exit 0) σ1) :
  vc Tryz.prog tys Tryz.f10.ntmps 1 bdR (Qd1 U os.length 0 A0 (M.C 3) Z (wsv M.m) (OLs os)) K:=by
 obtain ⟨wA,_,_⟩:=QaA qW;have WU:=Qaa M.m;have jO:=hM.x;have jL:=hM.c;have qi:=QdG M hM;have qr:=QdH M hM;rw [h3] at qi;rw [h4] at qr;clear h3 h4;clear hM qW wA;generalize OLs os=OL,os.length=ol,wsv M.m=Xe at *;obtain ⟨_,_,_,me,_,_,_,_,de,ne⟩:=M;dsimp only at *;cases QJP jO;cases zC8 jL;cases de;cases ne;unfold Qd1;unfold Qd1 at hB;simp only [Qaf,zca,zna,Mc.C,Mc.D,Dk.C,Nk.C] at *;subst h2;generalize me.length=nn1 at *;(repeat' ((conv=>whnf);first|exact zi4|(refine zj4 ?_;intro hb)|(refine Qaz qi ?_)|(refine Qaz qr ?_)|refine zse ?_|refine zbb ?_ ?_));all_goals (conv=>whnf)
 all_goals try (first|(exfalso;omega)|(exfalso;simp at hb;done))
 refine Lp.unroll 1 ?_;(repeat' ((conv=>whnf);first|exact zi4|(refine zj4 ?_;intro hb)|(refine Qaz qi ?_)|(refine Qaz qr ?_)|refine zse ?_|refine zbb ?_ ?_))
 all_goals exact QHu
theorem QIM (fG:FN 133 [.s (.str ⟨#[0]⟩),.s (.i 128)] [] (. =⟨.a (.s (.str z128)),[],[]⟩)) (U:Nat) (hU:U<18446744073709551616) (A0 Z:List SV) (hA0:Qad A0=true) (yT:Qad Z=true) (M:Mc) (hM:M.ok) (os:List (List SV)) (qW:Qbk os) (vR:os.length<=4000) (K:Exit->St->Prop) (hn:M.ct<U) (h1:M.ct<1152921504606846976) (h2:M.ht=false) (h3:Qhy M=false) (h4:QfA M=false) (hs:QbM M=false) (hO:(Qa0 M 0).2=none) (hN:∀ σ1,Wk Tryz.f10.ntmps 1 σ1 (Qd1 U (os++(Qa0 M 0).2.toList).length 0 A0 ((Qa0 M 0).1.C 3) Z (wsv (Qa0 M 0).1.m) (OLs (os++(Qa0 M 0).2.toList)))->K .normal σ1) :
  vc Tryz.prog tys Tryz.f10.ntmps 1 bdR (Qd1 U os.length 0 A0 (M.C 3) Z (wsv M.m) (OLs os)) K:=by
 obtain ⟨wA,_,_⟩:=QaA qW;have WU:=Qaa M.m;have jO:=hM.x;have jL:=hM.c;have qi:=QdG M hM;have qr:=QdH M hM;rw [h3] at qi;rw [h4] at qr;clear h3 h4;have qa:=QeH fG M hM 0;rw [show QbS M 0=Qa0 M 0 by unfold QbS;rw [hs,zN (by decide)]] at qa;rw [show ((0:Nat):Int)=0 from rfl] at qa;have hak:=QcA M hM 0 (by decide);have gW:=Qcw M hM 0;rw [hO] at qa hN;generalize (Qa0 M 0).1=M3 at *;have fI:=Qaa M3.m;have yM:=hak.x;have yE:=hak.c;dsimp only [Option.toList,oS,oR] at *;clear hM qW hak hO hs;rw [List.append_nil] at hN;replace wA:(OLs os).length=os.length*ty137.size:=wA;generalize OLs os=OL,os.length=ol,wsv M.m=Xe,wsv M3.m=Xg at *;obtain ⟨_,_,_,me,_,_,_,_,de,ne⟩:=M;dsimp only at *;cases QJP jO;cases zC8 jL;cases de;cases ne;obtain ⟨_,_,_,mg,_,_,_,_,dg,ng⟩:=M3;dsimp only at *;cases QJP yM;cases zC8 yE;cases dg;cases ng;unfold Qd1;unfold Qd1 at hN;simp only [Qaf,zca,zna,Mc.C,Mc.D,Dk.C,Nk.C] at *;subst h2;generalize mg.length=nn3,me.length=nn1 at *;subst gW;(repeat' ((conv=>whnf);first|exact zi4|(refine zj4 ?_;intro hb)|refine zq0 ?_|refine QE3 ?_|refine QHg ?_|(refine Qaz qi ?_)|(refine Qaz qr ?_)|(refine Qaz qa ?_)|refine zse ?_|refine zbb ?_ ?_));all_goals (conv=>whnf)
 all_goals try (first|(exfalso;omega)|(exfalso;simp at hb;done))
 refine Lp.unroll 1 ?_;(repeat' ((conv=>whnf);first|exact zi4|(refine zj4 ?_;intro hb)|refine zq0 ?_|refine QE3 ?_|refine QHg ?_|(refine Qaz qi ?_)|(refine Qaz qr ?_)|(refine Qaz qa ?_)|refine zse ?_|refine zbb ?_ ?_))
 all_goals exact Qhm
theorem QIN (fG:FN 133 [.s (.str ⟨#[0]⟩),.s (.i 128)] [] (. =⟨.a (.s (.str z128)),[],[]⟩)) (U:Nat) (hU:U<18446744073709551616) (A0 Z:List SV) (hA0:Qad A0=true) (yT:Qad Z=true) (M:Mc) (hM:M.ok) (os:List (List SV)) (qW:Qbk os) (vR:os.length<=4000) (K:Exit->St->Prop) (hn:M.ct<U) (h1:M.ct<1152921504606846976) (h2:M.ht=false) (h3:Qhy M=false) (h4:QfA M=false) (hs:QbM M=false) (l:List SV) (hO:(Qa0 M 0).2=some l) (hN:∀ σ1,Wk Tryz.f10.ntmps 1 σ1 (Qd1 U (os++(Qa0 M 0).2.toList).length 0 A0 ((Qa0 M 0).1.C 3) Z (wsv (Qa0 M 0).1.m) (OLs (os++(Qa0 M 0).2.toList)))->K .normal σ1) :
  vc Tryz.prog tys Tryz.f10.ntmps 1 bdR (Qd1 U os.length 0 A0 (M.C 3) Z (wsv M.m) (OLs os)) K:=by
 obtain ⟨wA,UV,_⟩:=QaA qW;have WU:=Qaa M.m;have jO:=hM.x;have jL:=hM.c;have qi:=QdG M hM;have qr:=QdH M hM;rw [h3] at qi;rw [h4] at qr;clear h3 h4;have qa:=QeH fG M hM 0;rw [show QbS M 0=Qa0 M 0 by unfold QbS;rw [hs,zN (by decide)]] at qa;rw [show ((0:Nat):Int)=0 from rfl] at qa;have hak:=QcA M hM 0 (by decide);have gW:=Qcw M hM 0;obtain ⟨KH,UH,KI⟩:=QdF M 0 l hO;have hOa:=Qkr os l;have wS:(os++ [l]).length=os.length+1:=by simp
 rw [hO] at qa hN;generalize (Qa0 M 0).1=M3 at *;have fI:=Qaa M3.m;have yM:=hak.x;have yE:=hak.c;dsimp only [Option.toList,oS,oR] at *;clear hM qW hak hO hs;rw [wS,hOa] at hN;have JI:Qad (OLs os++l)=true:=Qa2 UV UH;obtain ⟨_,HU⟩:∃ L,OLs os++l=L:=⟨_,rfl⟩;rw [HU] at hN JI;clear hOa wS;replace wA:(OLs os).length=os.length*ty137.size:=wA;generalize OLs os=OL,os.length=ol,wsv M.m=Xe,wsv M3.m=Xg at *;obtain ⟨_,_,_,me,_,_,_,_,de,ne⟩:=M;dsimp only at *;cases QJP jO;cases zC8 jL;cases de;cases ne;obtain ⟨_,_,_,mg,_,_,_,_,dg,ng⟩:=M3;dsimp only at *;cases QJP yM;cases zC8 yE;cases dg;cases ng;unfold Qd1;unfold Qd1 at hN;simp only [Qaf,zca,zna,Mc.C,Mc.D,Dk.C,Nk.C] at *;subst h2;generalize mg.length=nn3,me.length=nn1 at *;subst gW;(repeat' ((conv=>whnf);first|exact zi4|(refine zj4 ?_;intro hb)|refine zq0 ?_|refine QE3 ?_|refine QuX ?_|refine QHi ?_|(refine Qaz qi ?_)|(refine Qaz qr ?_)|(refine Qaz qa ?_)|refine zse ?_|refine zbb ?_ ?_));all_goals (conv=>whnf)
 all_goals try (first|(exfalso;omega)|(exfalso;simp at hb;done))
 refine Lp.unroll 1 ?_;(repeat' ((conv=>whnf);first|exact zi4|(refine zj4 ?_;intro hb)|refine zq0 ?_|refine QE3 ?_|refine QuX ?_|refine QHi ?_|(refine Qaz qi ?_)|(refine Qaz qr ?_)|(refine Qaz qa ?_)|refine zse ?_|refine zbb ?_ ?_))
 all_goals exact Qhm
theorem Qvo:∀ {k:Nat} {M:Mc} {os:List (List SV)} {M':Mc} {os':List (List SV)},M.ok->Qbk os->brR k M os=some (M',os')->M'.ok/\Qbk os'/\os'.length<=os.length+k
 | 0,_,_,_,_,h,h',e=>by injection e with e;injection e with e1 e2;subst e1 e2;exact ⟨h,h',Nat.le_refl _⟩
 | k+1,M,os,M',os',h,h',e=>by
  unfold brR at e;split at e
  .injection e with e;injection e with e1 e2;subst e1 e2;exact ⟨h,h',by omega⟩
  split at e
  .cases e
  .obtain ⟨a,b,_⟩:=Qvo (QcA M h 0 (by decide)) (QcO h' (QdF M 0)) e
   refine ⟨a,b,?_⟩;have:(os++(Qa0 M 0).2.toList).length<=os.length+1:=by cases (Qa0 M 0).2<;>simp [Option.toList]
   omega
def brV:Option (Mc × List (List SV))->Res
 | none=>⟨.tup [.agg Z41,.s .nilsl,.s (.i 0),.s (.i 1302)],[],[]⟩
 | some (M,os)=>⟨.tup [.agg (M.C 1),.s (.sl 2 0 os.length),.s (.i 0),.s (.i 0)],[],[⟨true,1,wsv M.m⟩,⟨true,4,OLs os⟩]⟩
theorem QoJ (fG:FN 133 [.s (.str ⟨#[0]⟩),.s (.i 128)] [] (. =⟨.a (.s (.str z128)),[],[]⟩)) (M:Mc) (hM:M.ok) (qG:QbK M=true) (k:Nat) (hk:k<=4000) (U:Nat) (hU:U<18446744073709551616) (ZM:U=M.ct+k) :
  FN 10 [.agg (M.C 0),.s .nilsl,.s (.w U)] [⟨false,1,wsv M.m⟩] (. =brV (brR k M [])):=by
 have qc:=QoB M hM qG k hk U hU ZM;have q0:=Qbt M.m _ rfl (by have:=hM.ml;omega);have qB:=Qaa M.m;obtain ⟨R,hR⟩:∃ R,brR k M []=R:=⟨_,rfl⟩;rw [hR];obtain ⟨MS,jD⟩:∃ r:Mc,r=M:=⟨_,rfl⟩;rw [<- jD] at hR ZM;have hM0:MS.ok:=by rw [jD];exact hM
 have hmay0:QbK MS=true:=by rw [jD];exact qG
 obtain ⟨A0,hA0⟩:∃ A,A=wsv M.m:=⟨_,rfl⟩;rw [<- hA0] at q0 qc qB |-;have GY:=hM.x;have qO:=hM.c;clear hM qG;obtain ⟨_,_,_,ma,_,_,_,_,da,na⟩:=M;dsimp only at *;cases QJP GY;cases zC8 qO;cases da;cases na;simp only [Qaf,zca,zna,Mc.C,Mc.D,Dk.C,Nk.C] at q0 qc |-;generalize gJ:ma.length=nn at *;obtain ⟨Z,hZ⟩:∃ Z,Z41=Z:=⟨_,rfl⟩;have JL:Z.length=49:=by rw [<- hZ];rfl
 have yT:Qad Z=true:=by rw [<- hZ];rfl
 refine fnW Tryz.func10 ?_;(repeat' ((conv=>whnf);first|exact zi4|(refine zj4 ?_;intro hb)|refine zq0 ?_|(refine Qaz q0 ?_)|(refine Qaz qc ?_)|refine zse ?_|refine zbb ?_ ?_));all_goals (conv=>whnf)
 all_goals try (first|(exfalso;omega)|(exfalso;simp at hb;done))
 refine Qel (x:=vc Tryz.prog tys Tryz.f10.ntmps 1 bdR) (by kernel_rfl) ?_
 refine Qem (fun mm σ=>∃ (M:Mc) (os:List (List SV)),mm=U-M.ct/\M.ct<=U/\M.ok/\QbK M=true/\Qbk os/\os.length+(U-M.ct)<=k/\brR (U-M.ct) M os=R/\σ=Qd1 U os.length 0 A0 (M.C 3) Z (wsv M.m) (OLs os))
  (fun σ=>(∃ (M:Mc) (os:List (List SV)),R=some (M,os)/\M.ok/\Qbk os/\os.length<=k/\σ=Qd1 U os.length 0 A0 (M.C 3) Z (wsv M.m) (OLs os))\/(∃ (M:Mc) (os:List (List SV)),R=none/\M.ok/\Qbk os/\os.length<=k/\σ=Qd1 U os.length 1302 A0 (M.C 3) Z (wsv M.m) (OLs os))) 0 ?_ ?_ ?_
 .refine ⟨k,Qd1 U 0 0 A0 (MS.C 3) Z (wsv MS.m) [],?_,MS,[],by omega,by omega,hM0,hmay0,(fun l h=>by cases h),by show 0+_<=_;omega,by rw [show U-MS.ct=k by omega];exact hR,rfl⟩
  rw [jD];rw [<- hA0,<- hZ];unfold Qd1 Z41;simp only [Qaf,zca,zna,Mc.C,Mc.D,Dk.C,Nk.C,gJ]
  (exact zwL [(0,some 0),(1,some 65536),(2,some 65600),(3,some 262272),(4,none)])
 .rintro mm σ ⟨M,os,wZ,jY,hM,hm,qW,vR,hrun,rfl⟩ K hB hN
  have zW:os.length<=4000:=by omega
  by_cases hn:M.ct<U
  .obtain ⟨j,hj⟩:∃ j,U-M.ct=j+1:=⟨U-M.ct-1,by omega⟩
   have hstop:QbM M=true->R=some (M,os):=fun h=>by rw [<- hrun,hj];unfold brR;rw [zP h]
   have uS:=fun (h:QbM M=true) σ1 hw=>hB _ σ1 (.inl ⟨M,os,hstop h,hM,qW,by omega,rfl⟩) hw
   by_cases h1:M.ct<1152921504606846976
   .cases h2:M.ht with
    | true=>exact QIJ U hU A0 Z qB yT M hM os qW zW K hn h1 h2 (uS (by unfold QbM;rw [h2];simp))
    | false =>
     cases h3:Qhy M with
     | true=>exact QIK U hU A0 Z qB yT M hM os qW zW K hn h1 h2 h3 (uS (by unfold QbM;rw [h3];simp))
     | false =>
      have hs:QbM M=false:=by unfold QbM;rw [hm,h2,h3,zdf (by omega)];rfl
      rw [hj] at hrun;unfold brR at hrun;rw [zN (by rw [hs];decide)] at hrun
      cases h4:QfA M with
      | true =>
       rw [zP h4] at hrun;exact QIL U hU A0 Z qB yT M hM os qW zW K hn h1 h2 h3 h4 fun σ1 hw=>hB _ σ1 (.inr ⟨M,os,hrun.symm,hM,qW,by omega,rfl⟩) hw
      | false =>
       rw [zN (by rw [h4];decide)] at hrun;have qN:(Qa0 M 0).1.ct=M.ct+1:=by rw [QsO];omega
       have GO:=fun σ1 h=>hN (mm-1) _ σ1 (by omega) h ⟨(Qa0 M 0).1,os++(Qa0 M 0).2.toList,by omega,by omega,QcA M hM 0 (by decide),QfS M hM 0 hm hs,QcO qW (QdF M 0),by have:(os++(Qa0 M 0).2.toList).length<=os.length+1:=(by cases (Qa0 M 0).2<;>simp [Option.toList]);omega,by rw [qN,show U-(M.ct+1)=j by omega];exact hrun,rfl⟩
       cases hO:(Qa0 M 0).2 with
       | none=>exact QIM fG U hU A0 Z qB yT M hM os qW zW K hn h1 h2 h3 h4 hs hO GO
       | some l=>exact QIN fG U hU A0 Z qB yT M hM os qW zW K hn h1 h2 h3 h4 hs l hO GO
   .exact QII U hU A0 Z qB yT M hM os qW zW K hn (by omega) (uS (by unfold QbM;rw [zdt (by omega)];simp))
  .refine QIH U hU A0 Z qB yT M hM os qW zW K hn fun σ1 hw=>hB _ σ1 (.inl ⟨M,os,?_,hM,qW,by omega,rfl⟩) hw
   rw [<- hrun,show U-M.ct=0 by omega];rfl
 .clear hR jD hM0 hmay0 hA0 q0 qc ZM
  rintro σ (⟨M,os,hR,hM,qW,vR,rfl⟩|⟨M,os,hR,hM,qW,vR,rfl⟩)
  all_goals
   subst hR;obtain ⟨wA,_,_⟩:=QaA qW;have WU:=Qaa M.m;have jO:=hM.x;have jL:=hM.c;unfold brV;dsimp only;clear hM qW wA;generalize OLs os=OL,os.length=ol,wsv M.m=Xe at *;obtain ⟨_,_,_,me,_,_,_,_,de,ne⟩:=M;dsimp only at *;cases QJP jO;cases zC8 jL;cases de;cases ne;unfold Qd1;simp only [Qaf,zca,zna,Mc.C,Mc.D,Dk.C,Nk.C] at *;generalize me.length=nn1 at *
  .clear hZ
   (repeat' ((conv=>whnf);first|exact zi4|(refine zj4 ?_;intro hb)|refine QHc ?_|refine QDl ?_|refine zse ?_|refine zbb ?_ ?_));all_goals (conv=>whnf)
   all_goals first|(exfalso;omega)|(exfalso;simp at hb;done)|(apply Fin.mk (m:= [(0,some 0),(1,some 3),(2,some 4)]);(focus exact rfl);(all_goals ((try (show HlS _ _ [] _));first|(exact aFi)|exact rfl)))
  .subst hZ
   unfold Z41;exact QJS
end Go.Proofs.YtpgkkfajljekpaaGreat
