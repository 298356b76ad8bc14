import Derived.Test.YtflelebfmdggkaaGreatP102
import Derived.Test.YtflelebfmdggkaaGreatP116
set_option linter.unusedSimpArgs false
set_option linter.unusedVariables false
set_option maxHeartbeats 100000000
set_option maxRecDepth 100000
namespace Go.Proofs.YtflelebfmdggkaaGreat
open Go Go.RowKit
theorem Qmz {H:List Row} {Q:Res→Prop} {R0:Res} {σ:St} {x:TV} (hq:Q R0) (h:Fin H (· =R0) σ x):Fin H Q σ x:=by
 induction h with
 | mk R m h1 h2 h3 h4=>exact .mk R m (h1 ▸ hq) h2 h3 h4
 | mv R m h1 h2 h3 h4=>exact .mv R m (h1 ▸ hq) h2 h3 h4
 | fr hn hf _ ih=>exact .fr hn hf ih
theorem QBz {P:Program} {f:FuncId} {args:List AV} {H:List Row} {Q Q':Res→Prop} (h:Fn P f args H Q) (hq:∀ R,Q R→Q' R):Fn P f args H Q' :=
 ⟨h.1,fun ρ w vs a b c=>(h.2 ρ w vs a b c).mono fun e w' he=>by
  obtain ⟨R,v,ρ',hR,rest⟩:=he
  exact ⟨R,v,ρ',hq R hR,rest⟩⟩
theorem QDS {a0 a1 a2 a3 a4 a5 a6 a7 a8 a9 a10 a11 a12 a13 a14 a15 a16 a17 a18 a19 a20 a21 a22 a23 a24 b0 b1 b2 b3 b4 b5 b6 b7 b8 b9 b10 b11 b12 b13 b14 b15 b16 b17 b18 b19 b20 b21 b22 b23 b24 z s:SV} {r:List SV} {place:Nat→Option (Nat × Nat)} (h:place 0=some (0,25)) (h':place 1=some (25,1)):Qb2 place (a0::a1::a2::a3::a4::a5::a6::a7::a8::a9::a10::a11::a12::a13::a14::a15::a16::a17::a18::a19::a20::a21::a22::a23::a24::z::r) [(0,[b0,b1,b2,b3,b4,b5,b6,b7,b8,b9,b10,b11,b12,b13,b14,b15,b16,b17,b18,b19,b20,b21,b22,b23,b24]),(1,[s])]=some (b0::b1::b2::b3::b4::b5::b6::b7::b8::b9::b10::b11::b12::b13::b14::b15::b16::b17::b18::b19::b20::b21::b22::b23::b24::s::r):=by
 have e:=QBC (o:=0) rfl (r:=z::r) (a0:=a0) (a1:=a1) (a2:=a2) (a3:=a3) (a4:=a4) (a5:=a5) (a6:=a6) (a7:=a7) (a8:=a8) (a9:=a9) (a10:=a10) (a11:=a11) (a12:=a12) (a13:=a13) (a14:=a14) (a15:=a15) (a16:=a16) (a17:=a17) (a18:=a18) (a19:=a19) (a20:=a20) (a21:=a21) (a22:=a22) (a23:=a23) (a24:=a24) (b0:=b0) (b1:=b1) (b2:=b2) (b3:=b3) (b4:=b4) (b5:=b5) (b6:=b6) (b7:=b7) (b8:=b8) (b9:=b9) (b10:=b10) (b11:=b11) (b12:=b12) (b13:=b13) (b14:=b14) (b15:=b15) (b16:=b16) (b17:=b17) (b18:=b18) (b19:=b19) (b20:=b20) (b21:=b21) (b22:=b22) (b23:=b23) (b24:=b24);have k:Nat.ble (0+ [b0,b1,b2,b3,b4,b5,b6,b7,b8,b9,b10,b11,b12,b13,b14,b15,b16,b17,b18,b19,b20,b21,b22,b23,b24].length) (a0::a1::a2::a3::a4::a5::a6::a7::a8::a9::a10::a11::a12::a13::a14::a15::a16::a17::a18::a19::a20::a21::a22::a23::a24::z::r).length=true:=Nat.ble_eq_true_of_le (by simp only [List.length_cons,List.length_nil];omega);have k2:Nat.ble (25+ [s].length) (b0::b1::b2::b3::b4::b5::b6::b7::b8::b9::b10::b11::b12::b13::b14::b15::b16::b17::b18::b19::b20::b21::b22::b23::b24::z::r).length=true:=Nat.ble_eq_true_of_le (by simp only [List.length_cons,List.length_nil];omega);unfold Qb2;rw [h];show (match Nat.ble (0+ [b0,b1,b2,b3,b4,b5,b6,b7,b8,b9,b10,b11,b12,b13,b14,b15,b16,b17,b18,b19,b20,b21,b22,b23,b24].length) (a0::a1::a2::a3::a4::a5::a6::a7::a8::a9::a10::a11::a12::a13::a14::a15::a16::a17::a18::a19::a20::a21::a22::a23::a24::z::r).length with|false=>none|true=>Qb2 place (QaC (a0::a1::a2::a3::a4::a5::a6::a7::a8::a9::a10::a11::a12::a13::a14::a15::a16::a17::a18::a19::a20::a21::a22::a23::a24::z::r) 0 [b0,b1,b2,b3,b4,b5,b6,b7,b8,b9,b10,b11,b12,b13,b14,b15,b16,b17,b18,b19,b20,b21,b22,b23,b24]) [(1,[s])])=_;rw [k,e];show Qb2 place (b0::b1::b2::b3::b4::b5::b6::b7::b8::b9::b10::b11::b12::b13::b14::b15::b16::b17::b18::b19::b20::b21::b22::b23::b24::z::r) [(1,[s])]=_;unfold Qb2;rw [h'];show (match Nat.ble (25+ [s].length) (b0::b1::b2::b3::b4::b5::b6::b7::b8::b9::b10::b11::b12::b13::b14::b15::b16::b17::b18::b19::b20::b21::b22::b23::b24::z::r).length with|false=>none|true=>Qb2 place (QaC (b0::b1::b2::b3::b4::b5::b6::b7::b8::b9::b10::b11::b12::b13::b14::b15::b16::b17::b18::b19::b20::b21::b22::b23::b24::z::r) 25 [s]) [])=_;rw [k2];rfl
theorem Qlf:∀ a b,zer (a+b)=zer a++zer b
 | 0,b=>by rw [Nat.zero_add];rfl
 | a+1,b=>by rw [Nat.succ_add];show 0::zer (a+b)=0::(zer a++zer b);rw [Qlf a b]
def cpW (ws:List Nat):List Nat:=ws++zer (256-ws.length)
theorem Qwa (ws:List Nat) (h:ws.length≤256):QaC (wsv (zer 256)) 0 (wsv ws)=wsv (cpW ws):=by
 have e:wsv (zer 256)=wsv (zer ws.length)++wsv (zer (256-ws.length)):=by
  unfold wsv;rw [← List.map_append,← Qlf,show ws.length+(256-ws.length)=256 by omega]
 rw [e,QeX (by rw [wsv_length,wsv_length,Qdj])];unfold cpW wsv;rw [List.map_append]
theorem Qgn (ws:List Nat) (h:ws.length≤256):(cpW ws).length=256:=by unfold cpW;rw [List.length_append,Qdj];omega
theorem Qrs:∀ n,∀ y∈zer n,y<4294967296
 | 0,y,h=>by cases h
 | n+1,y,h=>by
  rcases List.mem_cons.1 h with rfl|h
  ·decide
  ·exact Qrs n y h
theorem QB7 (ws:List Nat) (h:∀ y∈ws,y<4294967296):∀ y∈cpW ws,y<4294967296:=fun y hy=>by
 rcases List.mem_append.1 hy with h1|h1
 ·exact h y h1
 ·exact Qrs _ y h1
def Qg1 (ws:List Nat):Mc:=⟨[0,0,0,0,0,0,0,0,0,0,0,0,0,0,0,0],0,[1,0,0,0,0,0,0,0],cpW ws,⟨#[]⟩,false,0,false,⟨4,0,0,0,0,0,0,⟨#[]⟩⟩,⟨0,0,false,0,false,0⟩,0,0,0,false,false⟩
theorem Qqp (ws:List Nat) (h:ws.length≤256) (hr:∀ y∈ws,y<4294967296):(Qg1 ws).ok:=by
 have h0:∀ y∈([0,0,0,0,0,0,0,0,0,0,0,0,0,0,0,0]:List Nat),y<4294967296:=by decide
 have h1:∀ y∈([1,0,0,0,0,0,0,0]:List Nat),y<4294967296:=by decide
 refine ⟨rfl,rfl,h0,h1,(by show (0:Nat)<4294967296;decide),QB7 ws hr,?_,⟨by show (4:Nat)<4294967296;decide,by show (0:Nat)<4294967296;decide,by show (0:Nat)<4294967296;decide,by show (0:Nat)<4294967296;decide,by show (0:Nat)<4294967296;decide,Nat.zero_le _,by show (Lit.int .i64 0).wf=true;decide,by show (Lit.int .i64 0).wf=true;decide⟩,⟨by show (0:Nat)<4294967296;decide,by show (0:Nat)<4294967296;decide,by show (0:Nat)<4294967296;decide,by show (0:Nat)<4294967296;decide⟩,⟨by show (0:Nat)<4294967296;decide,by show (0:Nat)<4294967296;decide,by show (0:Nat)<4294967296;decide,by show (0:Nat)<18446744073709551616;decide,Nat.zero_le _⟩⟩;show (cpW ws).length≤1000000;rw [Qgn ws h];omega
theorem QmW {z l y:List SV} {o:Nat} (ho:o=0) (h:QaC z 0 l=y):QaC z o l=y:=by rw [ho];exact h
theorem Qq2 (ws:List Nat) (n:Nat) (hn:ws.length=n) (h:n≤256):FN 13 [.s (.i 8),.s (.i 4),.s (.sl 0 0 n)] [⟨false,1,wsv ws⟩]
  (· =⟨.tup [.agg ((Qg1 ws).C 1),.s (.bool true)],[],[⟨true,1,wsv (Qg1 ws).m⟩]⟩):=by
 have q0:=QqN 0;have q1:=Qyr 8 (by decide) (by decide);change Fn _ _ _ _ (· =⟨.a (.s (.sl 0 0 256)),[],[⟨true,1,wsv (zer 256)⟩]⟩) at q1;have hcp:=Qwa ws (by omega);have gK:=Qgn ws (by omega);have vO:=Qaa ws;have fZ:=Qaa (zer 256);have fM:=Qaa (cpW ws);have ZU:(wsv (zer 256)).length=256:=by rw [wsv_length,Qdj]
 have uP:(wsv ws).length=n*ty24.size:=by rw [wsv_length,hn];show n=n*1;omega
 have hkw:Qas (wsv ws)=true:=QbF ws;have zD:min n 256=n:=by omega
 have hlw2:(wsv ws).length≤256:=by rw [wsv_length];omega
 unfold Qg1;dsimp only [Mc.C,Mc.D,Dk.C,Nk.C];rw [gK];simp only [Qah,List.cons_append,List.nil_append];unfold Qu1 at q0;have h0:((0:Nat):Int)=0:=rfl;have h1:((1:Nat):Int)=1:=rfl;have h4:((4:Nat):Int)=4:=rfl;simp only [h0,h1,h4];clear h0 h1 h4;generalize wsv (zer 256)=Z,wsv (cpW ws)=X2,wsv ws=X1 at *;clear hn gK;refine fnW Tryz.func13 ?_;(repeat' ((conv=>whnf);first|exact zi3|(refine zj0 ?_;intro hb)|((with_reducible apply Ge.mk (α:=List SV)); · (refine QDS ?_ ?_<;>exact rfl))|((with_reducible apply Vl.mk (α:=Nat)); · with_reducible exact zD)|(apply Sk.mk; · exact Qct X1 uP hkw)|(apply Sd.mk; · refine ⟨rfl,?_⟩;(show 0+X1.length≤Z.length;omega))|((with_reducible apply Vl.mk (α:=List SV)); · (with_reducible refine QmW ?_ hcp);exact rfl)|(refine zpu q0 ?_)|(refine Qae q1 [] [] aRn trivial trivial ⟨rfl,Qc8 rfl⟩ ?_)|refine zse ?_|refine zbb ?_ ?_))
 all_goals exact Qe8
theorem QuJ:QcN eqt tys true fns QdU 100 20 35 [.s .nilsl] []=some ⟨.a (.s (.bool true)),[],[]⟩:=by kernel_rfl
theorem QyW:FN 35 [.s .nilsl] [] (· =⟨.a (.s (.bool true)),[],[]⟩):=Qa4 QuJ
theorem QtI (M:Mc) (p:Int) (v:Nat):(Qbz M p v).1.ct=M.ct:=by
 unfold Qbz
 repeat' split
 all_goals rfl
theorem QsW (M:Mc) (w:Nat):(Qbh M w).1.ct=(M.ct+1)%18446744073709551616:=by
 unfold Qbh;split
 ·show ((inM _ _).ct+1)%_=_
  unfold inM;split<;>rfl
 split
 ·show ((Qbz _ _ _).1.ct+1)%_=_
  rw [QtI];rfl
 split
 ·rfl
 split<;>rfl
def rnQ (I:Mc→Prop) (R:Res):Prop:=∃ (M':Mc) (os:List (List SV)),I M'∧M'.ok∧Qbn os∧R=⟨.tup [.agg (M'.C 1),.s (.sl 2 0 os.length),.s (.i 0),.s (.i 0)],[],[⟨true,1,wsv M'.m⟩,⟨true,4,OLs os⟩]⟩
def Z41:List SV:=List.replicate 25 (.u 0)++ [.nilsl,.str ⟨#[]⟩,.bool false,.u 0,.bool false,.u 0,.u 0,.u 0,.i 0,.i 0,.u 0,.u 0,.str ⟨#[]⟩,.u 0,.u 0,.bool false,.u 0,.bool false,.u 0,.u 0,.u 0,.w 0,.bool false,.bool false]
def Qka (ol:Nat) (A0 MC Z X OL:List SV):St :=
 ⟨[(1,.a (.s .nilsl)),(2,.a (.s (.w 87))),(3,.a (.s (.ptr 1 0))),(6,.a (.s (.ptr 2 0))),(10,.a (.s (.sl 4 0 ol))),(11,.a (.s (.i 0)))],
  [(0,some ⟨false,1,A0⟩),(1,some ⟨true,1,MC⟩),(2,some ⟨true,1,Z⟩),(3,some ⟨true,1,X⟩),(4,some ⟨true,4,OL⟩)],[0]⟩
theorem QwY (I:Mc→Prop) (M:Mc) (hM:M.ok) (fK:QbQ M=true) (qQ:M.ct=0) (GP:I M) (hI:∀ M:Mc,M.ok→I M→M.ct<87→M.ht=false→QkV M=false→QmB M=false∧I (Qbh M 0).1):FN 16 [.agg (M.C 0),.s .nilsl,.s (.w 87)] [⟨false,1,wsv M.m⟩] (rnQ I):=by
 have q0:=QvR M hM;have q1:=Qok M hM;rw [fK] at q1;have q2:=QyW;have vO:=Qaa M.m;have wY:=hM.x;have gK:=hM.c;have hM0:=hM;have hct0:M.ct=0:=qQ;obtain ⟨MS,uE⟩:∃ r:Mc,r=M:=⟨_,rfl⟩;rw [← uE] at hM0 hct0 GP;obtain ⟨A0,hA0⟩:∃ A,A=wsv M.m:=⟨_,rfl⟩;rw [← hA0] at q0 q1 vO ⊢;clear hM fK;obtain ⟨_,_,_,ma,_,_,_,_,da,na⟩:=M;dsimp only at *;obtain ⟨_,_,_,_,_,_,_,_,_,_,_,_,_,_,_,_,rfl⟩:=Qav wY;obtain ⟨_,_,_,_,_,_,_,_,rfl⟩:=QaM gK;cases da;cases na;simp only [Qah,List.cons_append,List.nil_append,Mc.C,Mc.D,Dk.C,Nk.C] at *;generalize gJ:ma.length=nn at *;subst qQ;obtain ⟨Z,hZ⟩:∃ Z,Z41=Z:=⟨_,rfl⟩;have VH:Z.length=49:=by rw [← hZ];rfl
 have uZ:Qau Z=true:=by rw [← hZ];rfl
 refine fnW Tryz.func16 ?_;(repeat' ((conv=>whnf);first|exact zi4|(refine zj4 ?_;intro hb)|(refine QaD q0 ?_)|(refine QaD q1 ?_)|(refine zpu q2 ?_)|refine zse ?_|refine zbb ?_ ?_));all_goals (conv=>whnf)
 all_goals try (first|(exfalso;omega)|(exfalso;simp at hb;done))
 refine Lp.inv (fun mm σ=>∃ (M:Mc) (os:List (List SV)),mm+M.ct=87∧I M∧M.ok∧Qbn os∧os.length≤M.ct∧σ=Qka os.length A0 (M.C 3) Z (wsv M.m) (OLs os)) ?_ ?_
 ·refine ⟨87,Qka 0 A0 (MS.C 3) Z (wsv MS.m) [],?_,MS,[],by omega,GP,hM0,(fun l h=>by cases h),Nat.zero_le _,rfl⟩
  rw [uE];rw [← hA0,← hZ];unfold Qka Z41;simp only [Qah,List.cons_append,List.nil_append,Mc.C,Mc.D,Dk.C,Nk.C,gJ]
  (exact zwL [(0,some 0),(1,some 65536),(2,some 65600),(3,some 262208),(4,none)])
 clear uE hM0 hct0 q0 q1;rintro mm σ ⟨M,os,zA,FD,hM,qX,jH,rfl⟩;obtain ⟨vY,HY,KE⟩:=QaA qX;have fJ:=Qaa M.m;have hx:=hM.x;have hc:=hM.c
 by_cases gT:M.ct<87
 ·have qi:=QlP M hM
  have qr:=QiO M hM;have qa:=Qim M hM 0 (by decide);have YN:=Qew M 0;have hak:=Qed M hM 0 (by decide);have gZ:=QeR M hM 0;have uX:=QsW M 0;have ZT:=hI M hM FD gT;generalize QkV M=ib,QmB M=rb,Qbh M 0=AV at *;obtain ⟨M3,O⟩:=AV;dsimp only at *
  by_cases HS:M.ht=true
  ·clear qi qr qa YN hak gZ uX ZT
   have vD:rnQ I ⟨.tup [.agg (M.C 1),.s (.sl 2 0 os.length),.s (.i 0),.s (.i 0)],[],[⟨true,1,wsv M.m⟩,⟨true,4,OLs os⟩]⟩:=⟨M,os,FD,hM,qX,rfl⟩;clear hM FD hI;generalize OLs os=OL,os.length=ol,hXe:wsv M.m=Xe at *;obtain ⟨xe,pce,ce,me,kse,tae,tde,tfe,de,ne,bte,bge,cte,wte,yW⟩:=M;dsimp only at *;obtain ⟨xe_0,xe_1,xe_2,xe_3,xe_4,xe_5,xe_6,xe_7,xe_8,xe_9,xe_10,xe_11,xe_12,xe_13,xe_14,xe_15,rfl⟩:=Qav hx;obtain ⟨ce_0,ce_1,ce_2,ce_3,ce_4,ce_5,ce_6,ce_7,rfl⟩:=QaM hc;obtain ⟨de_0,de_1,de_2,de_3,de_4,de_5,de_6,de_7⟩:=de;obtain ⟨ne_0,ne_1,ne_2,ne_3,ne_4,ne_5⟩:=ne;unfold Qka;simp only [Qah,List.cons_append,List.nil_append,Mc.C,Mc.D,Dk.C,Nk.C] at *;generalize fQ:me.length=nn1 at *;subst HS;(repeat' ((conv=>whnf);first|exact zi4|(refine zj4 ?_;intro hb)|refine zse ?_|refine zbb ?_ ?_));all_goals (conv=>whnf)
   all_goals try (first|(exfalso;omega)|(exfalso;simp at hb;done))
   refine Lp.unroll 1 ?_;exact QyR
  cases ib
  case true =>
   clear qr qa YN hak gZ uX ZT;have vD:rnQ I ⟨.tup [.agg (M.C 1),.s (.sl 2 0 os.length),.s (.i 0),.s (.i 0)],[],[⟨true,1,wsv M.m⟩,⟨true,4,OLs os⟩]⟩:=⟨M,os,FD,hM,qX,rfl⟩;clear hM FD hI;generalize OLs os=OL,os.length=ol,hXe:wsv M.m=Xe at *;obtain ⟨xe,pce,ce,me,kse,tae,tde,tfe,de,ne,bte,bge,cte,wte,yW⟩:=M;dsimp only at *;obtain ⟨xe_0,xe_1,xe_2,xe_3,xe_4,xe_5,xe_6,xe_7,xe_8,xe_9,xe_10,xe_11,xe_12,xe_13,xe_14,xe_15,rfl⟩:=Qav hx;obtain ⟨ce_0,ce_1,ce_2,ce_3,ce_4,ce_5,ce_6,ce_7,rfl⟩:=QaM hc;obtain ⟨de_0,de_1,de_2,de_3,de_4,de_5,de_6,de_7⟩:=de;obtain ⟨ne_0,ne_1,ne_2,ne_3,ne_4,ne_5⟩:=ne;unfold Qka;simp only [Qah,List.cons_append,List.nil_append,Mc.C,Mc.D,Dk.C,Nk.C] at *;generalize fQ:me.length=nn1 at *;obtain rfl:yW=false:=by simpa using HS
   (repeat' ((conv=>whnf);first|exact zi4|(refine zj4 ?_;intro hb)|refine zse ?_|refine zbb ?_ ?_));all_goals (conv=>whnf)
   all_goals try (first|(exfalso;omega)|(exfalso;simp at hb;done))
   refine Lp.unroll 1 ?_;(repeat' ((conv=>whnf);first|exact zi4|(refine zj4 ?_;intro hb)|refine QGi ?_|refine QHt ?_|(refine QaD qi ?_)|refine zse ?_|refine zbb ?_ ?_))
   all_goals exact Qtt
  obtain ⟨hrb,WB⟩:=ZT (by simpa using HS) rfl;subst hrb;have ZB:=hak.x;have JR:=hak.c;have fH:=Qaa M3.m;have uO:=QcU qX YN;have hct3:M3.ct=M.ct+1:=by rw [uX];omega
  obtain ⟨r3,VD⟩:∃ r:Mc,r=M3:=⟨_,rfl⟩;have JQ:=hak;rw [← VD] at JQ WB;have hct3':r3.ct=M.ct+1:=by rw [VD];exact hct3
  clear uX hak
  cases O with
  | none =>
   dsimp only [Option.toList,oS,oR] at *;rw [List.append_nil] at uO;have gP:os.length≤M.ct+1:=by omega
   have vP:∀ MC X ol OL,MC=M3.C 3→X=wsv M3.m→ol=os.length→OL=OLs os→Qka ol A0 MC Z X OL=Qka os.length A0 (r3.C 3) Z (wsv r3.m) (OLs os):=fun MC X ol OL h1 h2 h3 h4=>by rw [h1,h2,h3,h4,VD]
   clear VD qX hM FD hI;replace vY:(OLs os).length=os.length*ty80.size:=vY;generalize hOLo:OLs os=OL,hoLo:os.length=ol,hXe:wsv M.m=Xe,hXg:wsv M3.m=Xg at *;obtain ⟨xe,pce,ce,me,kse,tae,tde,tfe,de,ne,bte,bge,cte,wte,yW⟩:=M;dsimp only at *;obtain ⟨xe_0,xe_1,xe_2,xe_3,xe_4,xe_5,xe_6,xe_7,xe_8,xe_9,xe_10,xe_11,xe_12,xe_13,xe_14,xe_15,rfl⟩:=Qav hx;obtain ⟨ce_0,ce_1,ce_2,ce_3,ce_4,ce_5,ce_6,ce_7,rfl⟩:=QaM hc;obtain ⟨de_0,de_1,de_2,de_3,de_4,de_5,de_6,de_7⟩:=de;obtain ⟨ne_0,ne_1,ne_2,ne_3,ne_4,ne_5⟩:=ne;obtain ⟨xg,pcg,cg,mg,ksg,tag,tdg,tfg,dg,ng,btg,bgg,ctg,wtg,htg⟩:=M3;dsimp only at *;obtain ⟨xg_0,xg_1,xg_2,xg_3,xg_4,xg_5,xg_6,xg_7,xg_8,xg_9,xg_10,xg_11,xg_12,xg_13,xg_14,xg_15,rfl⟩:=Qav ZB;obtain ⟨cg_0,cg_1,cg_2,cg_3,cg_4,cg_5,cg_6,cg_7,rfl⟩:=QaM JR;obtain ⟨dg_0,dg_1,dg_2,dg_3,dg_4,dg_5,dg_6,dg_7⟩:=dg;obtain ⟨ng_0,ng_1,ng_2,ng_3,ng_4,ng_5⟩:=ng;have GE:=vP _ Xg ol OL rfl rfl rfl rfl;clear vP;unfold Qka;simp only [Qah,List.cons_append,List.nil_append,Mc.C,Mc.D,Dk.C,Nk.C] at *;generalize hng:mg.length=nn3,fQ:me.length=nn1 at *;subst gZ;obtain rfl:yW=false:=by simpa using HS
   (repeat' ((conv=>whnf);first|exact zi4|(refine zj4 ?_;intro hb)|refine zse ?_|refine zbb ?_ ?_));all_goals (conv=>whnf)
   all_goals try (first|(exfalso;omega)|(exfalso;simp at hb;done))
   refine Lp.unroll 1 ?_;(repeat' ((conv=>whnf);first|exact zi4|(refine zj4 ?_;intro hb)|refine Qz2 ?_|refine QIt ?_|(refine QaD qi ?_)|(refine QaD qr ?_)|(refine Qlw qa ?_)|refine zse ?_|refine zbb ?_ ?_));all_goals (conv=>whnf)
   all_goals first|(refine ⟨mm-1,Qka ol A0 _ Z Xg OL,by omega,?_,r3,os,by omega,WB,JQ,uO,by omega,by rw [hoLo,hOLo];exact GE⟩;unfold Qka;(exact zwL [(0,some 0),(1,some 1),(2,some 2),(3,some 3),(4,some 590016)]))
  | some l =>
   obtain ⟨wQ,HU,wR⟩:=YN l rfl;have hOa:=Qla os l;have wF:(os++ [l]).length=os.length+1:=by simp
   dsimp only [Option.toList,oS,oR] at *;have gP:(os++ [l]).length≤M.ct+1:=by rw [wF];omega
   have vP:∀ MC X ol OL,MC=M3.C 3→X=wsv M3.m→ol=(os++ [l]).length→OL=OLs (os++ [l])→Qka ol A0 MC Z X OL=Qka (os++ [l]).length A0 (r3.C 3) Z (wsv r3.m) (OLs (os++ [l])):=fun MC X ol OL h1 h2 h3 h4=>by rw [h1,h2,h3,h4,VD]
   clear VD qX hM FD hI;rw [hOa,wF] at vP;obtain ⟨OL2,zZ⟩:∃ L,OLs os++l=L:=⟨_,rfl⟩;have JE:Qau OL2=true:=by rw [← zZ];exact QaX HY HU
   rw [zZ] at vP hOa;replace vY:(OLs os).length=os.length*ty80.size:=vY;generalize hOLo:OLs os=OL,hoLo:os.length=ol,hXe:wsv M.m=Xe,hXg:wsv M3.m=Xg at *;obtain ⟨xe,pce,ce,me,kse,tae,tde,tfe,de,ne,bte,bge,cte,wte,yW⟩:=M;dsimp only at *;obtain ⟨xe_0,xe_1,xe_2,xe_3,xe_4,xe_5,xe_6,xe_7,xe_8,xe_9,xe_10,xe_11,xe_12,xe_13,xe_14,xe_15,rfl⟩:=Qav hx;obtain ⟨ce_0,ce_1,ce_2,ce_3,ce_4,ce_5,ce_6,ce_7,rfl⟩:=QaM hc;obtain ⟨de_0,de_1,de_2,de_3,de_4,de_5,de_6,de_7⟩:=de;obtain ⟨ne_0,ne_1,ne_2,ne_3,ne_4,ne_5⟩:=ne;obtain ⟨xg,pcg,cg,mg,ksg,tag,tdg,tfg,dg,ng,btg,bgg,ctg,wtg,htg⟩:=M3;dsimp only at *;obtain ⟨xg_0,xg_1,xg_2,xg_3,xg_4,xg_5,xg_6,xg_7,xg_8,xg_9,xg_10,xg_11,xg_12,xg_13,xg_14,xg_15,rfl⟩:=Qav ZB;obtain ⟨cg_0,cg_1,cg_2,cg_3,cg_4,cg_5,cg_6,cg_7,rfl⟩:=QaM JR;obtain ⟨dg_0,dg_1,dg_2,dg_3,dg_4,dg_5,dg_6,dg_7⟩:=dg;obtain ⟨ng_0,ng_1,ng_2,ng_3,ng_4,ng_5⟩:=ng;have GE:=vP _ Xg (ol+1) OL2 rfl rfl rfl rfl;clear vP;unfold Qka;simp only [Qah,List.cons_append,List.nil_append,Mc.C,Mc.D,Dk.C,Nk.C] at *;generalize hng:mg.length=nn3,fQ:me.length=nn1 at *;subst gZ;obtain rfl:yW=false:=by simpa using HS
   (repeat' ((conv=>whnf);first|exact zi4|(refine zj4 ?_;intro hb)|refine zse ?_|refine zbb ?_ ?_));all_goals (conv=>whnf)
   all_goals try (first|(exfalso;omega)|(exfalso;simp at hb;done))
   refine Lp.unroll 1 ?_;(repeat' ((conv=>whnf);first|exact zi4|(refine zj4 ?_;intro hb)|refine Qz2 ?_|(apply Sk.mk; · exact Qct l wQ wR)|((with_reducible apply Vl.mk (α:=List SV)); · with_reducible exact zZ)|(refine QaD qi ?_)|(refine QaD qr ?_)|(refine Qlw qa ?_)|refine zse ?_|refine zbb ?_ ?_));all_goals (conv=>whnf)
   all_goals first|(refine ⟨mm-1,Qka (ol+1) A0 _ Z Xg OL2,by omega,?_,r3,(os++ [l]),by omega,WB,JQ,uO,by omega,by rw [wF,hOa];exact GE⟩;unfold Qka;(exact zwL [(0,some 0),(1,some 1),(2,some 2),(3,some 3),(4,some 590016)]))
 ·have qZ:M.ct=87:=by omega
  have vD:rnQ I ⟨.tup [.agg (M.C 1),.s (.sl 2 0 os.length),.s (.i 0),.s (.i 0)],[],[⟨true,1,wsv M.m⟩,⟨true,4,OLs os⟩]⟩:=⟨M,os,FD,hM,qX,rfl⟩;clear hM FD hI;generalize OLs os=OL,os.length=ol,hXe:wsv M.m=Xe at *;obtain ⟨xe,pce,ce,me,kse,tae,tde,tfe,de,ne,bte,bge,cte,wte,yW⟩:=M;dsimp only at *;obtain ⟨xe_0,xe_1,xe_2,xe_3,xe_4,xe_5,xe_6,xe_7,xe_8,xe_9,xe_10,xe_11,xe_12,xe_13,xe_14,xe_15,rfl⟩:=Qav hx;obtain ⟨ce_0,ce_1,ce_2,ce_3,ce_4,ce_5,ce_6,ce_7,rfl⟩:=QaM hc;obtain ⟨de_0,de_1,de_2,de_3,de_4,de_5,de_6,de_7⟩:=de;obtain ⟨ne_0,ne_1,ne_2,ne_3,ne_4,ne_5⟩:=ne;unfold Qka;simp only [Qah,List.cons_append,List.nil_append,Mc.C,Mc.D,Dk.C,Nk.C] at *;generalize fQ:me.length=nn1 at *;exact QyR
def lpB:Code→List Code
 | .seq a b=>lpB a++lpB b
 | .cond _ a b=>lpB a++lpB b
 | .block _ c=>lpB c
 | .loop c=>c::lpB c
 | .scope c=>lpB c
 | _=> []
theorem QkS {N k:Nat} {x x2:VC} {σ:St} {Q:Exit→St→Prop} (h:x2=x) (l:Lp N k x σ Q):Lp N k x2 σ Q:=by
 subst h;exact l
theorem QrC {N k:Nat} {x:VC} {σ:St} {Q:Exit→St→Prop} (I:Nat→St→Prop) (J:St→Prop) (id:Nat) (h0:∃ n σ',Wk N k σ σ'∧I n σ')
  (hs:∀ n σ',I n σ'→∀ K:Exit→St→Prop,(∀ σz σ1,J σz→Wk N k σ1 σz→K (.exit id) σ1)→(∀ m σ'' σ1,m<n→Wk N k σ1 σ''→I m σ''→K .normal σ1)→x σ' K) (hz:∀ σz,J σz→Q (.exit id) σz):Lp N k x σ Q :=
 .inw I h0 fun n σ' hI=>hs n σ' hI _ (fun σz σ1 hj hw=>⟨σz,hw,hz σz hj⟩) fun m σ'' σ1 hm hw hI=>⟨m,σ'',hm,hw,hI⟩
theorem Qr8 {N k:Nat} {x:VC} {σ:St} {Q:Exit→St→Prop} (I:Nat→St→Prop) (σz:St) (id:Nat) (h0:∃ n σ',Wk N k σ σ'∧I n σ')
  (hs:∀ n σ',I n σ'→∀ K:Exit→St→Prop,(∀ σ1,Wk N k σ1 σz→K (.exit id) σ1)→(∀ m σ'' σ1,m<n→Wk N k σ1 σ''→I m σ''→K .normal σ1)→x σ' K) (hz:Q (.exit id) σz):Lp N k x σ Q :=
 QrC I (· =σz) id h0 (fun n σ' hI K h1 h2=>hs n σ' hI K (fun σ1 hw=>h1 _ σ1 rfl hw) h2) fun σ h=>h ▸ hz
end Go.Proofs.YtflelebfmdggkaaGreat
