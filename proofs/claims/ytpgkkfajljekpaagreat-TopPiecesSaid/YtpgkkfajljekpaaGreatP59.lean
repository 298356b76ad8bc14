import Derived.Test.YtpgkkfajljekpaaGreatP58
import Derived.Shelf.Strings.Repeat
set_option linter.unusedSimpArgs false
set_option linter.unusedVariables false
set_option maxHeartbeats 0
set_option maxRecDepth 100000
namespace Go.Proofs.YtpgkkfajljekpaaGreat
open Go Go.RowKit
theorem Qth (E:Eg) (hE:E.ok):FN 73 [.s (.ptr 0 0)] [⟨true,1,E.C 1 2 3 4⟩,⟨true,1,wsv E.M.m⟩,⟨true,4,tes E.T⟩,⟨true,3,bks E.B⟩,⟨true,4,OLs E.o⟩] (. =⟨.a (.s (.bool (Qog E.M))),[],[]⟩):=by
 have ci:=QdG E.M hE.M;have cr:=QdH E.M hE.M;obtain ⟨R,hR⟩:∃ R,Qog E.M=R:=⟨_,rfl⟩;rw [hR];unfold Qog at hR;generalize Qhy E.M=b1,QfA E.M=b2 at *;have fH:=Qaa E.M.m;have gY:=Qah E.T;have fI:=Qae E.B;have qM:=(QaA hE.o).2.1;obtain ⟨hM,hT,_,hB,_,ho,_,_⟩:=hE;obtain ⟨M,T,B,o,_,s⟩:=E;dsimp only [Eg.H,Eg.R,Eg.Rk,Eg.C,wrt] at *;obtain ⟨hx,hc,hY,gA,gH,gB,gI,gD,gE,gF⟩:=hM;obtain ⟨_,_,_,m,_,_,_,_,d,n⟩:=M;dsimp only at *;cases QJP hx;cases zC8 hc;cases d;cases n;dsimp only [Mc.C,Mc.D,Dk.C,Nk.C,Dk.ok,Nk.ok] at *
 try dsimp only [cR,Mc.C,Mc.D,Dk.C,Nk.C] at *
 try simp only [Qaf,zca,zna,List.getD_cons_succ,List.getD_cons_zero] at *
 generalize gO:wsv m=XX,hX3:bks B=BB,hX4:OLs o=OO,gJ:m.length=nn,gM:B.length=bn,gP:o.length=on,gU:tes T=TT,htn:T.length=tn at *;clear gO gU hX3 hX4 gJ gM gP htn hT hB ho hY gA gH gB gI gD gE gF;refine fnW Tryz.func73 ?_;(repeat' ((conv=>whnf);first|exact zi2|(refine zj0 ?_;intro hb)|(refine Qaz ci ?_)|(refine Qaz cr ?_)|refine zse ?_|refine zbb ?_ ?_));all_goals (conv=>whnf)
 all_goals first
  | (refine QcF ?_ ?_;(focus (apply Fin.mk (m:= [(0,some 0),(1,some 1),(2,some 2),(3,some 3),(4,some 4)]);(focus exact rfl);(all_goals ((try (show HlS _ _ [] _));first|(exact aFi)|exact rfl))));rw [<- hR];symm;first|(simp_all;done)|(simp_all;omega)|(rw [zbi];simp_all;done)|(rw [zbi];simp_all;omega)|grind)
theorem Qr0 (M0:Mc) (E:Eg) (hE:E.ok):∃ (T2:List Te) (B2:List Bk) (s2:Bool),stl M0 E=⟨E.M,T2,B2,E.o,E.f,s2⟩/\(stl M0 E).ok:=by
 have h:∀ (l:List Nat) (F:Eg),F.ok->∃ (T2:List Te) (B2:List Bk) (s2:Bool),l.foldl QcI F=⟨F.M,T2,B2,F.o,F.f,s2⟩/\(l.foldl QcI F).ok:=fun l=>by
  induction l with
  | nil=>exact fun F hF=>⟨F.T,F.B,F.s,rfl,hF⟩
  | cons i l ih =>
   intro F hF;obtain ⟨T2,B2,s2,h1,h2⟩:=ih (QcI F i) (QrZ hF i);have he:(QcI F i).M=F.M/\(QcI F i).o=F.o/\(QcI F i).f=F.f:=by unfold QcI;split<;>exact ⟨rfl,rfl,rfl⟩
   refine ⟨T2,B2,s2,?_,h2⟩;show l.foldl QcI (QcI F i)=_;rw [h1,he.1,he.2.1,he.2.2]
 have h0:(Qkn (cR M0) E).ok/\(Qkn (cR M0) E).M=E.M/\(Qkn (cR M0) E).o=E.o/\(Qkn (cR M0) E).f=E.f:=by
  unfold Qkn;split
  .exact ⟨hE,rfl,rfl,rfl⟩
  .exact ⟨⟨hE.M,QiS,Nat.zero_le _,hE.B,hE.bl,hE.o,hE.ol,hE.f⟩,rfl,rfl,rfl⟩
 obtain ⟨T2,B2,s2,h1,h2⟩:=h (Qd2 M0.m E.M.m E.M.m.length) _ h0.1;rw [h0.2.1,h0.2.2.1,h0.2.2.2] at h1;exact ⟨T2,B2,s2,h1,h2⟩
theorem Qg2 (M:Mc) (hM:M.ok) (w:Nat) (hw:w<4294967296):(QbS M w).1.ok/\QjG (QbS M w).2/\(QbS M w).1.m.length=M.m.length:=by
 unfold QbS;split
 .exact ⟨hM,(fun l h=>by cases h),rfl⟩
 .exact ⟨QcA M hM w hw,QdF M w,Qcw M hM w⟩
theorem QnR (fG:FN 133 [.s (.str ⟨#[0]⟩),.s (.i 128)] [] (. =⟨.a (.s (.str z128)),[],[]⟩)) (E:Eg) (hE:E.ok) (KL:E.o.length<900000) (w:Nat) (hw:w<4294967296) (hO:(QbS E.M w).2=none) :
  FN 75 [.s (.ptr 0 0),.s (.u w)] E.H (. =(sgl w E).R (.tup [])):=by
 have cs:=QeH fG E.M hE.M w;clear fG;obtain ⟨g1,g2,g3⟩:=Qg2 E.M hE.M w hw;unfold sgl;obtain ⟨M2,wM⟩:∃ M2,(QbS E.M w).1=M2:=⟨_,rfl⟩;rw [hO] at cs g2 |-;rw [wM] at cs g1 g3 |-;dsimp only [Option.toList,oS,oR] at cs |-;rw [List.append_nil];have HT:(⟨M2,E.T,E.B,E.o,E.f,E.s⟩:Eg).ok:=⟨g1,hE.T,hE.tl,hE.B,hE.bl,hE.o,hE.ol,hE.f⟩;have cset:=Qj2 E.M hE.M ⟨M2,E.T,E.B,E.o,E.f,E.s⟩ HT g3.symm;obtain ⟨T2,B2,_,he,hok⟩:=Qr0 E.M ⟨M2,E.T,E.B,E.o,E.f,E.s⟩ HT;rw [he] at cset;change Fn _ _ _ _ (. =(stl E.M ⟨M2,E.T,E.B,E.o,E.f,E.s⟩).R (.tup []));rw [he];clear he hok HT g2;have wA:(OLs E.o).length=E.o.length*ty137.size:=(QaA hE.o).1;have wO:=Qah T2;have zH:=Qae B2;have zL:=Qaa M2.m;obtain ⟨jX,FE,_,_,_,_,_,_,_,_⟩:=g1;have fH:=Qaa E.M.m;have gY:=Qah E.T;have fI:=Qae E.B;have qM:=(QaA hE.o).2.1;obtain ⟨hM,hT,_,hB,_,ho,vR,_⟩:=hE;obtain ⟨M,T,B,o,f,s⟩:=E;dsimp only [Eg.H,Eg.R,Eg.Rk,Eg.C,wrt] at *;obtain ⟨_,_,_,mg,_,_,_,_,d',n'⟩:=M2;dsimp only at *;cases QJP jX;cases zC8 FE;obtain ⟨_,_,_,_,_,_,_,_⟩:=d';obtain ⟨_,_,_,_,_,_⟩:=n';generalize YN:wsv mg=XV,hT2v:tes T2=TT2,hB2v:bks B2=BB2,T2.length=t2n,B2.length=b2n at *;clear wM hO;obtain ⟨hx,hc,hY,gA,gH,gB,gI,gD,gE,gF⟩:=hM;obtain ⟨_,_,_,m,_,_,_,_,d,n⟩:=M;dsimp only at *;cases QJP hx;cases zC8 hc;cases d;cases n;dsimp only [Mc.C,Mc.D,Dk.C,Nk.C,Dk.ok,Nk.ok] at *
 try dsimp only [cR,Mc.C,Mc.D,Dk.C,Nk.C] at *
 try simp only [Qaf,zca,zna,List.getD_cons_succ,List.getD_cons_zero] at *
 generalize gO:wsv m=XX,hX3:bks B=BB,hX4:OLs o=OO,gJ:m.length=nn,gM:B.length=bn,gP:o.length=on,gU:tes T=TT,htn:T.length=tn,hg3:mg.length=nn3 at *;subst g3;have hol3:on<=900000:=vR;clear gO gU hX3 hX4 gJ gM gP htn hT hB ho hY gA gH gB gI gD gE gF hg3 YN hT2v hB2v;refine fnW Tryz.func75 ?_;(repeat' ((conv=>whnf);first|exact zi2|(refine zj0 ?_;intro hb)|refine zq0 ?_|refine QFb ?_|((with_reducible apply Vl.mk (α:=List SV)); . with_reducible exact List.append_nil OO)|(refine Qaz cs ?_)|(refine Qkc cset ?_)|refine zse ?_|refine zbb ?_ ?_))
 all_goals exact QDW
theorem QnS (fG:FN 133 [.s (.str ⟨#[0]⟩),.s (.i 128)] [] (. =⟨.a (.s (.str z128)),[],[]⟩)) (E:Eg) (hE:E.ok) (KL:E.o.length<900000) (w:Nat) (hw:w<4294967296) (l:List SV) (hO:(QbS E.M w).2=some l) :
  FN 75 [.s (.ptr 0 0),.s (.u w)] E.H (. =(sgl w E).R (.tup [])):=by
 have cs:=QeH fG E.M hE.M w;clear fG;obtain ⟨g1,g2,g3⟩:=Qg2 E.M hE.M w hw;unfold sgl;obtain ⟨M2,wM⟩:∃ M2,(QbS E.M w).1=M2:=⟨_,rfl⟩;rw [hO] at cs g2 |-;rw [wM] at cs g1 g3 |-;dsimp only [Option.toList,oS,oR] at cs |-;obtain ⟨KH,_,KI⟩:=g2 l rfl;have HA:Qbk (E.o++ [l]):=QcO (O:=some l) hE.o g2;have hOa:=Qkr E.o l;have wS:(E.o++ [l]).length=E.o.length+1:=by simp
 have HT:(⟨M2,E.T,E.B,E.o++ [l],E.f,E.s⟩:Eg).ok:=⟨g1,hE.T,hE.tl,hE.B,hE.bl,HA,by show (E.o++ [l]).length<=_;omega,hE.f⟩;have cset:=Qj2 E.M hE.M ⟨M2,E.T,E.B,E.o++ [l],E.f,E.s⟩ HT g3.symm;obtain ⟨T2,B2,_,he,hok⟩:=Qr0 E.M ⟨M2,E.T,E.B,E.o++ [l],E.f,E.s⟩ HT;have JI:Qad (OLs (E.o++ [l]))=true:=(QaA HA).2.1;rw [he] at cset;change Fn _ _ _ _ (. =(stl E.M ⟨M2,E.T,E.B,E.o++ [l],E.f,E.s⟩).R (.tup []));rw [he];clear he hok HT g2;have wA:(OLs E.o).length=E.o.length*ty137.size:=(QaA hE.o).1;have wO:=Qah T2;have zH:=Qae B2;have zL:=Qaa M2.m;obtain ⟨jX,FE,_,_,_,_,_,_,_,_⟩:=g1;have fH:=Qaa E.M.m;have gY:=Qah E.T;have fI:=Qae E.B;have qM:=(QaA hE.o).2.1;obtain ⟨hM,hT,_,hB,_,ho,vR,_⟩:=hE;obtain ⟨M,T,B,o,f,s⟩:=E;dsimp only [Eg.H,Eg.R,Eg.Rk,Eg.C,wrt] at *;generalize OLs (o++ [l])=OO2 at *;rw [wS] at *;obtain ⟨_,_,_,mg,_,_,_,_,d',n'⟩:=M2;dsimp only at *;cases QJP jX;cases zC8 FE;obtain ⟨_,_,_,_,_,_,_,_⟩:=d';obtain ⟨_,_,_,_,_,_⟩:=n';generalize YN:wsv mg=XV,hT2v:tes T2=TT2,hB2v:bks B2=BB2,T2.length=t2n,B2.length=b2n at *;clear wM hO;obtain ⟨hx,hc,hY,gA,gH,gB,gI,gD,gE,gF⟩:=hM;obtain ⟨_,_,_,m,_,_,_,_,d,n⟩:=M;dsimp only at *;cases QJP hx;cases zC8 hc;cases d;cases n;dsimp only [Mc.C,Mc.D,Dk.C,Nk.C,Dk.ok,Nk.ok] at *
 try dsimp only [cR,Mc.C,Mc.D,Dk.C,Nk.C] at *
 try simp only [Qaf,zca,zna,List.getD_cons_succ,List.getD_cons_zero] at *
 generalize gO:wsv m=XX,hX3:bks B=BB,hX4:OLs o=OO,gJ:m.length=nn,gM:B.length=bn,gP:o.length=on,gU:tes T=TT,htn:T.length=tn,hg3:mg.length=nn3 at *;subst g3;have hol3:on<=900000:=vR;clear gO gU hX3 hX4 gJ gM gP htn hT hB ho hY gA gH gB gI gD gE gF hg3 YN hT2v hB2v;refine fnW Tryz.func75 ?_;(repeat' ((conv=>whnf);first|exact zi2|(refine zj0 ?_;intro hb)|refine zq0 ?_|refine QFb ?_|refine QuX ?_|((with_reducible apply Vl.mk (α:=List SV)); . with_reducible exact hOa.symm)|(refine Qaz cs ?_)|(refine Qkc cset ?_)|refine zse ?_|refine zbb ?_ ?_))
 all_goals exact QDW
theorem QrT (fG:FN 133 [.s (.str ⟨#[0]⟩),.s (.i 128)] [] (. =⟨.a (.s (.str z128)),[],[]⟩)) (E:Eg) (hE:E.ok) (KL:E.o.length<900000) (w:Nat) (hw:w<4294967296) :
  FN 75 [.s (.ptr 0 0),.s (.u w)] E.H (. =(sgl w E).R (.tup [])):=by
 cases hO:(QbS E.M w).2 with
 | none=>exact QnR fG E hE KL w hw hO
 | some l=>exact QnS fG E hE KL w hw l hO
theorem QBN {P:Program} {f:FuncId} (hE:Qvd P f) {s S:ByteArray} {c:Int} (h:∀ w,Calls P f #[.string s,.int .i64 c] w fun e w'=>e= .returned (.string S)/\Below w.heap.size w w') :
  Fn P f [.s (.str s),.s (.int .i64 c)] [] (. =⟨.a (.s (.str S)),[],[]⟩):=⟨hE,fun ρ w vs hd ha hc=>by
 have hv:vs= #[.string s,.int .i64 c]:=by
  obtain ⟨hl,hk⟩:=ha;obtain ⟨v0,e0,g0⟩:=hk 0 _ rfl;obtain ⟨v1,e1,g1⟩:=hk 1 _ rfl;have g0:v0= .string s:=g0;have g1:v1= .int .i64 c:=g1;subst g0 g1;obtain ⟨l⟩:=vs
  match l,hl,e0,e1 with
  | [a,b],_,e0,e1=>injection e0 with e0;injection e1 with e1;rw [e0,e1]
 subst hv;refine (h w).mono ?_;rintro e w' ⟨rfl,hB⟩;have hn:∀ n,(⟨.a (.s (.str S)),[],[]⟩:Res).app [] n=none:=fun n=>by cases n<;>rfl
 refine ⟨_,_,ρ,rfl,rfl,Ext.refl _,fun n _=>hd n (Nat.zero_le _),rfl,⟨(fun n r e=>by rw [hn] at e;cases e),(fun n r m s Ln Lm e=>by rw [hn] at e;cases e),(fun n r L e=>by rw [hn] at e;cases e),hB.os,hB.tape,hB.output,hB.size,fun b hb _=>hB.block b hb,fun L c hf=>?_⟩,fun p hp=>(by cases hp),fun p hp=>(by cases hp),fun p hp=>(by cases hp)⟩;obtain ⟨f1,_,_⟩:=hc.frz L c hf
 exact ⟨f1.of_block (hB.block _ f1.lt),(fun n r Ln e=>by rw [hn] at e;cases e),.inl hf⟩⟩
def QHL:Go.Shelf.Ren:=⟨fun
  | 99=>192
  | 105=>133
  | 165=>193
  | 166=>194
  | 169=>196
  | 170=>195
  | 206=>251
  | 212=>191
  | 240=>252
  | 241=>253
  | 263=>249
  | 264=>250
  | 276=>273
  | 277=>274
  | n=>n,fun
  | 0=>0
  | 3=>3
  | 4=>4
  | 5=>5
  | 9=>9
  | 20=>20
  | 37=>135
  | 46=>45
  | 51=>24
  | 53=>40
  | 70=>266
  | 72=>268
  | 75=>271
  | 76=>272
  | 80=>275
  | 109=>263
  | 127=>307
  | 146=>257
  | 148=>240
  | 164=>322
  | n=>n,fun n=>n⟩
theorem laysR:Lays.n105 Tryz.prog QHL:=by
 constructor<;>first|kernel_rfl|(intro w;kernel_rfl)
theorem QBt:Builder.Extra Tryz.prog QHL:=by
 refine ⟨⟨by kernel_rfl,by kernel_rfl⟩,laysR.t5,laysR.a5,laysR.z5,laysR.v5,by kernel_rfl,by kernel_rfl,by kernel_rfl,by decide⟩
theorem Qmw:FN 133 [.s (.str ⟨#[0]⟩),.s (.int .i64 128)] [] (. =⟨.a (.s (.str z128)),[],[]⟩) :=
 QBN ⟨Tryz.f133,Tryz.func133,by kernel_rfl,by kernel_rfl⟩ fun w=>by
  have h:=Any.strings_Repeat laysR QBt ⟨#[0]⟩ 128 w (by decide) (by decide);rw [show (⟨(Lib.repeatL (⟨#[0]⟩:ByteArray).data.toList 128).toArray⟩:ByteArray)=z128 by kernel_rfl] at h;exact h
def lpB:Code->List Code
 | .seq a b=>lpB a++lpB b
 | .cond _ a b=>lpB a++lpB b
 | .block _ c=>lpB c
 | .loop c=>c::lpB c
 | .scope c=>lpB c
 | _=> []
theorem Qel {N k:Nat} {x x2:VC} {σ:St} {Q:Exit->St->Prop} (h:x2=x) (l:Lp N k x σ Q):Lp N k x2 σ Q:=by
 subst h;exact l
theorem Qem {N k:Nat} {x:VC} {σ:St} {Q:Exit->St->Prop} (I:Nat->St->Prop) (J:St->Prop) (id:Nat) (h0:∃ n σ',Wk N k σ σ'/\I n σ')
  (hs:∀ n σ',I n σ'->∀ K:Exit->St->Prop,(∀ σz σ1,J σz->Wk N k σ1 σz->K (.exit id) σ1)->(∀ m σ'' σ1,m<n->Wk N k σ1 σ''->I m σ''->K .normal σ1)->x σ' K) (hz:∀ σz,J σz->Q (.exit id) σz):Lp N k x σ Q :=
 .inw I h0 fun n σ' hI=>hs n σ' hI _ (fun σz σ1 hj hw=>⟨σz,hw,hz σz hj⟩) fun m σ'' σ1 hm hw hI=>⟨m,σ'',hm,hw,hI⟩
theorem Qx0 {N k:Nat} {x:VC} {σ:St} {Q:Exit->St->Prop} (I:Nat->St->Prop) (σz:St) (id:Nat) (h0:∃ n σ',Wk N k σ σ'/\I n σ')
  (hs:∀ n σ',I n σ'->∀ K:Exit->St->Prop,(∀ σ1,Wk N k σ1 σz->K (.exit id) σ1)->(∀ m σ'' σ1,m<n->Wk N k σ1 σ''->I m σ''->K .normal σ1)->x σ' K) (hz:Q (.exit id) σz):Lp N k x σ Q :=
 Qem I (. =σz) id h0 (fun n σ' hI K h1 h2=>hs n σ' hI K (fun σ1 hw=>h1 _ σ1 rfl hw) h2) fun σ h=>h ▸ hz
end Go.Proofs.YtpgkkfajljekpaaGreat
