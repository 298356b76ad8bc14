import Derived.Test.YtpgkkfajljekpabGreatQ30
import Derived.Shelf.Strings.Repeat
set_option linter.unusedSimpArgs false
set_option linter.unusedVariables false
set_option maxHeartbeats 0
set_option maxRecDepth 100000
namespace Go.Proofs.YtpgkkfajljekpabGreat
open Go Go.RowKit
theorem Qza (E:Eg) (hE:E.ok) (hC:Coh E) (lim:Nat) (qO:lim<18446744073709551616) (hw:E.M.wt=false) (hi:QcY E.M=false) (hK:(rsv E E.M.pc 4 1).2.2=true) :
  FN 50 [.s (.ptr 0 0),.s (.w lim)] E.H (. =(QfQ (miL (fnd (rsv E E.M.pc 4 1).1 (rsv E E.M.pc 4 1).2.1).2.l) lim 0 { (fnd (rsv E E.M.pc 4 1).1 (rsv E E.M.pc 4 1).2.1).1 with f:=(fnd (rsv E E.M.pc 4 1).1 (rsv E E.M.pc 4 1).2.1).2.A / 128,s:=false } |> fun r=>Eg.R r.1 (.a (.s (.w (r.2:Nat)))))):=by
 have cl:=Qds E.M hE.M;have fF:=Qab hE.M.cr 0;have JQ:=Qab hE.M.cr 7;have yZ:=Qfd E.M;have a2:=Qhv (E.M.c.getD 0 0) fF;have an:=Qh2 (QfD E.M) (E.M.c.getD 7 0) yZ JQ;obtain ⟨ir,yC⟩:∃ k,E.M.c.getD 0 0 / 2%2=k:=⟨_,rfl⟩;obtain ⟨en,yK⟩:∃ k,QfD E.M &&& E.M.c.getD 7 0=k:=⟨_,rfl⟩;rw [yC] at a2;rw [yK] at an;have hint:QcY E.M=decide (ir=1/\en≠0):=by unfold QcY QiX;rw [yC,yK]
 have VB:ir<2:=by omega
 clear yC yK;generalize QfD E.M=ln at *;rw [hi] at hint;have hint:=of_decide_eq_false hint.symm;clear hi;have ca:=QfG E hE E.M.pc 4 1 hE.M.pr (.inr rfl);have hr:=QeX E hE hC E.M.pc 4 1 hE.M.pr (.inr rfl) (.inl rfl);have qU:=Qy3 E hE hC E.M.pc hE.M.pr hK;obtain ⟨X,T1,B1,s1,he,hXl,hok1,qH⟩:=QhN E hE E.M.pc 4 1 hE.M.pr;have HQ:=hr.coh;have hA2:=(hr.in_ hK).2;rw [hK] at ca;clear qH hr hK;generalize (rsv E E.M.pc 4 1).2.1=A at *;rw [he] at ca hok1 HQ |-;clear he;have zF:(⟨{ E.M with m:=X },T1,B1,E.o,E.f,s1⟩:Eg).M.m.length=E.M.m.length:=hXl;rw [<- zF] at qU;clear zF;have cf:=QBY _ hok1 A hA2;obtain ⟨B2,KV,hok2,hcoh2,hb2⟩:=QvS _ hok1 HQ A qU;obtain ⟨l,GV,hl2,jC,uD⟩:=Qqh X X.length A hok1.M.mr;rw [KV] at cf hok2 hcoh2 |-;rw [hb2] at cf |-;have ZJ:(fdB X X.length A 16).A<4294967296:=Qvt _ _ _ hA2;change Fn _ _ _ _ (. =Eg.R _ (.a (.agg (fdB X X.length A 16).C))) at cf;show Fn _ _ _ _ (. =Eg.R (QfQ (miL (fdB X X.length A 16).l) lim 0 ⟨{ E.M with m:=X },T1,B2,E.o,(fdB X X.length A 16).A / 128,false⟩).1 (.a (.s (.w ((QfQ (miL (fdB X X.length A 16).l) lim 0 ⟨{ E.M with m:=X },T1,B2,E.o,(fdB X X.length A 16).A / 128,false⟩).2:Nat)))));clear KV hb2 qU hl2;generalize fdB X X.length A 16=b at *;obtain ⟨bA,bL,bl⟩:=b;dsimp only at GV ZJ |-;subst GV;rw [Qyb];have cfr:=Qjv bA ZJ bL (l.map Mi.z) (l.map Mi.z).length;dsimp only [Bk.C] at cf;rw [Qiu,List.length_map] at cf cfr;obtain ⟨⟨Ez,dz⟩,hz⟩:∃ r,QfQ l lim 0 ⟨{ E.M with m:=X },T1,B2,E.o,bA / 128,false⟩=r:=⟨_,rfl⟩;rw [hz];dsimp only;have hok3:(⟨{ E.M with m:=X },T1,B2,E.o,bA / 128,false⟩:Eg).ok:=⟨hok2.M,hok2.T,hok2.tl,hok2.B,hok2.bl,hok2.o,hok2.ol,by show bA / 128<_;omega⟩;have vU:Coh (⟨{ E.M with m:=X },T1,B2,E.o,bA / 128,false⟩:Eg):=⟨hcoh2.n,hcoh2.T,hcoh2.B⟩;clear hok2 hcoh2 hok1 HQ;have hfA:bA / 128<4294967296:=by omega
 have wG:=Qae T1;have zD:=Qac B1;have FC:=Qac B2;have zH:=Qaa X;have WL:=Qbb l;have KG:=QgQ l;have fD:=Qaa E.M.m;have gO:=Qae E.T;have gZ:=Qac E.B;have fY:=(Qax hE.o).2.1;obtain ⟨hM,hT,_,hB,_,_,_,_⟩:=hE;obtain ⟨M,T,B,o,f,s⟩:=E;dsimp only [Eg.H,Eg.R,Eg.Rk,Eg.C,wrt] at *;generalize YI:wsv X=XV,hT1v:tes T1=TT1,hB1v:bks B1=BB1,hB2v:bks B2=BB2,mcs l=LL,ht1n:T1.length=t1n,hb1n:B1.length=b1n,hb2n:B2.length=b2n,uW:l.length=rl,bA / 128=bF at *;obtain ⟨hx,hc,hY,gA,gH,gB,gI,gE,gD,gG⟩:=hM;obtain ⟨x,pc,c,m,_,_,_,_,d,n,_,_,ct,wt⟩:=M;dsimp only at *;cases QaJ hx;cases zC8 hc;cases d;cases n;dsimp only [Mc.C,Mc.D,Dk.C,Nk.C,Dk.ok,Nk.ok] at *;subst hw
 try dsimp only [cR,Mc.C,Mc.D,Dk.C,Nk.C] at *
 try simp only [Qaf,zca,zna,List.getD_cons_succ,List.getD_cons_zero] at *
 generalize gP:wsv m=XX,hX3:bks B=BB,hX4:OLs o=OO,gJ:m.length=nn,gM:B.length=bn,gQ:o.length=on,gV:tes T=TT,htn:T.length=tn,hXl3:X.length=xn at *;subst hXl;clear gP gV hX3 gJ gM htn hT hB hY gA gH gB gI gE gD gG hB1v hb1n;refine fnW Tryz.func50 ?_;(conv=>whnf);(repeat' ((first|exact zi2|refine zj0 fun hb=>?_|refine QHp ?_|(refine QaA cl ?_)|(refine Qaw ca ?_)|(refine Qaw cf ?_)|(refine zpu cfr ?_)|refine zse ?_|refine zbb ?_ ?_)<;>conv=>whnf))
 all_goals first|skip
 all_goals
  refine Qir (x:=vc Tryz.prog tys Tryz.f50.ntmps 5 bdU) (by kernel_rfl) ?_;refine QqN (fun mm σ=>∃ (E:Eg) (j d:Nat),mm+j=rl/\E.ok/\Coh E/\d<=lim/\QfQ (l.drop j) lim d E=(Ez,dz)/\σ=QmP lim rl j d E LL) (QsR Ez dz) 0 ?_ ?_ ?_
  .refine ⟨rl,_,?_,_,0,0,by omega,hok3,vU,Nat.zero_le _,by rw [List.drop_zero];exact hz,rfl⟩
   dsimp only [QmP,Qwe,Eg.C,Mc.C,Mc.D,Dk.C,Nk.C];simp only [Qaf,zca,zna];rw [YI,hT1v,hB2v,hX4,hXl3,ht1n,hb2n,gQ];refine QG7 70 65536000 rfl rfl ?_
   first|(exact zwV [(0,some 0),(1,some 1),(2,some 2),(3,some 3),(4,some 4),(5,some 458880),(6,some 458881),(7,some 458882),(8,some 458883),(9,some 65536000)])
  .rintro mm σ ⟨E,j,d,yT,hok,fI,zY,jG,rfl⟩ K hB hN
   by_cases hj:j<rl
   .obtain ⟨m1,hm1⟩:∃ m1,l[j]?=some m1:=⟨l[j]'(by rw [uW];omega),zgg (by omega)⟩
    have seg:=KG j m1 hm1;obtain ⟨qD,uI,vI⟩:=jC m1 (List.mem_of_getElem? hm1);rw [Qcn l j m1 hm1,QjO] at jG
    by_cases hA:lim-d<m1.n.toNat
    .rw [zP hA] at jG
     injection jG with h1 h2
     subst h1 h2;exact QGt lim rl j d qO LL WL E hok fI zY K m1 qD uI vI hj uD seg hA hB
    rw [zN hA] at jG
    cases vX:(exO E m1).2 with
    | false =>
     rw [zP vX] at jG;injection jG with h1 h2
     subst h1 h2;exact QGu lim rl j d qO LL WL E hok fI zY K m1 qD uI vI hj uD seg hA vX hB
    | true =>
     rw [zN (by rw [vX];decide)] at jG;obtain ⟨_,_,_,_,_,_,HF,_,zF,wK,jY⟩:=Qmj E hok fI m1 qD vX;clear HF
     cases hs:(exO E m1).1.s with
     | true =>
      rw [zP hs] at jG;injection jG with h1 h2
      subst h1 h2;exact QGv lim rl j d qO LL WL E hok fI zY K m1 qD uI vI hj uD seg hA vX hs hB
     | false =>
      rw [zN (by rw [hs];decide)] at jG;exact QGw lim rl j d qO LL WL E hok fI zY K m1 qD uI vI hj uD seg hA vX hs fun σ1 hw=>hN (mm-1) _ σ1 (by omega) hw ⟨_,j+1,d+m1.n.toNat,by omega,QhB wK _,Qgz jY _,by omega,jG,rfl⟩
   .obtain rfl:j=rl:=by omega
    rw [List.drop_eq_nil_of_le (by omega)] at jG;change (E,d)=(Ez,dz) at jG;injection jG with h1 h2
    subst h1 h2;exact QGs lim j j d qO LL WL E hok fI zY K rfl uD hB
  .have hok:Ez.ok:=by
    have h:=Qrc l lim 0 _ hok3 vU jC;rw [hz] at h;exact h
   have fI:=vU;clear hz hok3 vU KG jC cf ca cl cfr;have vZ:=Qaa Ez.M.m;have wA:=Qae Ez.T;have wB:=Qac Ez.B;have yH:=(Qax hok.o).2.1;unfold QsR QAH;obtain ⟨hME,HO,_,HM,_,GC,_,_⟩:=hok;have yI:=hME.x;have gK:=hME.c;have HS:Ez.M.ct<18446744073709551616:=hME.dv.2.2.2.1;clear hME HO HM GC fI;obtain ⟨⟨_,_,_,me,_,_,_,_,fe,ne,_,_,_,_,_⟩,Te,Be,oe,_,_⟩:=Ez;cases fe;cases ne;dsimp only at yI gK;cases QaJ yI;cases zC8 gK
   try dsimp only [Eg.H,Eg.R,Eg.C,Mc.C,Mc.D,Dk.C,Nk.C,ctE] at *
   try simp only [Qaf,zca,zna] at *
   generalize wsv me=Xe,tes Te=TTe,bks Be=BBe,OLs oe=OOe,me.length=men,Te.length=ten,Be.length=ben,oe.length=oen at *;exact QEC
theorem QgA (E:Eg) (lim:Nat) (hE:E.ok) (hC:Coh E) (qO:lim<18446744073709551616):FN 50 [.s (.ptr 0 0),.s (.w lim)] E.H (. =(Qe6 lim E).1.R (.a (.s (.w ((Qe6 lim E).2:Nat))))):=by
 unfold Qe6
 by_cases hw:E.M.wt=true
 .rw [zP (.inl hw)]
  exact Qy7 E hE hC lim qO hw
 have hw:=Bool.eq_false_iff.2 hw
 by_cases hi:QcY E.M=true
 .rw [zP (.inr hi)]
  exact Qy8 E hE hC lim qO hw hi
 have hi:=Bool.eq_false_iff.2 hi;rw [zN (fun h=>by rcases h with h|h<;>simp_all)]
 by_cases hK:(rsv E E.M.pc 4 1).2.2=false
 .rw [zP hK]
  exact Qy9 E hE hC lim qO hw hi hK
 .rw [zN hK]
  exact Qza E hE hC lim qO hw hi (by simpa using hK)
theorem QBX {P:Program} {f:FuncId} (hE:Qvm P f) {s S:ByteArray} {c:Int} (h:∀ w,Calls P f #[.string s,.int .i64 c] w fun e w'=>e= .returned (.string S)/\Below w.heap.size w w') :
  Fn P f [.s (.str s),.s (.int .i64 c)] [] (. =⟨.a (.s (.str S)),[],[]⟩):=⟨hE,fun ρ w vs hd ha hc=>by
 have hv:vs= #[.string s,.int .i64 c]:=by
  obtain ⟨hl,hk⟩:=ha;obtain ⟨v0,e0,g0⟩:=hk 0 _ rfl;obtain ⟨v1,e1,g1⟩:=hk 1 _ rfl;have g0:v0= .string s:=g0;have g1:v1= .int .i64 c:=g1;subst g0 g1;obtain ⟨l⟩:=vs
  match l,hl,e0,e1 with
  | [a,b],_,e0,e1=>injection e0 with e0;injection e1 with e1;rw [e0,e1]
 subst hv;refine (h w).mono ?_;rintro e w' ⟨rfl,hB⟩;have hn:∀ n,(⟨.a (.s (.str S)),[],[]⟩:Res).app [] n=none:=fun n=>by cases n<;>rfl
 refine ⟨_,_,ρ,rfl,rfl,Ext.refl _,fun n _=>hd n (Nat.zero_le _),rfl,⟨(fun n r e=>by rw [hn] at e;cases e),(fun n r m s Ln Lm e=>by rw [hn] at e;cases e),(fun n r L e=>by rw [hn] at e;cases e),hB.os,hB.tape,hB.output,hB.size,fun b hb _=>hB.block b hb,fun L c hf=>?_⟩,fun p hp=>(by cases hp),fun p hp=>(by cases hp),fun p hp=>(by cases hp)⟩;obtain ⟨f1,_,_⟩:=hc.frz L c hf
 exact ⟨f1.of_block (hB.block _ f1.lt),(fun n r Ln e=>by rw [hn] at e;cases e),.inl hf⟩⟩
def QHK:Go.Shelf.Ren:=⟨fun
  | 99=>274
  | 105=>266
  | 165=>275
  | 166=>276
  | 169=>278
  | 170=>277
  | 206=>282
  | 212=>273
  | 240=>283
  | 241=>284
  | 263=>280
  | 264=>281
  | 276=>285
  | 277=>286
  | n=>n,fun
  | 0=>0
  | 3=>3
  | 4=>4
  | 5=>5
  | 9=>9
  | 20=>20
  | 37=>194
  | 46=>106
  | 51=>26
  | 53=>23
  | 70=>329
  | 72=>331
  | 75=>333
  | 76=>334
  | 80=>337
  | 109=>326
  | 127=>340
  | 146=>258
  | 148=>225
  | 164=>341
  | n=>n,fun n=>n⟩
theorem laysR:Lays.n105 Tryz.prog QHK:=by
 constructor<;>first|kernel_rfl|(intro w;kernel_rfl)
theorem QBD:Builder.Extra Tryz.prog QHK:=by
 refine ⟨⟨by kernel_rfl,by kernel_rfl⟩,laysR.t5,laysR.a5,laysR.z5,laysR.v5,by kernel_rfl,by kernel_rfl,by kernel_rfl,by decide⟩
theorem QgY:FN 266 [.s (.str ⟨#[0]⟩),.s (.int .i64 128)] [] (. =⟨.a (.s (.str z128)),[],[]⟩) :=
 QBX ⟨Tryz.f266,Tryz.func266,by kernel_rfl,by kernel_rfl⟩ fun w=>by
  have h:=Any.strings_Repeat laysR QBD ⟨#[0]⟩ 128 w (by decide) (by decide);rw [show (⟨(Lib.repeatL (⟨#[0]⟩:ByteArray).data.toList 128).toArray⟩:ByteArray)=z128 by kernel_rfl] at h;exact h
theorem QFF:FN 46 [.s .nilsl] [] (. =⟨.a (.s .nilsl),[],[]⟩) :=
 Qj5 (show QnT eqt tys true fns QCi 100 20 46 [.s .nilsl] []=some ⟨.a (.s .nilsl),[],[]⟩ by kernel_rfl)
theorem QFE:FN 47 [.s .nilsl] [] (. =⟨.a (.s .nilsl),[],[]⟩) :=
 Qj5 (show QnT eqt tys true fns QCi 100 20 47 [.s .nilsl] []=some ⟨.a (.s .nilsl),[],[]⟩ by kernel_rfl)
theorem QxF {place:Nat->Option (Nat × Nat)} {c l:List SV} {a b:SV} (h1:place 0=some (0,49)) (h2:l.length=49) (h3:c.length=51) (h4:c.drop 49= [a,b]):Qb0 place c [(0,l)]=some (l++ [a,b]):=by
 unfold Qb0;dsimp only;rw [h1];dsimp only;rw [h2,h3,Qfl l c 0 (by omega),h2,show 0+49=49 from rfl,h4];rfl
def Mc.N (M:Mc) (k:Nat):List SV:=M.C k++ [.nilsl,.nilsl]
theorem Qnn (M:Mc) (hM:M.ok):FN 21 [.agg (M.N 0)] [⟨false,1,wsv M.m⟩] (. =⟨.a (.agg (M.N 1)),[],[⟨true,1,wsv M.m⟩]⟩):=by
 have k1:=QbG M.m _ rfl (by have:=hM.ml;omega);have k2:=QFF;have k3:=QFE;have gL:=Qaa M.m;unfold Mc.N;obtain ⟨hx,hc,hY,gA,_,gB,_,gE,gD,gG⟩:=hM;obtain ⟨_,_,_,m,_,_,_,_,d,n⟩:=M;dsimp only at *;cases QaJ hx;cases zC8 hc;cases d;cases n;dsimp only [Mc.C,Mc.D,Dk.C,Nk.C,Dk.ok,Nk.ok] at *;generalize m.length=nn,wsv m=XX at *;clear hY gA gE gD gB gG;refine fnW Tryz.func21 ?_;(conv=>whnf);(repeat' ((first|exact zi2|refine zj0 fun hb=>?_|(refine QaA k1 ?_)|(refine zpu k2 ?_)|(refine zpu k3 ?_)|refine zse ?_|refine zbb ?_ ?_)<;>conv=>whnf))
 refine Lp.unroll 1 ?_;(repeat' ((conv=>whnf);first|exact zi2|refine zj0 fun hb=>?_|refine zse ?_|refine zbb ?_ ?_))
 all_goals exact Qcy
theorem Qq6 (M:Mc) (hM:M.ok):FN 10 [.agg (M.C 0)] [⟨false,1,wsv M.m⟩] (. =⟨.a (.agg ((⟨M,[],[],[],0,false⟩:Eg).V 1 2 3)),[],[⟨true,1,wsv M.m⟩,⟨true,4,[]⟩,⟨true,3,[]⟩]⟩):=by
 have k1:=Qnn M hM;have gL:=Qaa M.m;unfold Mc.N at *;unfold Eg.V;dsimp only [List.length_nil];obtain ⟨hx,hc,hY,gA,_,gB,_,gE,gD,gG⟩:=hM;obtain ⟨_,_,_,m,_,_,_,_,d,n⟩:=M;dsimp only at *;cases QaJ hx;cases zC8 hc;cases d;cases n;dsimp only [Mc.C,Mc.D,Dk.C,Nk.C,Dk.ok,Nk.ok] at *;generalize m.length=nn,wsv m=XX at *;clear hY gA gE gD gB gG;refine fnW Tryz.func10 ?_;(conv=>whnf);(repeat' ((first|exact zi2|refine zj0 fun hb=>?_|((with_reducible apply Ge.mk (α:=List SV)); . exact QxF rfl rfl rfl rfl)|(refine QaA k1 ?_)|refine zse ?_|refine zbb ?_ ?_)<;>conv=>whnf))
 all_goals first|(exfalso;simp at hb;done)|(apply Fin.mk (m:= [(0,some 0),(1,some _),(2,none),(3,none)]);(focus exact rfl);(all_goals ((try (show HlS _ _ [] _));first|(exact aFi)|exact rfl)))
theorem QbM {E:Eg} (hC:Coh E) (hm:Qbg E.M=true):Qt6 E=true:=by
 unfold Qt6;rw [hm,hC.T,@decide_eq_true _ (Classical.propDecidable _) hC.B];rfl
noncomputable def QBa:Code:=(lpB (Tryz.f6.body.getD .skip)).getD 0 .skip
def Qkm (na i:Nat) (A0 A1 Z V X T B:List SV):St :=
 ⟨[(1,.a (.s (.sl 1 0 na))),(4,.a (.s (.ptr 2 0))),(6,.a (.s (.ptr 3 0))),(7,.a (.s (.i i)))],
  [(0,some ⟨false,1,A0⟩),(1,some ⟨false,1,A1⟩),(2,some ⟨true,1,Z⟩),(3,some ⟨true,1,V⟩),(4,some ⟨true,1,X⟩),(5,some ⟨true,4,T⟩),(6,some ⟨true,3,B⟩)],[0]⟩
theorem QJx (na i:Nat) (WM:na<=30) (hi:i<na) (ps:List Int) (vY:ps.length=na) (A0 A1 Z:List SV) (wR:isv .i64 ps=A1) (JD:Qao A0=true) (wH:Qao Z=true) (E:Eg) (hE:E.ok) (hC:Coh E) (hm:Qbg E.M=true) (k:Nat) (hk:ps.getD i 0%30=(k:Int)) (R:Eg × Nat) (hR:Qcw E k=R) (hRo:R.1.ok) (GP:Coh R.1) (HB:Qbg R.1.M=true) (K:Exit->St->Prop) (hn:¬ R.2=0) (hN:∀ σ1,Wk Tryz.f6.ntmps 2 σ1 (Qkm na (i+1) A0 A1 Z (R.1.V 4 5 6) (wsv R.1.M.m) (tes R.1.T) (bks R.1.B))->K .normal σ1) :
  vc Tryz.prog tys Tryz.f6.ntmps 2 QBa (Qkm na i A0 A1 Z (E.V 4 5 6) (wsv E.M.m) (tes E.T) (bks E.B)) K:=by
 have q1:=Qd6 (ps.getD i 0) 30 (by decide) (by decide);rw [hk] at q1;have u1:IntKind.u64.wrap (k:Int)=(k:Int):=Qws (by omega) (by omega);have u2:IntKind.i64.wrap ((i:Int)+1)=((i+1:Nat):Int):=QaS;have g1:A1[i]?=some (.i (ps.getD i 0)):=Qz9;have JE:Qao A1=true:=by rw [<- wR];exact QaM _ _
 have cs:=QeY QgY QgA E hE (QbM hC hm) hC hm k (by omega);rw [hR] at cs;have cm:=Qfb R.1 hRo;rw [QbM GP HB] at cm;have fD:=Qaa E.M.m;have gO:=Qae E.T;have gZ:=Qac E.B;have WQ:=Qaa R.1.M.m;have WR:=Qae R.1.T;have WS:=Qac R.1.B;have uZ:=(Qax hRo.o).2.1;have exl:=hE.M.x;have ecl:=hE.M.c;have rxl:=hRo.M.x;have rcl:=hRo.M.c;have u3:=u2;clear hE hC hm hR hRo GP HB hk vY wR;generalize ps.getD i 0=pv at *;obtain ⟨R,r2⟩:=R;dsimp only at *;have uG:¬ ((r2:Nat):Int)=0:=by omega
 obtain ⟨⟨_,_,_,em,_,_,_,_,ef,en,_,_,_,_,_⟩,eT,eB,eo,_,_⟩:=E;cases ef;cases en;dsimp only at exl ecl;cases QaJ exl;cases zC8 ecl;obtain ⟨⟨_,_,_,rm,_,_,_,_,rf,rn,_,_,_,_,_⟩,rT,rB,ro,_,_⟩:=R;cases rf;cases rn;dsimp only at rxl rcl;cases QaJ rxl;cases zC8 rcl;unfold Qkm at *;dsimp only [Eg.z,Eg.H,Eg.Hn,Eg.R,Eg.V,Eg.C,Mc.C,Mc.D,Dk.C,Nk.C] at *;simp only [Qaf,zca,zna] at *;generalize wsv em=eXX,tes eT=eTT,bks eB=eBB,OLs eo=eOO,em.length=emn,eT.length=etn,eB.length=ebn,eo.length=eon,wsv rm=rXX,tes rT=rTT,bks rB=rBB,OLs ro=rOO,rm.length=rmn,rT.length=rtn,rB.length=rbn,ro.length=ron at *;(conv=>whnf);(repeat' ((first|exact zi4|refine zj4 fun hb=>?_|refine QHk ?_|refine QzT ?_|refine QFk ?_|refine QFg ?_|(refine zpu q1 ?_)|(refine QcD cs ?_)|(refine QcD cm ?_)|refine zse ?_|refine zbb ?_ ?_)<;>conv=>whnf))
 all_goals first|(exfalso;omega)|(exfalso;simp at hb;done)|(exfalso;simp at hb;omega)|(refine hN _ ?_;(exact zwL [(0,some 0),(1,some 1),(2,some 2),(3,some 3),(4,some 131520),(5,some 131521),(6,some 131522)]))
theorem QCS {c l:List SV} {o:Nat} {a b:SV} (ho:o=0) (h1:Nat.beq l.length 49=true) (h2:Nat.beq c.length 51=true) (h3:c.drop 49= [a,b]):QaC c o l=l++ [a,b]:=by
 subst ho;have e1:=zbq h1;have e2:=zbq h2;rw [Qfl l c 0 (by omega),e1,show 0+49=49 from rfl,h3];rfl
theorem Qlc {R:Eg} (hR:R.ok) (hC:Coh R) (hm:Qbg R.M=true):(⟨QcP R.M,R.T,R.B,[],0,false⟩:Eg).ok/\Coh (⟨QcP R.M,R.T,R.B,[],0,false⟩:Eg)/\Qbg (QcP R.M)=true:=by
 obtain ⟨a,b⟩:=QqI hR.M hm;refine ⟨⟨a,hR.T,hR.tl,hR.B,hR.bl,(by unfold Qbe;exact fun l h=>by cases h),Nat.zero_le _,by show (0:Nat)<_;decide⟩,⟨?_,?_,?_⟩,b⟩
 .show mpg (QcP R.M).m.length*32=(QcP R.M).m.length
  rw [QhF];exact hC.n
 .show Qhz R.T (QcP R.M).m (QcP R.M).m.length (cR (QcP R.M))=true
  unfold cR;rw [QhF,QB9];exact hC.T
 .show Qhg (QcP R.M).m (QcP R.M).m.length R.B
  rw [QhF];exact hC.B
theorem QJy (na i:Nat) (WM:na<=30) (hi:i<na) (ps:List Int) (vY:ps.length=na) (A0 A1 Z:List SV) (wR:isv .i64 ps=A1) (JD:Qao A0=true) (wH:Qao Z=true) (E:Eg) (hE:E.ok) (hC:Coh E) (hm:Qbg E.M=true) (k:Nat) (hk:ps.getD i 0%30=(k:Int)) (R:Eg × Nat) (hR:Qcw E k=R) (hRo:R.1.ok) (GP:Coh R.1) (HB:Qbg R.1.M=true) (K:Exit->St->Prop) (hn:R.2=0) (Zf:Eg) (uz:Nat) (ez:Int) (hZ:Qju ((⟨QcP R.1.M,R.1.T,R.1.B,[],0,false⟩:Eg)).z=(Zf,uz,ez)) (hZo:Zf.ok) (zZ:ez=0) (hN:∀ σ1,Wk Tryz.f6.ntmps 2 σ1 (Qkm na (i+1) A0 A1 Z (Zf.V 4 5 6) (wsv Zf.M.m) (tes Zf.T) (bks Zf.B))->K .normal σ1) :
  vc Tryz.prog tys Tryz.f6.ntmps 2 QBa (Qkm na i A0 A1 Z (E.V 4 5 6) (wsv E.M.m) (tes E.T) (bks E.B)) K:=by
 have q1:=Qd6 (ps.getD i 0) 30 (by decide) (by decide);rw [hk] at q1;have u1:IntKind.u64.wrap (k:Int)=(k:Int):=Qws (by omega) (by omega);have u2:IntKind.i64.wrap ((i:Int)+1)=((i+1:Nat):Int):=QaS;have g1:A1[i]?=some (.i (ps.getD i 0)):=Qz9;have JE:Qao A1=true:=by rw [<- wR];exact QaM _ _
 have cs:=QeY QgY QgA E hE (QbM hC hm) hC hm k (by omega);rw [hR] at cs;have cm:=Qfb R.1 hRo;rw [QbM GP HB] at cm;have fD:=Qaa E.M.m;have gO:=Qae E.T;have gZ:=Qac E.B;have WQ:=Qaa R.1.M.m;have WR:=Qae R.1.T;have WS:=Qac R.1.B;have uZ:=(Qax hRo.o).2.1;have exl:=hE.M.x;have ecl:=hE.M.c;have rxl:=hRo.M.x;have rcl:=hRo.M.c;obtain ⟨ke1,ke2,ke3⟩:=Qlc hRo GP HB
 have fM:(QcP R.1.M).ct<=1152921504606846976:=by
  have h:=ke3;unfold Qbg at h;exact (of_decide_eq_true h).2.2.2.2.2.2.2.2.2.2.2.1
 obtain ⟨U,hU⟩:∃ U,U=(QcP R.1.M).ct+1:=⟨_,rfl⟩;have ca:=QjU R.1.M hRo.M HB;have cr:=Qts QgY _ ke1 ke2 (QbM ke2 ke3) ke3 U hU Zf uz ez hZ zZ;unfold erR at cr;rw [zP zZ] at cr;dsimp only at cr hN;have u3:IntKind.u64.wrap (((QcP R.1.M).ct:Int)+1)=(U:Int):=QdK;have fK:Qao [.w (QcP R.1.M).ct,.i 1,.u 7,.str ⟨#[]⟩]=true:=rfl;rw [show wsv (QcP R.1.M).m=wsv R.1.M.m by rw [QhF]] at cr;generalize QAA R.1.M=kb at *;have hMk:=ke1.M;clear hE hC hm hR hRo GP HB hk vY wR ke1 ke2 ke3 hZ fM;dsimp only at hMk;generalize QcP R.1.M=M3 at *;have KL:=hMk.x;have FL:=hMk.c;have wV:=Qaa Zf.M.m;have hz2:=Qae Zf.T;have yJ:=Qac Zf.B;have hz4:=(Qax hZo.o).2.1;have zxl:=hZo.M.x;have zcl:=hZo.M.c;clear hMk hZo;generalize ps.getD i 0=pv at *;obtain ⟨R,_⟩:=R;dsimp only at *;subst hn;obtain ⟨⟨_,_,_,em,_,_,_,_,ef,en,_,_,_,_,_⟩,eT,eB,eo,_,_⟩:=E;cases ef;cases en;dsimp only at exl ecl;cases QaJ exl;cases zC8 ecl;obtain ⟨⟨_,_,_,rm,_,_,_,_,rf,rn,_,_,_,_,_⟩,rT,rB,ro,_,_⟩:=R;cases rf;cases rn;dsimp only at rxl rcl;cases QaJ rxl;cases zC8 rcl;obtain ⟨⟨_,_,_,zm,_,_,_,_,zf,zn,_,_,_,_,_⟩,zT,zB,zo,_,_⟩:=Zf;cases zf;cases zn;dsimp only at zxl zcl;cases QaJ zxl;cases zC8 zcl;obtain ⟨_,_,_,mg,_,_,_,_,dg,ng⟩:=M3;dsimp only at *;cases QaJ KL;cases zC8 FL;cases dg;cases ng;unfold Qkm at *;dsimp only [Eg.z,Eg.H,Eg.Hn,Eg.R,Eg.V,Eg.C,Mc.C,Mc.D,Dk.C,Nk.C] at *;simp only [Qaf,zca,zna] at *;generalize wsv em=eXX,tes eT=eTT,bks eB=eBB,OLs eo=eOO,em.length=emn,eT.length=etn,eB.length=ebn,eo.length=eon,wsv rm=rXX,tes rT=rTT,bks rB=rBB,OLs ro=rOO,rm.length=rmn,rT.length=rtn,rB.length=rbn,ro.length=ron,wsv zm=zXX,tes zT=zTT,bks zB=zBB,OLs zo=zOO,zm.length=zmn,zT.length=ztn,zB.length=zbn,zo.length=zon,mg.length=nn3 at *;subst zZ;(conv=>whnf);(repeat' ((first|exact zi4|refine zj4 fun hb=>?_|((with_reducible apply Vl.mk (α:=List SV)); . exact QCS rfl rfl rfl rfl)|refine QHk ?_|refine QzT ?_|refine QFk ?_|refine QFg ?_|(refine zpu q1 ?_)|(refine QcD cs ?_)|(refine QcD cm ?_)|(refine QaA ca ?_)|(refine QsG cr ?_)|refine zse ?_|refine zbb ?_ ?_)<;>conv=>whnf))
 all_goals first|(exfalso;omega)|(exfalso;simp at hb;done)|(exfalso;simp at hb;omega)|(refine hN _ ?_;(exact zwL [(0,some 0),(1,some 1),(2,some 2),(3,some 3),(4,some 459456),(5,some 459457),(6,some 459458)]))
theorem QJz (na i:Nat) (WM:na<=30) (hi:i<na) (ps:List Int) (vY:ps.length=na) (A0 A1 Z:List SV) (wR:isv .i64 ps=A1) (JD:Qao A0=true) (wH:Qao Z=true) (E:Eg) (hE:E.ok) (hC:Coh E) (hm:Qbg E.M=true) (k:Nat) (hk:ps.getD i 0%30=(k:Int)) (R:Eg × Nat) (hR:Qcw E k=R) (hRo:R.1.ok) (GP:Coh R.1) (HB:Qbg R.1.M=true) (K:Exit->St->Prop) (hn:R.2=0) (Zf:Eg) (uz:Nat) (ez:Int) (hZ:Qju ((⟨QcP R.1.M,R.1.T,R.1.B,[],0,false⟩:Eg)).z=(Zf,uz,ez)) (hZo:Zf.ok) (zZ:¬ ez=0) (hN:∀ σ1,Wk Tryz.f6.ntmps 2 σ1 (Qkm na (i+1) A0 A1 Z ((⟨QcP R.1.M,R.1.T,R.1.B,[],0,false⟩:Eg).V 4 5 6) (wsv (⟨QcP R.1.M,R.1.T,R.1.B,[],0,false⟩:Eg).M.m) (tes (⟨QcP R.1.M,R.1.T,R.1.B,[],0,false⟩:Eg).T) (bks (⟨QcP R.1.M,R.1.T,R.1.B,[],0,false⟩:Eg).B))->K .normal σ1) :
  vc Tryz.prog tys Tryz.f6.ntmps 2 QBa (Qkm na i A0 A1 Z (E.V 4 5 6) (wsv E.M.m) (tes E.T) (bks E.B)) K:=by
 have q1:=Qd6 (ps.getD i 0) 30 (by decide) (by decide);rw [hk] at q1;have u1:IntKind.u64.wrap (k:Int)=(k:Int):=Qws (by omega) (by omega);have u2:IntKind.i64.wrap ((i:Int)+1)=((i+1:Nat):Int):=QaS;have g1:A1[i]?=some (.i (ps.getD i 0)):=Qz9;have JE:Qao A1=true:=by rw [<- wR];exact QaM _ _
 have cs:=QeY QgY QgA E hE (QbM hC hm) hC hm k (by omega);rw [hR] at cs;have cm:=Qfb R.1 hRo;rw [QbM GP HB] at cm;have fD:=Qaa E.M.m;have gO:=Qae E.T;have gZ:=Qac E.B;have WQ:=Qaa R.1.M.m;have WR:=Qae R.1.T;have WS:=Qac R.1.B;have uZ:=(Qax hRo.o).2.1;have exl:=hE.M.x;have ecl:=hE.M.c;have rxl:=hRo.M.x;have rcl:=hRo.M.c;obtain ⟨ke1,ke2,ke3⟩:=Qlc hRo GP HB
 have fM:(QcP R.1.M).ct<=1152921504606846976:=by
  have h:=ke3;unfold Qbg at h;exact (of_decide_eq_true h).2.2.2.2.2.2.2.2.2.2.2.1
 obtain ⟨U,hU⟩:∃ U,U=(QcP R.1.M).ct+1:=⟨_,rfl⟩;have ca:=QjU R.1.M hRo.M HB;have cr:=Qtr QgY _ ke1 ke2 (QbM ke2 ke3) ke3 U hU Zf uz ez hZ zZ;unfold erR at cr;rw [zN zZ] at cr;dsimp only at cr hN;have u3:IntKind.u64.wrap (((QcP R.1.M).ct:Int)+1)=(U:Int):=QdK;have fK:Qao [.w (QcP R.1.M).ct,.i 1,.u 7,.str ⟨#[]⟩]=true:=rfl;rw [show wsv (QcP R.1.M).m=wsv R.1.M.m by rw [QhF]] at cr hN;generalize QAA R.1.M=kb at *;have hMk:=ke1.M;clear hE hC hm hR hRo GP HB hk vY wR ke1 ke2 ke3 hZ fM;dsimp only at hMk;generalize QcP R.1.M=M3 at *;have KL:=hMk.x;have FL:=hMk.c;have wV:=Qaa Zf.M.m;have hz2:=Qae Zf.T;have yJ:=Qac Zf.B;have hz4:=(Qax hZo.o).2.1;have zxl:=hZo.M.x;have zcl:=hZo.M.c;clear hMk hZo;generalize ps.getD i 0=pv at *;obtain ⟨R,_⟩:=R;dsimp only at *;subst hn;obtain ⟨⟨_,_,_,em,_,_,_,_,ef,en,_,_,_,_,_⟩,eT,eB,eo,_,_⟩:=E;cases ef;cases en;dsimp only at exl ecl;cases QaJ exl;cases zC8 ecl;obtain ⟨⟨_,_,_,rm,_,_,_,_,rf,rn,_,_,_,_,_⟩,rT,rB,ro,_,_⟩:=R;cases rf;cases rn;dsimp only at rxl rcl;cases QaJ rxl;cases zC8 rcl;obtain ⟨⟨_,_,_,zm,_,_,_,_,zf,zn,_,_,_,_,_⟩,zT,zB,zo,_,_⟩:=Zf;cases zf;cases zn;dsimp only at zxl zcl;cases QaJ zxl;cases zC8 zcl;obtain ⟨_,_,_,mg,_,_,_,_,dg,ng⟩:=M3;dsimp only at *;cases QaJ KL;cases zC8 FL;cases dg;cases ng;unfold Qkm at *;dsimp only [Eg.z,Eg.H,Eg.Hn,Eg.R,Eg.V,Eg.C,Mc.C,Mc.D,Dk.C,Nk.C] at *;simp only [Qaf,zca,zna] at *;generalize wsv em=eXX,tes eT=eTT,bks eB=eBB,OLs eo=eOO,em.length=emn,eT.length=etn,eB.length=ebn,eo.length=eon,wsv rm=rXX,tes rT=rTT,bks rB=rBB,OLs ro=rOO,rm.length=rmn,rT.length=rtn,rB.length=rbn,ro.length=ron,wsv zm=zXX,tes zT=zTT,bks zB=zBB,OLs zo=zOO,zm.length=zmn,zT.length=ztn,zB.length=zbn,zo.length=zon,mg.length=nn3 at *;(conv=>whnf);(repeat' ((first|exact zi4|refine zj4 fun hb=>?_|((with_reducible apply Vl.mk (α:=List SV)); . exact QCS rfl rfl rfl rfl)|refine QHk ?_|refine QzT ?_|refine QFk ?_|refine QFg ?_|(refine zpu q1 ?_)|(refine QcD cs ?_)|(refine QcD cm ?_)|(refine QaA ca ?_)|(refine QsG cr ?_)|refine zse ?_|refine zbb ?_ ?_)<;>conv=>whnf))
 all_goals first|(exfalso;omega)|(exfalso;simp at hb;done)|(exfalso;simp at hb;omega)|(refine hN _ ?_;(exact zwL [(0,some 0),(1,some 1),(2,some 2),(3,some 3),(4,some 393408),(5,some 131521),(6,some 131522)]))
theorem QJA (na:Nat) (A0 A1 Z:List SV) (JD:Qao A0=true) (JE:Qao A1=true) (wH:Qao Z=true) (E:Eg) (hE:E.ok) (K:Exit->St->Prop) (hB:∀ σ1,Wk Tryz.f6.ntmps 2 σ1 (Qkm na na A0 A1 Z (E.V 4 5 6) (wsv E.M.m) (tes E.T) (bks E.B))->K (.exit 0) σ1) :
  vc Tryz.prog tys Tryz.f6.ntmps 2 QBa (Qkm na na A0 A1 Z (E.V 4 5 6) (wsv E.M.m) (tes E.T) (bks E.B)) K:=by
 have fD:=Qaa E.M.m;have gO:=Qae E.T;have gZ:=Qac E.B;have exl:=hE.M.x;have ecl:=hE.M.c;clear hE;obtain ⟨⟨_,_,_,em,_,_,_,_,ef,en,_,_,_,_,_⟩,eT,eB,eo,_,_⟩:=E;cases ef;cases en;dsimp only at exl ecl;cases QaJ exl;cases zC8 ecl;unfold Qkm at *;dsimp only [Eg.z,Eg.H,Eg.Hn,Eg.R,Eg.V,Eg.C,Mc.C,Mc.D,Dk.C,Nk.C] at *;simp only [Qaf,zca,zna] at *;generalize wsv em=eXX,tes eT=eTT,bks eB=eBB,OLs eo=eOO,em.length=emn,eT.length=etn,eB.length=ebn,eo.length=eon at *;(conv=>whnf);(repeat' ((first|exact zi4|refine zj4 fun hb=>?_|refine zse ?_|refine zbb ?_ ?_)<;>conv=>whnf))
 all_goals first|(exfalso;omega)|(exfalso;simp at hb;done)|(exfalso;simp at hb;omega)|(refine hB _ ?_;(exact zwL [(0,some 0),(1,some 1),(2,some 2),(3,some 3),(4,some 4),(5,some 5),(6,some 6)]))
def usQ (R:Res):Prop:=∃ E:Eg,E.ok/\Coh E/\Qbg E.M=true/\R=⟨.tup [.agg (E.V 2 3 4),.s (.bool true)],[],[⟨true,1,wsv E.M.m⟩,⟨true,4,tes E.T⟩,⟨true,3,bks E.B⟩]⟩
theorem Qyf (M:Mc) (hM:M.ok) (hl:M.m.length=256):(⟨M,[],[],[],0,false⟩:Eg).ok/\Coh (⟨M,[],[],[],0,false⟩:Eg) :=
 ⟨⟨hM,(fun t h=>by cases h),Nat.zero_le _,(fun b h=>by cases h),Nat.zero_le _,(show Qbe [] from fun l h=>by cases h),Nat.zero_le _,by show (0:Nat)<_;decide⟩,
  ⟨by show mpg M.m.length*32=M.m.length;rw [hl];rfl,rfl,⟨Nat.zero_le _,fun i b h=>by cases i<;>cases h⟩⟩⟩
theorem Qgi {E:Eg} (hE:E.ok) (hC:Coh E) (hm:Qbg E.M=true) (k:Nat) (hk:k<=4000):Adv (Qf7 E.M k) 0 E.z (Qcw E k):=by
 have hz:E.z.ok:=⟨hE.M,hE.T,hE.tl,hE.B,hE.bl,(by unfold Qbe;exact fun l h=>by cases h),Nat.zero_le _,by show (0:Nat)<_;decide⟩
 have fM:E.M.ct<=1152921504606846976:=by
  have h:=hm;unfold Qbg at h;exact (of_decide_eq_true h).2.2.2.2.2.2.2.2.2.2.2.1
 exact QhZ (Qf7 E.M k) (Qf7 E.M k) 0 E.z hz ⟨hC.n,hC.T,hC.B⟩ hm (Nat.zero_le _) (by omega) (by show E.M.ct+(Qf7 E.M k-0)<=_;unfold Qf7;omega) (by show 0+(Qf7 E.M k-0)<=_;unfold Qf7;omega)
theorem QzL (M:Mc) (hM:M.ok) (hl:M.m.length=256) (hm:Qbg M=true) (ps:List Int) (na:Nat) (hp:ps.length=na) (WM:na<=30) :
  FN 6 [.agg (M.C 0),.s (.sl 1 0 na)] [⟨false,1,wsv M.m⟩,⟨false,1,isv .i64 ps⟩] usQ:=by
 have cn:=Qq6 M hM;obtain ⟨MS,zW⟩:∃ r:Mc,r=M:=⟨_,rfl⟩;have zV:=Qyf MS (zW ▸ hM) (zW ▸ hl);have FW:Qbg MS=true:=zW ▸ hm;have jV:=Qaa M.m;obtain ⟨A1,wR⟩:∃ A,isv .i64 ps=A:=⟨_,rfl⟩;have fD:Qao A1=true:=wR ▸ QaM _ _;rw [wR];have GK:=hM.x;have qL:=hM.c;clear hM hl hm;obtain ⟨A0,hA0⟩:∃ A,A=wsv M.m:=⟨_,rfl⟩;rw [<- hA0] at cn jV |-;obtain ⟨_,_,_,ma,_,_,_,_,da,na⟩:=M;dsimp only at *;cases QaJ GK;cases zC8 qL;cases da;cases na;dsimp only [Eg.V] at cn;simp only [Qaf,zca,zna,Mc.C,Mc.D,Dk.C,Nk.C,List.length_nil] at cn |-;generalize gJ:ma.length=nn at *;obtain ⟨Z,hZ⟩:∃ Z,QFa=Z:=⟨_,rfl⟩;have KR:Z.length=51:=by rw [<- hZ];rfl
 have wH:Qao Z=true:=by rw [<- hZ];rfl
 refine fnW Tryz.func6 ?_;(conv=>whnf);(repeat' ((first|exact zi4|refine zj4 fun hb=>?_|(refine QaA cn ?_)|refine zse ?_|refine zbb ?_ ?_)<;>conv=>whnf))
 all_goals try (first|(exfalso;omega)|(exfalso;simp at hb;done))
 refine Qir (x:=vc Tryz.prog tys Tryz.f6.ntmps 2 QBa) (by kernel_rfl) ?_;refine QqO (fun mm σ=>∃ (E:Eg) (i:Nat),mm=na-i/\i<=na/\E.ok/\Coh E/\Qbg E.M=true/\σ=Qkm na i A0 A1 Z (E.V 4 5 6) (wsv E.M.m) (tes E.T) (bks E.B)) (fun σ=>∃ (E:Eg),E.ok/\Coh E/\Qbg E.M=true/\σ=Qkm na na A0 A1 Z (E.V 4 5 6) (wsv E.M.m) (tes E.T) (bks E.B)) 0 ?_ ?_ ?_
 .refine ⟨na,Qkm na 0 A0 A1 Z ((⟨MS,[],[],[],0,false⟩:Eg).V 4 5 6) (wsv MS.m) [] [],?_,⟨MS,[],[],[],0,false⟩,0,rfl,Nat.zero_le _,zV.1,zV.2,FW,rfl⟩
  rw [zW];rw [<- hA0,<- hZ];unfold Qkm QFa Z41;dsimp only [Eg.V,List.length_nil];simp only [Qaf,zca,zna,Mc.C,Mc.D,Dk.C,Nk.C,gJ]
  (exact zwL [(0,some 0),(1,some 1),(2,some 65600),(3,some 131200),(4,some 131136),(5,some 131137),(6,some 131138)])
 .rintro mm σ ⟨E,i,yF,qB,hE,hC,hm,rfl⟩ K hB hN
  by_cases hi:i<na
  .obtain ⟨k,hk⟩:∃ k:Nat,ps.getD i 0%30=(k:Int):=⟨(ps.getD i 0%30).toNat,by omega⟩
   have hD:=Qgi hE hC hm k (by omega)
   by_cases hn:(Qcw E k).2=0
   .obtain ⟨k1,k2,k3⟩:=Qlc hD.ok hD.coh hD.may
    have hz:((⟨QcP (Qcw E k).1.M,(Qcw E k).1.T,(Qcw E k).1.B,[],0,false⟩:Eg)).z.ok:=⟨k1.M,k1.T,k1.tl,k1.B,k1.bl,(by unfold Qbe;exact fun l h=>by cases h),Nat.zero_le _,by show (0:Nat)<_;decide⟩;obtain ⟨f1,f2,f3,_⟩:=Qig hz ⟨k2.n,k2.T,k2.B⟩ k3 (by show (0:Nat)<_;decide);obtain ⟨⟨Zf,uz,ez⟩,hF⟩:∃ r,Qju ((⟨QcP (Qcw E k).1.M,(Qcw E k).1.T,(Qcw E k).1.B,[],0,false⟩:Eg)).z=r:=⟨_,rfl⟩;rw [hF] at f1 f2 f3
    by_cases zZ:ez=0
    .exact QJy na i WM hi ps hp A0 A1 Z wR jV wH E hE hC hm k hk _ rfl hD.ok hD.coh hD.may K hn Zf uz ez hF f1 zZ fun σ1 hw=>hN (mm-1) _ σ1 (by omega) hw ⟨Zf,i+1,by omega,by omega,f1,f2,f3,rfl⟩
    .exact QJz na i WM hi ps hp A0 A1 Z wR jV wH E hE hC hm k hk _ rfl hD.ok hD.coh hD.may K hn Zf uz ez hF f1 zZ fun σ1 hw=>hN (mm-1) _ σ1 (by omega) hw ⟨(⟨QcP (Qcw E k).1.M,(Qcw E k).1.T,(Qcw E k).1.B,[],0,false⟩:Eg),i+1,by omega,by omega,k1,k2,k3,rfl⟩
   .exact QJx na i WM hi ps hp A0 A1 Z wR jV wH E hE hC hm k hk _ rfl hD.ok hD.coh hD.may K hn fun σ1 hw=>hN (mm-1) _ σ1 (by omega) hw ⟨(Qcw E k).1,i+1,by omega,by omega,hD.ok,hD.coh,hD.may,rfl⟩
  .obtain rfl:i=na:=by omega
   exact QJA i A0 A1 Z jV fD wH E hE K fun σ1 hw=>hB _ σ1 ⟨E,hE,hC,hm,rfl⟩ hw
 .rintro σ ⟨E,hE,hC,hm,rfl⟩
  have jI:usQ ⟨.tup [.agg (E.V 2 3 4),.s (.bool true)],[],[⟨true,1,wsv E.M.m⟩,⟨true,4,tes E.T⟩,⟨true,3,bks E.B⟩]⟩:=⟨E,hE,hC,hm,rfl⟩;have WQ:=Qaa E.M.m;have WR:=Qae E.T;have WS:=Qac E.B;have exl:=hE.M.x;have ecl:=hE.M.c;have hZk:Qat Z=true:=by rw [<- hZ];rfl
  clear hE hC hm cn zV FW wR zW hA0 hZ;obtain ⟨⟨_,_,_,em,_,_,_,_,ef,en,_,_,_,_,_⟩,eT,eB,eo,_,_⟩:=E;cases ef;cases en;dsimp only at exl ecl;cases QaJ exl;cases zC8 ecl;unfold Qkm;dsimp only [Eg.V,Mc.C,Mc.D,Dk.C,Nk.C] at *;simp only [Qaf,zca,zna] at *;generalize wsv em=eXX,tes eT=eTT,bks eB=eBB,OLs eo=eOO,em.length=emn,eT.length=etn,eB.length=ebn,eo.length=eon at *;(conv=>whnf);(repeat' ((first|exact zi4|refine zj4 fun hb=>?_|refine QFd ?_|(apply Sd.mk; . exact ⟨rfl,rfl,rfl,(by show 0+_<=Z.length;rw [KR];exact Nat.le_refl 51)⟩)|refine zse ?_|refine zbb ?_ ?_)<;>conv=>whnf))
  all_goals first|(exfalso;omega)|(exfalso;simp at hb;done)|(refine Qjt jI ?_;(apply Fin.mk (m:= [(0,some 0),(1,some 1),(2,some 4),(3,some 5),(4,some 6)]);(focus exact rfl);(all_goals ((try (show HlS _ _ [] _));first|(exact aFi)|exact rfl))))
def oK (l:List SV):Prop:=∃ (a b c:Int) (s:ByteArray),l= [.i a,.w b,.u c,.str s]
theorem Qtl {d:Dk} {xs:List Nat} {n:Nat} {p:Int} {v c:Nat} {l:List SV} (h:(Qa4 d xs n p v c).2=some l):oK l:=by
 unfold Qa4 at h;split at h
 .cases h
 split at h
 .cases h
 split at h
 .cases h
 split at h
 .cases h
 split at h
 .split at h
  .cases h
  split at h
  .cases h
  .injection h with h
   subst h;unfold QnL;split<;>(try split)<;>(try split)<;>exact ⟨_,_,_,_,rfl⟩
 .cases h
theorem Qub {d:Nk} {xs:List Nat} {n:Nat} {p:Int} {v c:Nat} {l:List SV} (h:(Qbk d xs n p v c).2=some l):oK l:=by
 unfold Qbk at h;split at h
 .cases h
 split at h
 .cases h
 split at h
 .cases h
 split at h
 .cases h
 split at h
 .injection h with h
  subst h;exact ⟨_,_,_,_,rfl⟩
 split at h<;>cases h
theorem QCx {M:Mc} {p:Int} {v:Nat} {l:List SV} (h:(Qbx M p v).2=some l):oK l:=by
 unfold Qbx at h;split at h
 .injection h with h
  subst h;exact ⟨_,_,_,_,rfl⟩
 split at h
 .cases h
 split at h
 .cases h
 split at h
 .exact Qtl h
 split at h
 .exact Qub h
 .cases h
theorem QAV {M:Mc} {w:Nat} {l:List SV} (h:(Qbh M w).2=some l):oK l:=by
 unfold Qbh at h;split at h
 .cases h
 split at h
 .exact QCx h
 split at h
 .cases h
 split at h<;>cases h
theorem Qwd:∀ {k:Nat} {M M':Mc} {l:List (List SV)},QkG k M l M'->∀ x∈l,oK x
 | 0,_,_,_,⟨_,h⟩,x,hx=>by subst h;cases hx
 | k+1,M,M',l,⟨M1,o,l',_,_,h3,h4,h5⟩,x,hx=>by
  subst h4;rcases List.mem_append.1 hx with h|h
  .cases o with
   | none=>cases h
   | some y =>
    obtain rfl:x=y:=by simpa using h
    exact QAV (M:=M) (w:=0) (by rw [h3])
  .exact Qwd h5 x h
theorem QCj {os:List (List SV)} (h:∀ x∈os,oK x):Qbe os:=fun x hx=>by
 obtain ⟨_,_,_,_,rfl⟩:=h x hx;exact ⟨rfl,rfl,rfl⟩
def stR:Nat->Mc->List (List SV)->Nat->Mc × List (List SV) × Nat
 | 0,M,os,n=>(M,os,n)
 | k+1,M,os,n=>if Qb3 M=true then (M,os,n) else if Qd5 M=true then (M,os,n) else stR k (Qbh M 0).1 (os++(Qbh M 0).2.toList) (n+1)
theorem Qoy:∀ {os:List (List SV)},Qbe os->∀ (i:Nat) (l:List SV),os[i]?=some l->l.length=4/\∀ (j:Nat) s,l[j]?=some s->(OLs os)[i*4+j]?=some s
 | y::os,h,0,l,e=>by
  injection e with e
  subst e;refine ⟨(h _ (List.mem_cons_self ..)).1,fun j s hs=>?_⟩;show (y++OLs os)[0*4+j]?=_;rw [Nat.zero_mul,Nat.zero_add,zgl (zgs.1 hs).1];exact hs
 | y::os,h,i+1,l,e=>by
  obtain ⟨h1,h2⟩:=Qoy (os:=os) (fun x hx=>h x (List.mem_cons_of_mem _ hx)) i l e;refine ⟨h1,fun j s hs=>?_⟩;have h4:=(h y (List.mem_cons_self ..)).1;show (y++OLs os)[(i+1)*4+j]?=_;rw [zgr (by omega),h4,show (i+1)*4+j-4=i*4+j by omega];exact h2 j s hs
def QE6 (N i:Nat) (OL:List SV):St :=
 ⟨[(0,.a (.s (.sl 0 0 N))),(1,.a (.s (.sl 1 0 N))),(5,.a (.s (.i i)))],[(0,some ⟨false,4,OL⟩),(1,some ⟨false,4,OL⟩)],[0]⟩
theorem QuH (os:List (List SV)) (N:Nat) (hN:os.length=N) (fP:N<=1000000) (hk:∀ x∈os,oK x) :
  FN 12 [.s (.sl 0 0 N),.s (.sl 1 0 N)] [⟨false,4,OLs os⟩,⟨false,4,OLs os⟩] (. =⟨.a (.s (.bool true)),[],[]⟩):=by
 have gN:=(Qax (QCj hk)).2.1;have jK:=Qoy (QCj hk);generalize OLs os=TT at *;refine fnW Tryz.func12 ?_;(conv=>whnf);(repeat' ((first|exact zi2|refine zj0 fun hb=>?_|refine zse ?_|refine zbb ?_ ?_)<;>conv=>whnf))
 refine Lp.inv (fun mm σ=>∃ i,mm+i=N/\σ=QE6 N i TT) ?_ ?_
 .refine ⟨N,QE6 N 0 TT,?_,0,by omega,rfl⟩
  (exact zwL [(0,some 0),(1,some 1)])
 .rintro mm σ ⟨i,zA,rfl⟩
  unfold QE6
  by_cases JY:i<N
  .obtain ⟨_,vH⟩:∃ m,os[i]?=some m:=⟨os[i]'(by omega),zgg (by omega)⟩
   have seg:=jK i _ vH;obtain ⟨a,_,_,s,rfl⟩:=hk _ (List.mem_of_getElem? vH);(conv=>whnf);(repeat' ((first|exact zi2|refine zj0 fun hb=>?_|refine QfL ?_|refine zse ?_|refine zbb ?_ ?_)<;>conv=>whnf))
   all_goals first
    | (exfalso;simp [QbQ] at hb;done)
    | (
      refine ⟨mm-1,QE6 N (i+1) TT,by omega,?_,i+1,by omega,rfl⟩
      (exact zwL [(0,some 0),(1,some 1)]))
  ·(conv=>whnf);(repeat' ((first|exact zi0|refine zj0 fun hb=>?_|refine zst ?_|refine zbb ?_ ?_)<;>conv=>whnf))
   all_goals exact Qdg
noncomputable def bdP:Code:=(lpB (Tryz.f9.body.getD .skip)).getD 0 .skip
def Qct (k ol n:Nat) (A0 MC Z X OL:List SV):St :=
 ⟨[(1,.a (.s (.w k))),(2,.a (.s (.ptr 1 0))),(4,.a (.s (.ptr 2 0))),(7,.a (.s (.sl 4 0 ol))),(8,.a (.s (.w n)))],
  [(0,some ⟨false,1,A0⟩),(1,some ⟨true,1,MC⟩),(2,some ⟨true,1,Z⟩),(3,some ⟨true,1,X⟩),(4,some ⟨true,4,OL⟩)],[0]⟩
theorem QGG (k n:Nat) (hk:k<=4000) (A0 Z:List SV) (hA0:Qao A0=true) (wH:Qao Z=true) (M:Mc) (hM:M.ok) (os:List (List SV)) (jM:Qbe os) (jF:os.length<=n) (K:Exit->St->Prop) (hn:¬ n<k) (hB:∀ σ1,Wk Tryz.f9.ntmps 1 σ1 (Qct k os.length n A0 (M.C 3) Z (wsv M.m) (OLs os))->K (.exit 0) σ1) :
  vc Tryz.prog tys Tryz.f9.ntmps 1 bdP (Qct k os.length n A0 (M.C 3) Z (wsv M.m) (OLs os)) K:=by
 obtain ⟨yO,_,_⟩:=Qax jM;have UH:=Qaa M.m;have qs:=QcW M hM;have qr:=QcV M hM;have KJ:=hM.x;have FJ:=hM.c;exact QHs
theorem QGH (k n:Nat) (hk:k<=4000) (A0 Z:List SV) (hA0:Qao A0=true) (wH:Qao Z=true) (M:Mc) (hM:M.ok) (os:List (List SV)) (jM:Qbe os) (jF:os.length<=n) (K:Exit->St->Prop) (hn:n<k) (h1:Qb3 M=true) (hB:∀ σ1,Wk Tryz.f9.ntmps 1 σ1 (Qct k os.length n A0 (M.C 3) Z (wsv M.m) (OLs os))->K (.exit 0) σ1) :
  vc Tryz.prog tys Tryz.f9.ntmps 1 bdP (Qct k os.length n A0 (M.C 3) Z (wsv M.m) (OLs os)) K:=by
 obtain ⟨yO,_,_⟩:=Qax jM;have UH:=Qaa M.m;have qs:=QcW M hM;have qr:=QcV M hM;have KJ:=hM.x;have FJ:=hM.c;rw [h1] at qs;clear h1;exact QHs
theorem QGI (k n:Nat) (hk:k<=4000) (A0 Z:List SV) (hA0:Qao A0=true) (wH:Qao Z=true) (M:Mc) (hM:M.ok) (os:List (List SV)) (jM:Qbe os) (jF:os.length<=n) (K:Exit->St->Prop) (hn:n<k) (h1:Qb3 M=false) (h2:Qd5 M=true) (hB:∀ σ1,Wk Tryz.f9.ntmps 1 σ1 (Qct k os.length n A0 (M.C 3) Z (wsv M.m) (OLs os))->K (.exit 0) σ1) :
  vc Tryz.prog tys Tryz.f9.ntmps 1 bdP (Qct k os.length n A0 (M.C 3) Z (wsv M.m) (OLs os)) K:=by
 obtain ⟨yO,_,_⟩:=Qax jM;have UH:=Qaa M.m;have qs:=QcW M hM;have qr:=QcV M hM;have KJ:=hM.x;have FJ:=hM.c;rw [h1] at qs;rw [h2] at qr;clear h1 h2;exact QHs
theorem QGJ (k n:Nat) (hk:k<=4000) (A0 Z:List SV) (hA0:Qao A0=true) (wH:Qao Z=true) (M:Mc) (hM:M.ok) (os:List (List SV)) (jM:Qbe os) (jF:os.length<=n) (K:Exit->St->Prop) (hn:n<k) (h1:Qb3 M=false) (h2:Qd5 M=false)  (hO:(Qbh M 0).2=none) (hN:∀ σ1,Wk Tryz.f9.ntmps 1 σ1 (Qct k (os++(Qbh M 0).2.toList).length (n+1) A0 ((Qbh M 0).1.C 3) Z (wsv (Qbh M 0).1.m) (OLs (os++(Qbh M 0).2.toList)))->K .normal σ1) :
  vc Tryz.prog tys Tryz.f9.ntmps 1 bdP (Qct k os.length n A0 (M.C 3) Z (wsv M.m) (OLs os)) K:=by
 obtain ⟨yO,_,_⟩:=Qax jM;have UH:=Qaa M.m;have qs:=QcW M hM;have qr:=QcV M hM;have KJ:=hM.x;have FJ:=hM.c;rw [h1] at qs;rw [h2] at qr;clear h1 h2;have qa:=QiD M hM 0 (by decide);have hak:=Qea M hM 0 (by decide);have gY:=Qez M hM 0;have q2:IntKind.u64.wrap ((n:Int)+1)=((n+1:Nat):Int):=QdK;rw [hO] at qa hN;generalize (Qbh M 0).1=M3 at *;have gZ:=Qaa M3.m;have KL:=hak.x;have FL:=hak.c;dsimp only [Option.toList,oS,oR] at *;clear hM jM hak hO;rw [List.append_nil] at hN;replace yO:(OLs os).length=os.length*ty91.size:=yO;generalize OLs os=OL,os.length=ol,wsv M.m=Xe,wsv M3.m=Xg at *;obtain ⟨_,_,_,me,_,_,_,_,de,ne⟩:=M;dsimp only at *;cases QaJ KJ;cases zC8 FJ;cases de;cases ne;obtain ⟨_,_,_,mg,_,_,_,_,dg,ng⟩:=M3;dsimp only at *;cases QaJ KL;cases zC8 FL;cases dg;cases ng;unfold Qct;unfold Qct at hN;simp only [Qaf,zca,zna,Mc.C,Mc.D,Dk.C,Nk.C] at *;generalize mg.length=nn3,me.length=nn1 at *;subst gY;(repeat' ((conv=>whnf);first|exact zi4|refine zj4 fun hb=>?_|refine QhW ?_|refine QAM ?_|refine QIm ?_|(refine QaA qs ?_)|(refine QaA qr ?_)|(refine Qkr qa ?_)|refine zse ?_|refine zbb ?_ ?_))
 all_goals exact QEb
theorem QGK (k n:Nat) (hk:k<=4000) (A0 Z:List SV) (hA0:Qao A0=true) (wH:Qao Z=true) (M:Mc) (hM:M.ok) (os:List (List SV)) (jM:Qbe os) (jF:os.length<=n) (K:Exit->St->Prop) (hn:n<k) (h1:Qb3 M=false) (h2:Qd5 M=false) (l:List SV) (hO:(Qbh M 0).2=some l) (hN:∀ σ1,Wk Tryz.f9.ntmps 1 σ1 (Qct k (os++(Qbh M 0).2.toList).length (n+1) A0 ((Qbh M 0).1.C 3) Z (wsv (Qbh M 0).1.m) (OLs (os++(Qbh M 0).2.toList)))->K .normal σ1) :
  vc Tryz.prog tys Tryz.f9.ntmps 1 bdP (Qct k os.length n A0 (M.C 3) Z (wsv M.m) (OLs os)) K:=by
 obtain ⟨yO,UU,_⟩:=Qax jM;have UH:=Qaa M.m;have qs:=QcW M hM;have qr:=QcV M hM;have KJ:=hM.x;have FJ:=hM.c;rw [h1] at qs;rw [h2] at qr;clear h1 h2;have qa:=QiD M hM 0 (by decide);have hak:=Qea M hM 0 (by decide);have gY:=Qez M hM 0;have q2:IntKind.u64.wrap ((n:Int)+1)=((n+1:Nat):Int):=QdK;obtain ⟨uD,UD,uE⟩:=QeA M 0 l hO;have hOa:=QkF os l;have wM:(os++ [l]).length=os.length+1:=by simp
 rw [hO] at qa hN;generalize (Qbh M 0).1=M3 at *;have gZ:=Qaa M3.m;have KL:=hak.x;have FL:=hak.c;dsimp only [Option.toList,oS,oR] at *;clear hM jM hak hO;rw [wM,hOa] at hN;have JJ:Qao (OLs os++l)=true:=Qa2 UU UD;obtain ⟨_,uM⟩:∃ L,OLs os++l=L:=⟨_,rfl⟩;rw [uM] at hN JJ;clear hOa wM;replace yO:(OLs os).length=os.length*ty91.size:=yO;generalize OLs os=OL,os.length=ol,wsv M.m=Xe,wsv M3.m=Xg at *;obtain ⟨_,_,_,me,_,_,_,_,de,ne⟩:=M;dsimp only at *;cases QaJ KJ;cases zC8 FJ;cases de;cases ne;obtain ⟨_,_,_,mg,_,_,_,_,dg,ng⟩:=M3;dsimp only at *;cases QaJ KL;cases zC8 FL;cases dg;cases ng;unfold Qct;unfold Qct at hN;simp only [Qaf,zca,zna,Mc.C,Mc.D,Dk.C,Nk.C] at *;generalize mg.length=nn3,me.length=nn1 at *;subst gY;(repeat' ((conv=>whnf);first|exact zi4|refine zj4 fun hb=>?_|refine QhW ?_|refine QAM ?_|(apply Sk.mk; . exact QcB l uD uE)|((with_reducible apply Vl.mk (α:=List SV)); . with_reducible exact uM)|(refine QaA qs ?_)|(refine QaA qr ?_)|(refine Qkr qa ?_)|refine zse ?_|refine zbb ?_ ?_))
 all_goals exact QEb
theorem Qwk:∀ {k:Nat} {M:Mc} {os:List (List SV)} {n:Nat},M.ok->Qbe os->(stR k M os n).1.ok/\Qbe (stR k M os n).2.1
 | 0,_,_,_,h,h'=>⟨h,h'⟩
 | k+1,M,os,n,h,h'=>by
  unfold stR;split
  .exact ⟨h,h'⟩
  split
  .exact ⟨h,h'⟩
  .exact Qwk (Qea M h 0 (by decide)) (QcS h' (QeA M 0))
theorem QuU (M:Mc) (hM:M.ok) (k:Nat) (hk:k<=4000):FN 9 [.agg (M.C 0),.s (.w k)] [⟨false,1,wsv M.m⟩]
  (. =⟨.tup [.agg ((stR k M [] 0).1.C 1),.s (.sl 2 0 (stR k M [] 0).2.1.length),.s (.w ((stR k M [] 0).2.2:Nat))],[],[⟨true,1,wsv (stR k M [] 0).1.m⟩,⟨true,4,OLs (stR k M [] 0).2.1⟩]⟩):=by
 have q0:=Qri M hM;have jV:=Qaa M.m;obtain ⟨hRM,ZG⟩:=Qwk (k:=k) (n:=0) hM (show Qbe [] from fun l h=>by cases h);obtain ⟨R,hR⟩:∃ R,stR k M [] 0=R:=⟨_,rfl⟩;rw [hR] at hRM ZG |-;obtain ⟨Mz,oz,nz⟩:=R;dsimp only at hRM ZG |-;obtain ⟨MS,zW⟩:∃ r:Mc,r=M:=⟨_,rfl⟩;rw [<- zW] at hR;have KP:MS.ok:=by rw [zW];exact hM
 obtain ⟨A0,hA0⟩:∃ A,A=wsv M.m:=⟨_,rfl⟩;rw [<- hA0] at q0 jV |-;have GK:=hM.x;have qL:=hM.c;have hxz:=hRM.x;have FR:=hRM.c;have qA:=Qaa Mz.m;obtain ⟨_,_,_⟩:=Qax ZG;clear hM hRM ZG;obtain ⟨_,_,_,ma,_,_,_,_,da,na⟩:=M;dsimp only at *;cases QaJ GK;cases zC8 qL;cases da;cases na;simp only [Qaf,zca,zna,Mc.C,Mc.D,Dk.C,Nk.C] at q0 |-;generalize gJ:ma.length=nn at *;obtain ⟨Z,hZ⟩:∃ Z,Z41=Z:=⟨_,rfl⟩;have KR:Z.length=49:=by rw [<- hZ];rfl
 have wH:Qao Z=true:=by rw [<- hZ];rfl
 refine fnW Tryz.func9 ?_;(conv=>whnf);(repeat' ((first|exact zi4|refine zj4 fun hb=>?_|(refine QaA q0 ?_)|refine zse ?_|refine zbb ?_ ?_)<;>conv=>whnf))
 refine Qir (x:=vc Tryz.prog tys Tryz.f9.ntmps 1 bdP) (by kernel_rfl) ?_;refine QqN (fun mm σ=>∃ (M:Mc) (os:List (List SV)) (n:Nat),mm=k-n/\n<=k/\M.ok/\Qbe os/\os.length<=n/\stR (k-n) M os n=(Mz,oz,nz)/\σ=Qct k os.length n A0 (M.C 3) Z (wsv M.m) (OLs os)) (Qct k oz.length nz A0 (Mz.C 3) Z (wsv Mz.m) (OLs oz)) 0 ?_ ?_ ?_
 .refine ⟨k,Qct k 0 0 A0 (MS.C 3) Z (wsv MS.m) [],?_,MS,[],0,rfl,Nat.zero_le _,KP,(fun l h=>by cases h),Nat.zero_le _,hR,rfl⟩
  rw [zW];rw [<- hA0,<- hZ];unfold Qct Z41;simp only [Qaf,zca,zna,Mc.C,Mc.D,Dk.C,Nk.C,gJ]
  (exact zwL [(0,some 0),(1,some 65536),(2,some 65600),(3,some 131136),(4,none)])
 .rintro mm σ ⟨M,os,n,yF,gD,hM,jM,jF,fC,rfl⟩ K hB hN
  have UZ:∀ {M':Mc} {os':List (List SV)} {n':Nat},(M',os',n')=(Mz,oz,nz)->Qct k os'.length n' A0 (M'.C 3) Z (wsv M'.m) (OLs os')=Qct k oz.length nz A0 (Mz.C 3) Z (wsv Mz.m) (OLs oz):=fun e=>by injection e with e1 e2;injection e2 with e2 e3;subst e1 e2 e3;rfl
  by_cases hn:n<k
  .obtain ⟨j,hj⟩:∃ j,k-n=j+1:=⟨k-n-1,by omega⟩
   rw [hj] at fC;unfold stR at fC
   cases h1:Qb3 M with
   | true =>
    rw [zP h1] at fC;rw [<- UZ fC] at hB;exact QGH k n hk A0 Z jV wH M hM os jM jF K hn h1 hB
   | false =>
    rw [zN (by rw [h1];decide)] at fC
    cases h2:Qd5 M with
    | true =>
     rw [zP h2] at fC;rw [<- UZ fC] at hB;exact QGI k n hk A0 Z jV wH M hM os jM jF K hn h1 h2 hB
    | false =>
     rw [zN (by rw [h2];decide)] at fC;have UB:k-(n+1)=j:=by omega
     rw [<- UB] at fC;have WN:=fun σ1 h=>hN (mm-1) _ σ1 (by omega) h ⟨(Qbh M 0).1,os++(Qbh M 0).2.toList,n+1,by omega,by omega,Qea M hM 0 (by decide),QcS jM (QeA M 0),by cases h:(Qbh M 0).2<;>simp [Option.toList]<;>omega,fC,rfl⟩
     cases hO:(Qbh M 0).2 with
     | none=>exact QGJ k n hk A0 Z jV wH M hM os jM jF K hn h1 h2 hO WN
     | some l=>exact QGK k n hk A0 Z jV wH M hM os jM jF K hn h1 h2 l hO WN
  .rw [show k-n=0 by omega] at fC
   rw [<- UZ fC] at hB;exact QGG k n hk A0 Z jV wH M hM os jM jF K hn hB
 .clear hR zW KP hA0 q0 hZ
  generalize OLs oz=OL,oz.length=ol,wsv Mz.m=Xz at *;obtain ⟨_,_,_,mz,_,_,_,_,dz,nz⟩:=Mz;dsimp only at *;cases QaJ hxz;cases zC8 FR;cases dz;cases nz;unfold Qct;simp only [Qaf,zca,zna,Mc.C,Mc.D,Dk.C,Nk.C] at *;generalize mz.length=nn1 at *;(repeat' ((conv=>whnf);first|exact zi4|refine zj4 fun hb=>?_|refine QFd ?_|refine QHe ?_|refine zse ?_|refine zbb ?_ ?_))
  all_goals exact QD5
theorem QuC (M:Mc) (hM:M.ok):FN 11 [.agg (M.C 0),.agg (M.C 1)] [⟨false,1,wsv M.m⟩,⟨false,1,wsv M.m⟩] (. =⟨.a (.s (.bool true)),[],[]⟩):=by
 have GY:=Qzd M.m _ rfl (by have:=hM.ml;omega);have gL:=Qaa M.m;have k1:=Qtf M.x M.pc M.c hM.x hM.c;obtain ⟨hx,hc,hY,gA,_,gB,_,gE,gD,gG⟩:=hM;obtain ⟨x,pc,c,m,_,_,_,_,d,n⟩:=M;dsimp only at *;cases QaJ hx;cases zC8 hc;cases d;cases n;dsimp only [Mc.C,Mc.D,Dk.C,Nk.C,Dk.ok,Nk.ok] at *;simp only [Qaf] at k1;generalize m.length=nn,wsv m=XX at *;clear hY gA gE gD gB gG;refine fnW Tryz.func11 ?_;(conv=>whnf);(repeat' ((first|exact zi2|refine zj0 fun hb=>?_|(refine Eqs.mk true (Qjr _ QF5 rfl _ _ _ (by with_reducible exact k1)) ?_)|(refine QfS GY ?_)|refine zse ?_|refine zbb ?_ ?_)<;>conv=>whnf))
 all_goals clear GY k1
 all_goals first|(exfalso;simp_all [QbQ];done)|(refine QcJ ?_ ?_;(focus (exact Qdg));simp [QbQ];done)
theorem QkH:∀ (k lim n:Nat) (E:Eg),lim-n<=k->lim<=(Qky k lim n E).2\/Qjp (Qky k lim n E).1.M=true
 | 0,lim,n,E,h=> .inl (by show lim<=n;omega)
 | k+1,lim,n,E,h=>by
  unfold Qky
  by_cases hc:n<lim/\Qjp E.M=false
  .rw [zP hc]
   split
   .exact QkH k lim (n+1) _ (by omega)
   .exact QkH k lim (n+(Qe6 (lim-n) E).2) _ (by omega)
  .rw [zN hc]
   by_cases h1:n<lim
   .exact .inr (by cases hq:Qjp E.M<;>simp_all)
   .exact .inl (by show lim<=n;omega)
theorem QmW:∀ {s k:Nat} {M M':Mc} {l:List (List SV)} (os:List (List SV)) (n:Nat),QkG s M l M'->s<=k->(s=k\/Qb3 M'=true\/Qd5 M'=true)->stR k M os n=(M',os++l,n+s)
 | 0,0,_,_,_,os,n,⟨h1,h2⟩,_,_=>by subst h1 h2;rw [List.append_nil];rfl
 | 0,k+1,_,_,_,os,n,⟨h1,h2⟩,_,h=>by
  subst h1 h2;rw [List.append_nil];unfold stR;rcases h with h|h|h
  .omega
  .rw [zP h];rfl
  .split
   .rfl
   .first|rfl|(rw [zP h];rfl)
 | s+1,0,_,_,_,os,n,_,h,_=>by omega
 | s+1,k+1,M,M',l,os,n,⟨M1,o,l',h1,h2,h3,h4,h5⟩,hk,h=>by
  unfold stR;rw [h1,h2,zN (by decide),zN (by decide),h3,QmW (k:=k) _ _ h5 (by omega) (by rcases h with h|h;exact .inl (by omega);exact .inr h),h4,List.append_assoc,Nat.add_assoc,Nat.add_comm 1 s]
theorem Qsa {E:Eg} (hE:E.ok) (hC:Coh E) (hm:Qbg E.M=true) (k:Nat) (hk:k<=59):stR k E.M [] 0=((Qcw E k).1.M,(Qcw E k).1.o,(Qcw E k).2):=by
 have hD:=Qgi hE hC hm k (by omega);obtain ⟨l,ho,hr⟩:=hD.run;rw [show E.z.o= [] from rfl,zna] at ho;rw [Nat.sub_zero] at hr;change QkG _ E.M l _ at hr;have yM:=hD.li;obtain ⟨_,_,FR⟩:=QdV (M:=E.M) hE.M hm hr;have hx:=QkH (Qf7 E.M k) (Qf7 E.M k) 0 E.z (by omega);change Qf7 E.M k<=(Qcw E k).2\/Qjp (Qcw E k).1.M=true at hx;have hL:Qf7 E.M k<=k:=by unfold Qf7;omega
 rw [QmW (k:=k) [] 0 hr (by omega) ?_,zna,Nat.zero_add,ho];rcases hx with hx|hx
 .by_cases h:(Qcw E k).2=k
  .exact .inl h
  .right;left
   have fM:1152921504606846976<=(Qcw E k).1.M.ct:=by rw [FR];unfold Qf7 at hx;omega
   unfold Qb3;rw [zdt fM];simp
 .right
  unfold Qjp at hx;unfold Qb3;cases h1:(Qcw E k).1.M.ht<;>cases h2:Qhk (Qcw E k).1.M<;>cases h3:Qd5 (Qcw E k).1.M<;>simp_all
theorem Qtt (E:Eg) (hE:E.ok) (hC:Coh E) (hm:Qbg E.M=true) (k:Nat) (hk:k<=59):∃ (M':Mc) (os:List (List SV)) (n':Nat) (T1 T2:List Te) (B1 B2:List Bk),M'.ok/\Qbe os /\
  FN 8 [.agg (E.V 0 1 2),.s (.w k)] [⟨false,1,wsv E.M.m⟩,⟨false,4,tes E.T⟩,⟨false,3,bks E.B⟩] (. =⟨.tup [.agg ((⟨M',T1,B1,os,0,false⟩:Eg).V 3 4 5),.s (.sl 6 0 os.length),.s (.w (n':Nat))],[],[⟨true,1,wsv M'.m⟩,⟨true,4,tes T1⟩,⟨true,3,bks B1⟩,⟨true,4,OLs os⟩]⟩) /\
  FN 9 [.agg (E.M.C 0),.s (.w k)] [⟨false,1,wsv E.M.m⟩] (. =⟨.tup [.agg (M'.C 1),.s (.sl 2 0 os.length),.s (.w (n':Nat))],[],[⟨true,1,wsv M'.m⟩,⟨true,4,OLs os⟩]⟩) /\
  FN 10 [.agg (E.M.C 0)] [⟨false,1,wsv E.M.m⟩] (. =⟨.a (.agg ((⟨E.M,[],[],[],0,false⟩:Eg).V 1 2 3)),[],[⟨true,1,wsv E.M.m⟩,⟨true,4,[]⟩,⟨true,3,[]⟩]⟩) /\
  FN 8 [.agg ((⟨E.M,[],[],[],0,false⟩:Eg).V 0 1 2),.s (.w k)] [⟨false,1,wsv E.M.m⟩,⟨false,4,[]⟩,⟨false,3,[]⟩] (. =⟨.tup [.agg ((⟨M',T2,B2,os,0,false⟩:Eg).V 3 4 5),.s (.sl 6 0 os.length),.s (.w (n':Nat))],[],[⟨true,1,wsv M'.m⟩,⟨true,4,tes T2⟩,⟨true,3,bks B2⟩,⟨true,4,OLs os⟩]⟩) /\
  FN 13 [.agg ((⟨M',T1,B1,os,0,false⟩:Eg).V 0 1 2)] [⟨false,1,wsv M'.m⟩,⟨false,4,tes T1⟩,⟨false,3,bks B1⟩] (. =⟨.a (.s (.bool true)),[],[]⟩) /\
  FN 11 [.agg (M'.C 0),.agg (M'.C 1)] [⟨false,1,wsv M'.m⟩,⟨false,1,wsv M'.m⟩] (. =⟨.a (.s (.bool true)),[],[]⟩) /\
  FN 12 [.s (.sl 0 0 os.length),.s (.sl 1 0 os.length)] [⟨false,4,OLs os⟩,⟨false,4,OLs os⟩] (. =⟨.a (.s (.bool true)),[],[]⟩):=by
 have h0:(⟨E.M,[],[],[],0,false⟩:Eg).ok:=⟨hE.M,(fun t h=>by cases h),Nat.zero_le _,(fun b h=>by cases h),Nat.zero_le _,(show Qbe [] from fun l h=>by cases h),Nat.zero_le _,by show (0:Nat)<_;decide⟩;have c0:Coh (⟨E.M,[],[],[],0,false⟩:Eg):=⟨hC.n,rfl,⟨Nat.zero_le _,fun i b h=>by cases i<;>cases h⟩⟩;have e1:=Qsa hE hC hm k hk;have e2:=Qsa h0 c0 hm k hk;change stR k E.M [] 0=_ at e2;have D1:=Qgi hE hC hm k (by omega);have D2:=Qgi h0 c0 hm k (by omega);have s1:=QeY QgY QgA E hE (QbM hC hm) hC hm k (by omega);have s2:=QeY QgY QgA _ h0 (QbM c0 hm) c0 hm k (by omega);have st:=QuU E.M hE.M k (by omega);rw [e1] at st;obtain ⟨l,ho,hr⟩:=D1.run;rw [show E.z.o= [] from rfl,zna] at ho;have hK:∀ x∈(Qcw E k).1.o,oK x:=by rw [ho];exact Qwd hr
 have gF:(Qcw E k).1.o.length<=1000000:=by have:=D1.ok.ol;omega
 have h2:=e1.symm.trans e2;injection h2 with h2a h2
 injection h2 with h2b h2c
 have r1:=D1.ok;have m1:=Qfb _ r1;rw [QbM D1.coh D1.may] at m1;have sm:=QuC _ r1.M;have so:=QuH (Qcw E k).1.o _ rfl gF hK;refine ⟨(Qcw E k).1.M,(Qcw E k).1.o,(Qcw E k).2,(Qcw E k).1.T,(Qcw (⟨E.M,[],[],[],0,false⟩:Eg) k).1.T,(Qcw E k).1.B,(Qcw (⟨E.M,[],[],[],0,false⟩:Eg) k).1.B,r1.M,r1.o,s1,st,Qq6 E.M hE.M,?_,m1,sm,so⟩;unfold Eg.V at s2 |-;dsimp only at s2 |-;rw [<- h2a,<- h2b,<- h2c] at s2;exact s2
theorem QvR (k1 k2:Nat) (r1 r2:List SV) (h1:Qao r1=true) (h2:Qao r2=true) (bo:Bool) (hbo:bo=(decide (k1<=40)&&decide (k2<=30))):FN 4 [.s (.sl 0 0 k1),.s (.sl 1 0 k2)] [⟨false,1,r1⟩,⟨false,1,r2⟩] (. =⟨.a (.s (.bool bo)),[],[]⟩):=by
 by_cases c1:k1<=40
 .by_cases c2:k2<=30
  .obtain rfl:bo=true:=by rw [hbo];simp;omega
   refine fnW Tryz.func4 ?_;(conv=>whnf);(repeat' ((first|exact zi2|refine zj0 fun hb=>?_|refine zse ?_|refine zbb ?_ ?_)<;>conv=>whnf))
   all_goals first|(rw [show decide ((k2:Int)<=30)=true from zdt (by omega)];(exact Qdg))
  .obtain rfl:bo=false:=by rw [hbo];simp;omega
   refine fnW Tryz.func4 ?_;(conv=>whnf);(repeat' ((first|exact zi2|refine zj0 fun hb=>?_|refine zse ?_|refine zbb ?_ ?_)<;>conv=>whnf))
   all_goals first|(rw [show decide ((k2:Int)<=30)=false from zdf (by omega)];(exact Qdg))
 .obtain rfl:bo=false:=by rw [hbo];simp;omega
  refine fnW Tryz.func4 ?_;exact Qvl
end Go.Proofs.YtpgkkfajljekpabGreat
