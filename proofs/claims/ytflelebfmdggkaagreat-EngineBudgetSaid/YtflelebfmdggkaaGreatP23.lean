import Derived.Test.YtflelebfmdggkaaGreatP129
import Derived.Test.YtflelebfmdggkaaGreatP167
set_option linter.unusedSimpArgs false
set_option linter.unusedVariables false
set_option maxHeartbeats 100000000
set_option maxRecDepth 1000000
namespace Go.Proofs.YtflelebfmdggkaaGreat
open Go Go.RowKit
noncomputable def QIk:Nat->List SV->List SV
 | 0,l=>l
 | n+1,l=>QIk n (.str ⟨⟨lnK n⟩⟩::l)
noncomputable def QIz:Res:=⟨.a (.s (.sl 0 0 60)),[],[⟨true,1,QIk 60 []⟩]⟩
theorem Qwf:QcN eqt tys true fns QdU 2000 20 52 [.s (.str srcK)] []=some QIz:=by kernel_rfl
noncomputable def rdT:List CE:=⟨52,srcK.data.toList,QIz⟩::lnT 60
theorem QB6:Qkl rdT:=⟨Qa4 Qwf,QDs⟩
noncomputable def rdC:Ctr Tryz.prog:=⟨ctA rdT,Qpe QB6⟩
def rdK:List Lk->Int->Int->Nat->List SV
 | [],_,_,_=> []
 | (_,w,o,s,a)::l,i,t,k=>nb w:: .i o::agS k a:: .i i:: .i t:: .i s::rdK l (i+1) (t+s) (k+(agR a).length)
def rdL:List Lk->Int->List SV
 | [],_=> []
 | (0,_,_,s,_)::l,t=>rdL l (t+s)
 | (n,_,_,s,_)::l,t=>nb n:: .u (4*t)::rdL l (t+s)
def rdA:List Lk->List Row
 | []=> []
 | (_,_,_,_,a)::l=>agR a++rdA l
def rdR:Res:=⟨.tup [.s (.sl 0 0 3),.s (.sl 1 0 60),.agg [.i 0,.i 0]],[],⟨true,2,rdL lnD 0⟩::⟨true,6,rdK lnD 1 0 2⟩::rdA lnD⟩
theorem QA3:QcN eqt tys true fns rdC 2000 20 24 [.s (.str srcK)] []=some rdR:=by kernel_rfl
def kws:List Nat:= [403701760,303104152,990904321,403701760,303104031,990904327,403701760,303104004,990904326,404750336,304218624,405798912,305332224,406847488,306446344,340983816,307560455,342032386,23461890,592838656,271777793,708116474,403701760,303104006,1024458759,403701760,303104002,1024458761,403701760,303104100,1024458755,403701760,303104640,990904322,403701760,303104021,990904320,956301312,990904325,974127107,386990096,672137233,974127106,269549572,990904322,1009778690,1026555904,403701760,303104001,1024458756,403701760,303104007,1024458757,286392321,269549569,1024458758,974127109,956301312,1007681536,1024458752,1023410182,1023410185,403701760,303104006,1024458759,403701760,303104002,1024458761,1007681538,269549588,1024458755,1007681546,1024458762,974127109,956301312]
noncomputable def asT:List CE:= [⟨24,srcK.data.toList,rdR⟩]
theorem QAI:Qkl asT:=⟨QaF QA3,trivial⟩
noncomputable def asC:Ctr Tryz.prog:=⟨ctA asT,Qpe QAI⟩
theorem QyG:QcN eqt tys true fns asC 2000 20 12 [.s (.str srcK)] []=some ⟨.tup [.s (.sl 0 0 75),.agg [.i 0,.i 0]],[],[⟨true,1,wsv kws⟩]⟩:=by kernel_rfl
theorem QDP:FN 12 [.s (.str srcK)] [] (. =⟨.tup [.s (.sl 0 0 75),.agg [.i 0,.i 0]],[],[⟨true,1,wsv kws⟩]⟩):=QaF QyG
theorem QCK (x:Int):bits .and .i64 x 4294967295=x%4294967296:=by
 have e:((BitVec.ofInt 64 x) &&& (BitVec.ofInt 64 4294967295)).toNat=(x%4294967296).toNat:=by
  rw [BitVec.toNat_and,show (BitVec.ofInt 64 4294967295).toNat=2^32-1 by simp [BitVec.toNat_ofInt],Nat.and_two_pow_sub_one_eq_mod,BitVec.toNat_ofInt];simp only [Nat.reducePow];omega
 show IntKind.i64.wrap (((BitVec.ofInt 64 x) &&& (BitVec.ofInt 64 4294967295)).toNat:Int)=_;rw [e,Qb4 (by omega) (by omega)];omega
def cw (x:Int):Nat:=if x%17=0 then (x%4294967296).toNat else QAb (QfB x)
theorem QGZ (x:Int):cw x<4294967296:=by
 unfold cw;split
 .omega
 .exact (Qql x).2.1
def QbT (ls:List Int):List Nat:=ls.map cw
def QD8 (n:Nat) (L:List SV) (i:Nat) (R:List SV):St :=
 ⟨[(0,.a (.s (.sl 0 0 n))),(3,.a (.s (.sl 1 0 i))),(4,.a (.s (.i i)))],[(0,some ⟨false,1,L⟩),(1,some ⟨true,1,R⟩)],[0]⟩
theorem Qi2 (ls:List Int):(QbT ls).length=ls.length:=by unfold QbT;rw [List.length_map]
theorem Qmq (ls:List Int):∀ y∈QbT ls,y<4294967296:=fun y hy=>by
 obtain ⟨x,_,rfl⟩:=List.mem_map.1 hy;exact QGZ x
theorem QpB (ls:List Int) (n:Nat) (hn:ls.length=n) (vI:n*8<=140737488351232):FN 15 [.s (.sl 0 0 n)] [⟨false,1,isv .i64 ls⟩] (. =⟨.a (.s (.sl 1 0 n)),[],[⟨true,1,wsv (QbT ls)⟩]⟩):=by
 have fM:=QaO .i64 ls;refine fnW Tryz.func15 ?_;(repeat' ((conv=>whnf);first|exact zi0|(refine zj0 ?_;intro hb)|refine zs0 ?_|refine zbb ?_ ?_));all_goals (conv=>whnf)
 refine Lp.inv (fun mm σ=>∃ (i:Nat),mm+i=n/\σ=QD8 n (isv .i64 ls) i (wsv (QbT (ls.take i)))) ?_ ?_
 .refine ⟨n,QD8 n (isv .i64 ls) 0 [],?_,0,by omega,by rw [List.take_zero];rfl⟩
  apply Qcb (m:= [(0,some 0),(1,none)])
  .repeat' (first|exact Qa1|apply QaP)
   all_goals exact Qg2
  .show HlS _ _ [] _
   refine Qaq (Qan rfl rfl rfl rfl (Qaj fM)) ?_;refine Qaq (QcR rfl rfl) ?_;exact QaN
  .rfl
 .rintro mm σ ⟨i,yY,rfl⟩
  unfold QD8
  by_cases hi:i<n
  .obtain ⟨x,hx⟩:∃ x,ls[i]?=some x:=⟨ls[i]'(by omega),List.getElem?_eq_getElem (by omega)⟩
   have uU:(isv .i64 ls)[0+((i:Nat):Int).toNat * 1]?=some (.i x):=by
    rw [Nat.zero_add,Nat.mul_one,Int.toNat_natCast,Qih .i64 ls i (by omega)];rw [List.getD_eq_getElem?_getD,hx];rfl
   have jS:QbT (ls.take (i+1))=QbT (ls.take i)++ [cw x]:=by
    unfold QbT;rw [List.take_add_one,hx,List.map_append];rfl
   have gG:(wsv (QbT (ls.take i))).length=i:=by simp [QbT];omega
   have jJ:wsv (QbT (ls.take i))++ [.u (cw x:Nat)]=wsv (QbT (ls.take (i+1))):=by rw [jS,Qil];rfl
   have wB:=Qaa (QbT (ls.take (i+1)));have q2:IntKind.i64.wrap ((i:Int)+1)=((i+1:Nat):Int):=QbP;have ZD:=Qw2 x;have he:=Qql x;obtain ⟨WR,_,o,a,b,c,m,he3⟩:=he;have a32:=QCK x;have WA:x%17=0->x%4294967296=((cw x:Nat):Int):=fun h=>by unfold cw;rw [zP h];omega
   have GY:x%17≠0->cw x=QAb (QfB x):=fun h=>by unfold cw;rw [zN h]
   have hm17:∀ t:Int,x.tmod 17=t->(t=0↔x%17=0):=fun t h=>by
    rw [<- h,Int.tmod_eq_emod];split<;>omega
   rw [he3] at ZD WR GY;generalize wG:QbT (ls.take (i+1))=R2,wsv (QbT (ls.take i))=RR at *;generalize hRM:wsv R2=RM,QAb (iv o a b c m)=E,cw x=CW,isv .i64 ls=LL at *
   by_cases h17:x%17=0
   .have t17:x.tmod 17=0:=by rw [Int.tmod_eq_emod];split<;>omega
    have g1:=WA h17;rw [g1] at a32;have g2:IntKind.u32.wrap ((CW:Nat):Int)=((CW:Nat):Int):=QeS (by omega) (by omega);unfold iv at ZD WR;(repeat' ((conv=>whnf);first|exact zi0|(refine zj0 ?_;intro hb)|(with_reducible first|refine zv q2 ?_|refine zv t17 ?_|refine zv a32 ?_|refine zv g2 ?_)|refine QHX ?_|refine QDr ?_|refine Qtj ?_|refine zs0 ?_|refine zbb ?_ ?_));all_goals (conv=>whnf)
    all_goals first
     | (
       refine ⟨mm-1,QD8 n LL (i+1) RM,by omega,?_,i+1,by omega,by rw [wG,hRM];rfl⟩;apply Qcb (m:= [(0,some 0),(1,some _)])
       .repeat' (first|exact Qa1|apply QaP)
        all_goals exact QHa
       .show HlS _ _ [] _
        refine Qaq (Qan rfl rfl rfl rfl (Qaj fM)) ?_;refine Qaq (Qan rfl rfl rfl rfl (Qaj wB)) ?_;exact QaN
       .rfl)
   .have t17:(x.tmod 17==0)=false:=by
     rw [beq_eq_false_iff_ne,Int.tmod_eq_emod];split<;>omega
    have g3:=GY h17;subst g3;unfold iv at ZD WR;(repeat' ((conv=>whnf);first|exact zi0|(refine zj0 ?_;intro hb)|(with_reducible first|refine zv q2 ?_|refine zv rfl ?_)|refine QHX ?_|refine QDr ?_|refine Qtj ?_|((with_reducible apply Vl.mk (α:=Bool)); . with_reducible exact t17)|(refine Qac (f:=33) (ZD) rfl ?_)|(refine Qac (f:=26) (WR) rfl ?_)|refine zs0 ?_|refine zbb ?_ ?_));all_goals (conv=>whnf)
    all_goals first
     | (
       refine ⟨mm-1,QD8 n LL (i+1) RM,by omega,?_,i+1,by omega,by rw [wG,hRM];rfl⟩;apply Qcb (m:= [(0,some 0),(1,some _)])
       .repeat' (first|exact Qa1|apply QaP)
        all_goals exact QHa
       .show HlS _ _ [] _
        refine Qaq (Qan rfl rfl rfl rfl (Qaj fM)) ?_;refine Qaq (Qan rfl rfl rfl rfl (Qaj wB)) ?_;exact QaN
       .rfl)
  .have JT:i=n:=by omega
   subst JT;rw [<- hn,List.take_length];have wB:=Qaa (QbT ls);generalize wsv (QbT ls)=RR,isv .i64 ls=LL at *;exact QDF
theorem QfP (ws:List Nat) (h:ws.length<=256):QbQ (Qg1 ws)=true:=by
 have hl:(Qg1 ws).m.length=256:=Qgn ws h;unfold QbQ;rw [hl];unfold Qg1;dsimp only
 have hd:QbO ⟨4,0,0,0,0,0,0,⟨#[]⟩⟩ ((mpg 256:Nat):Int)=true:=by
  unfold QbO;exact zdt ⟨by decide,by decide,by decide,fun _=>⟨rfl,rfl,rfl,by unfold noD;exact beq_self_eq_true _⟩,fun h=>by exact absurd h (by decide)⟩
 exact zdt ⟨by decide,by decide,by decide,by decide,by decide,by decide,by rfl,by rfl,hd,by rfl,by rfl,by decide,by decide⟩
def asQ (R:Res):Prop:=∃ (ws:List Nat) (e:Int) (l:Int),ws.length<=200/\(∀ y∈ws,y<4294967296)/\ws=kws/\R=⟨.tup [.s (.sl 0 0 ws.length),.agg [.i e,.i l]],[],[⟨true,1,wsv ws⟩]⟩
def mcQ (R:Res):Prop:=∃ M:Mc,M.ok/\(M.m.length=256/\QbQ M=true)/\R=⟨.a (.agg (M.C 1)),[],[⟨true,1,wsv M.m⟩]⟩
def Qsw (n k:Nat) (kd:Int) (A0 Z X:List SV):St :=
 ⟨[(0,.a (.s (.i kd))),(1,.a (.s (.sl 0 0 n))),(4,.a (.s (.ptr 1 0))),(5,.a (.s (.sl 2 0 k)))],[(0,some ⟨false,1,A0⟩),(1,some ⟨true,1,Z⟩),(2,some ⟨true,1,X⟩)],[0]⟩
theorem QAO:∀ y∈kws,y<4294967296:=by decide
theorem QKc:FN 12 [.s (.str srcK)] [] asQ:=QBz QDP fun R h=>⟨kws,0,0,by decide,QAO,rfl,h⟩
theorem Qru:kws++zer 85=kA++([0,0,0,0,0,0,0,0]++zer 24):=by decide
theorem QCs (cl:List Nat) (n:Nat) (gK:cl.length=n) (hn:n<=40):Qg1 ((kws++zer 85)++cl)=kS0 (cl++zer (96-n)):=by
 have h1:((kws++zer 85)++cl).length=160+n:=by
  rw [zla,gK,zla,Qdj];rfl
 have e:cpW ((kws++zer 85)++cl)=kA++([0,0,0,0,0,0,0,0]++(zer 24++(cl++zer (96-n)))):=by
  unfold cpW;rw [h1,show 256-(160+n)=96-n by omega,Qru];simp only [List.append_assoc]
 unfold Qg1;rw [e];rfl
theorem QFK (cl:List Nat) (n:Nat) (gK:cl.length=n) (hn:n<=40):∃ I:Mc->Prop,I (Qg1 ((kws++zer 85)++cl))/\(∀ M:Mc,M.ok->I M->M.ct<87->M.ht=false->QkV M=false->QmB M=false/\I (Qbh M 0).1)/\∀ M,I M->M.m.length=256/\QbQ M=true:=by
 have WG:=QfP ((kws++zer 85)++cl) (by rw [zla,gK,zla,Qdj];show 75+85+n<=256;omega);rw [QCs cl n gK hn] at WG |-;have hu:(cl++zer (96-n)).length=96:=by rw [zla,gK,Qdj];omega
 generalize cl++zer (96-n)=u at *;refine ⟨fun M=>M∈kS0 u::(kL u++ [QFa u])/\M.m.length=256/\QbQ M=true,⟨List.mem_cons_self ..,?_,WG⟩,fun M hM ⟨hm,hl,hy⟩ qQ HS YO=>?_,fun M h=>h.2⟩
 .show (kA++([0,0,0,0,0,0,0,0]++(zer 24++u))).length=256
  rw [zla,zla,zla,hu,Qdj];rfl
 .rcases QpL 256 (QFa u) (kL u) (kS0 u) M (kC u) hm with rfl|⟨M',h1,h2⟩
  .exact absurd qQ (by show ¬ (87<87);omega)
  .obtain ⟨h3,h4⟩:=QwP hM hl h1
   refine ⟨h3,by rw [h4];exact h2,by rw [QeR M hM 0,hl],Qmg M hM 0 hy (by unfold Qcv;rw [hy,HS,YO,decide_eq_false (by omega)];rfl)⟩
theorem QkY (kind:Int) (ls:List Int) (n:Nat) (hn:ls.length=n) (vI:n<=40) (h2:kind%3=2):FN 5 [.s (.i kind),.s (.sl 0 0 n)] [⟨false,1,isv .i64 ls⟩] mcQ:=by
 have q0:=Qfx kind 3 (by decide) (by decide);rw [h2] at q0;have q1:=QpB ls n hn (by omega);have hsA:=QaO .i64 ls;have gK:(QbT ls).length=n:=by rw [Qi2,hn]
 have gA:=Qmq ls;have fM:=Qaa (QbT ls);have VL:=QbF (QbT ls);have uP:(wsv (QbT ls)).length=n*ty24.size:=by rw [wsv_length,gK];show n=n*1;omega
 generalize isv .i64 ls=A0,QbT ls=cl at *;have q2:=Qq2 cl n gK (by omega);have hok:=Qqp cl (by omega) gA;have HZ:=Qaa (Qg1 cl).m;have vD:mcQ ⟨.a (.agg ((Qg1 cl).C 1)),[],[⟨true,1,wsv (Qg1 cl).m⟩]⟩:=⟨Qg1 cl,hok,⟨Qgn cl (by omega),QfP cl (by omega)⟩,rfl⟩;unfold Qg1 at q2 HZ vD;clear hok;generalize wsv cl=X1 at *;dsimp only [Mc.C,Mc.D,Dk.C,Nk.C] at *;simp only [Qah,zca,zna] at *;generalize (cpW cl).length=nn,wsv (cpW cl)=X2 at *;refine fnW Tryz.func5 ?_;(repeat' ((conv=>whnf);first|exact zi4|(refine zj4 ?_;intro hb)|(apply Sd.mk; . first|exact ⟨rfl,rfl,rfl,bnd (by omega) (by decide),by omega⟩)|(apply Sk.mk; . exact Qct X1 uP VL)|(refine zpu q0 ?_)|(refine QaD q1 ?_)|(refine QaD q2 ?_)|refine zse ?_|refine zbb ?_ ?_));all_goals (conv=>whnf)
 all_goals first|(refine Qmz vD ?_;(exact QbA))
theorem QjA (hA:FN 12 [.s (.str srcK)] [] asQ) (kind:Int) (ls:List Int) (n:Nat) (hn:ls.length=n) (vI:n<=40) (h2:kind%3<2):FN 5 [.s (.i kind),.s (.sl 0 0 n)] [⟨false,1,isv .i64 ls⟩] mcQ:=by
 have q0:=Qfx kind 3 (by decide) (by decide);have hk0:0<=kind%3:=by omega
 have q1:=QpB ls n hn (by omega);have hsA:=QaO .i64 ls;have gK:(QbT ls).length=n:=by rw [Qi2,hn]
 have gA:=Qmq ls;have fM:=Qaa (QbT ls);have VL:=QbF (QbT ls);have uP:(wsv (QbT ls)).length=n*ty24.size:=by rw [wsv_length,gK];show n=n*1;omega
 generalize isv .i64 ls=A0,QbT ls=cl,kind%3=kd at *;obtain ⟨Z,hZ⟩:∃ Z,Z41=Z:=⟨_,rfl⟩;have VH:Z.length=49:=by rw [<- hZ];rfl
 have uZ:Qau Z=true:=by rw [<- hZ];rfl
 refine fnW Tryz.func5 ?_;(repeat' ((conv=>whnf);first|exact zi4|(refine zj4 ?_;intro hb)|(refine zpu q0 ?_)|(refine Qip hA [] [] ?_ trivial trivial ?_ ?_;(focus kernel_rfl);(focus (rintro R ⟨ws,e,l,_,_,_,rfl⟩;exact ⟨(by show 1<=Qao;decide),fun p h=>by cases h⟩));rintro R ⟨ws,ee,el,zJ,wN,GN,rfl⟩)|refine zse ?_|refine zbb ?_ ?_));all_goals (conv=>whnf)
 all_goals try (first|(exfalso;omega)|(exfalso;simp at hb;done))
 refine Lp.inv (fun mm σ=>∃ img:List Nat,mm=160-img.length/\img.length<=160/\(75<=img.length/\img=kws++zer (img.length-75))/\(∀ y∈img,y<4294967296)/\σ=Qsw n img.length kd A0 Z (wsv img)) ?_ ?_
 .refine ⟨160-ws.length,Qsw n ws.length kd A0 Z (wsv ws),?_,ws,rfl,(by rw [GN];decide),(by rw [GN];exact ⟨by decide,rfl⟩),wN,rfl⟩
  have hsw:=Qaa ws;generalize wsv ws=W,ws.length=k at *;clear GN;rw [<- hZ];unfold Qsw Z41
  (exact zwL [(0,some 0),(1,some 65536),(2,some 327680)])
 clear zJ wN GN;rintro mm σ ⟨img,zA,KL,⟨hi75,WI⟩,yD,rfl⟩;have YB:=Qaa img;have hki:=QbF img;have yG:(wsv img).length=img.length*ty24.size:=by rw [wsv_length];show _=img.length*1;omega
 by_cases gT:img.length<160
 .have hap:wsv img++ [.u 0]=wsv (img++ [0]):=by rw [Qil];rfl
  have hl2:(img++ [0]).length=img.length+1:=by simp
  have hr2:∀ y∈img++ [0],y<4294967296:=fun y hy=>by
   rcases List.mem_append.1 hy with h|h
   .exact yD y h
   .rcases List.mem_singleton.1 h with rfl
    decide
  have gY:=Qaa (img++ [0]);have hik2:img++ [0]=kws++zer ((img++ [0]).length-75):=by rw [hl2,show img.length+1-75=(img.length-75)+1 by omega,Qlf,<- List.append_assoc,<- WI];rfl
  clear WI;have vP:Qsw n (img.length+1) kd A0 Z (wsv (img++ [0]))=Qsw n (img++ [0]).length kd A0 Z (wsv (img++ [0])):=by rw [hl2]
  generalize hW2:wsv (img++ [0])=W2,wsv img=W at *;unfold Qsw;(repeat' ((conv=>whnf);first|exact zi4|(refine zj4 ?_;intro hb)|(apply Sd.mk; . exact ⟨rfl,rfl,yG,bnd (by omega) (by decide),by omega⟩)|((with_reducible apply Vl.mk (α:=List SV)); . with_reducible exact hap)|refine zse ?_|refine zbb ?_ ?_));all_goals (conv=>whnf)
  all_goals first|(refine ⟨160-(img.length+1),Qsw n (img.length+1) kd A0 Z W2,by omega,?_,img++ [0],by rw [hl2],by rw [hl2];omega,⟨by rw [hl2];omega,hik2⟩,hr2,by unfold Qsw;rw [hW2,hl2]⟩;generalize img.length=k at *;unfold Qsw;(exact zwL [(0,some 0),(1,some 1),(2,some 131200)]))
 .have hap:wsv img++wsv cl=wsv (img++cl):=(Qil img cl).symm
  have hl2:(img++cl).length=img.length+n:=by rw [zla,gK]
  have hr2:∀ y∈img++cl,y<4294967296:=fun y hy=>by
   rcases List.mem_append.1 hy with h|h
   .exact yD y h
   .exact gA y h
  have gY:=Qaa (img++cl);have q2:=Qq2 (img++cl) (img.length+n) hl2 (by omega);have hok:=Qqp (img++cl) (by omega) hr2;have HZ:=Qaa (Qg1 (img++cl)).m;obtain ⟨I,GP,hI1,hI2⟩:=QFK cl n gK vI;rw [show img.length=160 by omega] at WI;rw [<- (show img=kws++zer 85 from WI)] at GP;have hR:=QwY I (Qg1 (img++cl)) hok (QfP _ (by omega)) rfl GP hI1;have vD:mcQ ⟨.a (.agg ((Qg1 (img++cl)).C 1)),[],[⟨true,1,wsv (Qg1 (img++cl)).m⟩]⟩:=⟨Qg1 (img++cl),hok,⟨Qgn _ (by omega),QfP _ (by omega)⟩,rfl⟩;unfold Qg1 at q2 HZ vD hR;clear hok hr2 hl2 yD gA zA GP hI1 WI hi75;generalize wsv (img++cl)=W2,wsv img=W,wsv cl=X1 at *;dsimp only [Mc.C,Mc.D,Dk.C,Nk.C] at *;simp only [Qah,zca,zna] at *;generalize (cpW (img++cl)).length=nn,wsv (cpW (img++cl))=X2,img.length=k at *;unfold Qsw;have e:kd=0\/kd=1:=by omega
  rcases e with rfl|rfl
  .skip
   (repeat' ((conv=>whnf);first|exact zi4|(refine zj4 ?_;intro hb)|refine QHS ?_|(apply Sk.mk; . exact Qct X1 uP VL)|refine QH7 ?_|(refine QaD q1 ?_)|(refine QaD q2 ?_)|refine zse ?_|refine zbb ?_ ?_));all_goals (conv=>whnf)
   all_goals first|(refine Qmz vD ?_;(exact QbA))
  .skip
   (repeat' ((conv=>whnf);first|exact zi4|(refine zj4 ?_;intro hb)|refine QHS ?_|(apply Sk.mk; . exact Qct X1 uP VL)|refine QH7 ?_|(refine QaD q1 ?_)|(refine QaD q2 ?_)|(refine Qip hR [⟨_,0⟩] [(_,_)] aRn ⟨rfl,trivial⟩ ⟨rfl,Qar (by assumption),trivial⟩ ?_ ?_;(focus (rintro R ⟨M3,os,_,_,_,rfl⟩;exact ⟨(by show 2<=Qao;decide),fun p h=>by cases h⟩));rintro R ⟨M3,os3,WB,hok3,hos3,rfl⟩;have jF:=hI2 M3 WB;have fH:=Qaa M3.m;have hfinQ3:mcQ ⟨.a (.agg (M3.C 1)),[],[⟨true,1,wsv M3.m⟩]⟩:=⟨M3,hok3,jF,rfl⟩;clear WB jF;have ZB:=hok3.x;have JR:=hok3.c;obtain ⟨_,_,_⟩:=QaA hos3;generalize OLs os3=OL3 at *;generalize os3.length=ol3 at *;clear hok3 hos3;generalize wsv M3.m=X3 at *;obtain ⟨_,_,_,mg,_,_,_,_,dg,ng,_,_,_,_,_⟩:=M3;dsimp only at *;cases zC16 ZB;cases zC8 JR;cases dg;cases ng;simp only [Qah,zca,zna,Mc.C,Mc.D,Dk.C,Nk.C] at *;generalize mg.length=nn3 at *)|refine zse ?_|refine zbb ?_ ?_));all_goals (conv=>whnf)
   all_goals first|(refine Qmz hfinQ3 ?_;(exact QbA))
theorem Qnw (kind:Int) (ls:List Int) (n:Nat) (hn:ls.length=n) (vI:n<=40):FN 5 [.s (.i kind),.s (.sl 0 0 n)] [⟨false,1,isv .i64 ls⟩] mcQ:=by
 by_cases h:kind%3=2
 .exact QkY kind ls n hn vI h
 .exact QjA QKc kind ls n hn vI (by omega)
end Go.Proofs.YtflelebfmdggkaaGreat
