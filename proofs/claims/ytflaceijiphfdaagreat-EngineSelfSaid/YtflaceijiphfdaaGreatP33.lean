import Derived.Test.YtflaceijiphfdaaGreatP20
import Derived.Test.YtflaceijiphfdaaGreatP25
import Derived.Test.YtflaceijiphfdaaGreatP30
set_option linter.unusedSimpArgs false
set_option linter.unusedVariables false
set_option maxHeartbeats 0
set_option maxRecDepth 100000
namespace Go.Proofs.YtflaceijiphfdaaGreat
open Go Go.RowKit
def z128:ByteArray:=⟨(List.replicate 128 0).toArray⟩
theorem QGy:((List.range 32).all fun j=>(z128.extract (4*j) (4*j+4)).size==4&&(List.range 4).all fun k=>(z128.extract (4*j) (4*j+4))[k]?==some 0)=true:=by kernel_rfl
theorem QIH (j:Nat) (hj:j<32):(z128.extract (4*j) (4*j+4)).size=4/\∀ k,k<4->(z128.extract (4*j) (4*j+4))[k]?=some 0:=by
 have h:=List.all_eq_true.1 QGy j (List.mem_range.2 hj);rw [zba] at h;exact ⟨eq_of_beq h.1,fun k hk=>eq_of_beq (List.all_eq_true.1 h.2 k (List.mem_range.2 hk))⟩
def QAe (n o j:Nat) (S:ByteArray) (X R:List SV):St :=
 ⟨[(2,.a (.s (.str S))),(8,.a (.s (.sl 1 0 n))),(9,.a (.s (.i o))),(26,.a (.s (.i j)))],[(0,some ⟨false,1,X⟩),(1,some ⟨true,1,R⟩)],[0]⟩
theorem Qkx (xs:List Nat) (n:Nat) (hl:xs.length=n) (hn:n<=1000000) (v:Nat) (hv:v<mpg n):FN 243 [.s (.sl 0 0 n),.s (.i v),.s (.str z128)] [⟨false,1,wsv xs⟩]
  (. =⟨.tup [.s (.sl 1 0 n),.s (.bool true)],[],[⟨true,1,wsv (zrL xs v 32)⟩]⟩):=by
 have hh:=Qge xs n hn v;rw [zdt hv] at hh;have hc:=QbC xs n hl (by omega);have gK:=Qaa xs;have zQ:=QaT n;have hmn:mpg n*32<=n:=Qeh;obtain ⟨ZZ,KB⟩:∃ ZZ,∀ k,k=32->zrL xs v k=ZZ:=⟨zrL xs v 32,fun k h=>by rw [h]⟩;rw [KB 32 rfl];have q3:IntKind.i64.wrap ((v:Int)*32)=((v*32:Nat):Int):=QbF;have hz8:z128.size=128:=rfl;have VI:=QIH;generalize z128=S,hX:wsv xs=XX at *;refine fnW Tryz.func243 ?_;(conv=>whnf);(repeat' ((first|exact zi2|refine zj0 fun hb=>?_|(with_reducible refine zv q3 ?_)|(refine QaD hc ?_)|(refine QaD hh ?_)|refine zse ?_|refine zbb ?_ ?_)<;>conv=>whnf))
 all_goals try (exfalso;simp at hb;done)
 all_goals try (exfalso;omega)
 all_goals try (exfalso;simp at hb;omega)
 refine Lp.inv (fun mm σ=>∃ j:Nat,mm+j=32/\σ=QAe n (v*32) j S XX (wsv (zrL xs v j))) ?_ ?_
 .refine ⟨32,QAe n (v*32) 0 S XX XX,?_,0,by omega,by rw [<- hX];rfl⟩
  unfold QAe
  (exact zwL [(0,some 0),(1,some _)])
 clear hc hh q3;rintro mm σ ⟨j,yG,rfl⟩;unfold QAe;have hZ:=Qaa (zrL xs v (j+1));have ZH:=Qaa (zrL xs v j)
 by_cases hj:j<32
 .have gY:QaB (wsv (zrL xs v j)) (v*32+j) [SV.int .u32 0]=wsv (zrL xs v (j+1)) :=
    Qbv (zrL xs v j) (v*32+j) 0 (by rw [Qfg];omega)
  have ZW:(wsv (zrL xs v j)).length=n:=by simp [Qfg,hl]
  have q2:IntKind.i64.wrap ((j:Int)+1)=((j+1:Nat):Int):=QbF;have q4:IntKind.i64.wrap (((v*32:Nat):Int)+(j:Int))=((v*32+j:Nat):Int):=QbF;have q5:IntKind.i64.wrap (4*(j:Int))=((4*j:Nat):Int):=QbF;have q6:IntKind.i64.wrap (((4*j:Nat):Int)+4)=((4*j+4:Nat):Int):=QbF;have WN:(0:Int)<=((v*32+j:Nat):Int)/\((v*32+j:Nat):Int)<(n:Int):=by omega
  obtain ⟨_,VK⟩:=VI j hj;have HV:=VK 0 (by omega);have WR:=VK 1 (by omega);have uY:=VK 2 (by omega);have hE3:=VK 3 (by omega);clear VK VI;have jX:4*j+4<=128:=by omega
  generalize hE:S.extract (4*j) (4*j+4)=E,wsv (zrL xs v j)=Z0,hZ1:wsv (zrL xs v (j+1))=Z1,v*32+j=ix at *;generalize v*32=v32,4*j=j4 at *;have UG:ix+1<=Z0.length:=by omega
  have hE':S.extract (((j4:Nat):Int)).toNat (((j4+4:Nat):Int)).toNat=E:=hE;have w0:IntKind.u32.wrap (((0:UInt8).toNat:Nat):Int)=0:=rfl;have o0:bits .or .u32 0 0=0:=rfl;(conv=>whnf);(repeat' ((first|exact zi2|refine zj0 fun hb=>?_|(with_reducible first|refine zv q2 ?_|refine zv q4 ?_|refine zv q5 ?_|refine zv q6 ?_|refine zv w0 ?_)|((with_reducible apply Vl.mk (α:=ByteArray)); . with_reducible exact hE')|((with_reducible apply Ge.mk (α:=UInt8)); . first|exact HV|exact WR|exact uY|exact hE3)|(apply Sd.mk; . first|with_reducible exact WN|exact ⟨rfl,rfl,rfl,UG⟩)|refine QER ?_|refine zse ?_|refine zbb ?_ ?_)<;>conv=>whnf))
  all_goals first
   | (exfalso;omega)
   | (exfalso;simp at hb;done)
   | (refine ⟨mm-1,QAe n v32 (j+1) S XX Z1,by omega,?_,j+1,by omega,by rw [hZ1];rfl⟩;unfold QAe;(exact zwL [(0,some 0),(1,some 1)]))
 .obtain rfl:j=32:=by omega
  clear hZ;rw [KB 32 rfl] at ZH |-;clear KB VI;generalize wsv ZZ=Z0 at *;(repeat' ((conv=>whnf);first|exact zi2|refine zj0 fun hb=>?_|refine zse ?_|refine zbb ?_ ?_))
  all_goals exact QGx
theorem QAw (b v:Nat):b &&& 2^v=b / 2^v%2*2^v:=by
 have h:b / 2^v%2<2:=Nat.mod_lt _ (by decide);have hb:b.testBit v=decide (b / 2^v%2=1):=Nat.testBit_eq_decide_div_mod_eq;apply Nat.eq_of_testBit_eq;intro i;rw [Nat.testBit_and,Nat.testBit_two_pow];generalize b / 2^v%2=c at *;have e:c=0\/c=1:=by omega
 by_cases hi:v=i
 .subst hi
  rw [hb];rcases e with rfl|rfl
  .simp
  .simp [Nat.testBit_two_pow]
 .rw [zdf hi,Bool.and_false]
  rcases e with rfl|rfl
  .simp
  .rw [Nat.one_mul,Nat.testBit_two_pow,zdf hi]
theorem QmM (fX:FN 244 [.s (.str ⟨#[0]⟩),.s (.i 128)] [] (. =⟨.a (.s (.str z128)),[],[]⟩)) (bt bg:Nat) (hb:ZU bg) (xs:List Nat) (n:Nat) (hl:xs.length=n) (hn:n<=1000000) (p:Int) (v:Nat) (hv:ZU v) :
  FN 215 [.agg [.u bt,.u bg],.s (.sl 0 0 n),.s (.i p),.s (.u v)] [⟨false,1,wsv xs⟩] (. =⟨.tup [.agg [.u bt,.u (Qhl bg n p v)],.s (.sl 1 0 n)],[],[⟨true,1,wsv (QfO xs bg n p v)⟩]⟩):=by
 have hc:=QbC xs n hl (by omega);have hp:=QbE xs n (by omega);have gK:=Qaa xs;have zQ:=QaT n;have qv:IntKind.i64.wrap (v:Int)=v:=QfD;have yH:QbB n v=true↔v<mpg n:=by unfold QbB;rw [zde];omega
 by_cases h32:v<32
 case neg =>
  have hq:¬ gvQ bg n p v:=fun h=>by have:=yH.1 h.2.1;omega
  unfold Qhl QfO;rw [zN hq,zN hq,zN (by omega)];have ha:(0:Int)=0:=rfl;have ho:=ha;have wC:=ha;have hs:=ha;clear hp yH hq fX;generalize wsv xs=XX at *;refine fnW Tryz.func215 ?_;(repeat' ((conv=>whnf);first|exact zi2|refine zj0 fun hb=>?_|(refine QaD hc ?_)|refine zse ?_|refine zbb ?_ ?_))
  all_goals exact Qcv
 have GV:2^v<4294967296:=Nat.lt_of_lt_of_le (Nat.pow_lt_pow_right (by decide) h32) (by decide);have hp0:0<2^v:=Nat.two_pow_pos v;have hs:(1:Int)*2^min (((v:Nat):Int)).toNat IntKind.u32.bits%4294967296=((2^v:Nat):Int):=QyU v h32;have ha:bits .and .u32 (bg:Int) ((2^v:Nat):Int)=((bg / 2^v%2*2^v:Nat):Int):=by rw [Qcz bg (2^v) hb GV,QAw]
 have ho:=QxQ bg (2^v) hb GV;have wC:=(QiH bg (2^v)).1;have jU:bg / 2^v%2<2:=Nat.mod_lt _ (by decide);unfold Qhl QfO
 by_cases jL:p=10
 .subst jL
  by_cases hq:v<mpg n/\bg / 2^v%2=0
  .have gN:=Qkx xs n hl hn v hq.1
   have hz:=Qaa (zrL xs v 32);have KT:gvQ bg n 10 v:=⟨rfl,yH.2 hq.1,hq.2⟩;rw [zP KT,zP KT];clear KT;rw [hq.2,Nat.zero_mul] at ha;have hq1:=hq.1;clear yH hq jU hc;generalize wsv (zrL xs v 32)=Z1,wsv xs=XX,z128=S,bg ||| 2^v=b2 at *;generalize 2^v=pw,mpg n=P at *;refine fnW Tryz.func215 ?_;(repeat' ((conv=>whnf);first|exact zi2|refine zj0 fun hb=>?_|((with_reducible apply Vl.mk (α:=Int)); . first|with_reducible exact qv|with_reducible exact ha|with_reducible exact ho|exact hs)|(refine QaD hp ?_)|(refine zpu fX ?_)|(refine QaD gN ?_)|refine zse ?_|refine zbb ?_ ?_))
   all_goals exact Qcv
  .have GW:¬ gvQ bg n 10 v:=fun h=>hq ⟨yH.1 h.2.1,h.2.2⟩
   rw [zN GW,zN GW,zN (by omega)];clear GW yH fX
   by_cases gO:v<mpg n
   .have h1:bg / 2^v%2=1:=by
     by_cases e:bg / 2^v%2=0
     .exact absurd ⟨gO,e⟩ hq
     .omega
    rw [h1,Nat.one_mul] at ha;clear hq jU h1;generalize wsv xs=XX,2^v=pw,mpg n=P at *;refine fnW Tryz.func215 ?_;(repeat' ((conv=>whnf);first|exact zi2|refine zj0 fun hb=>?_|((with_reducible apply Vl.mk (α:=Int)); . first|with_reducible exact qv|with_reducible exact ha|exact hs)|(refine QaD hp ?_)|(refine QaD hc ?_)|refine zse ?_|refine zbb ?_ ?_))
    all_goals exact Qcv
   .clear hq jU ha
    have ha:(0:Int)=0:=rfl;generalize wsv xs=XX,2^v=pw,mpg n=P at *;refine fnW Tryz.func215 ?_;(repeat' ((conv=>whnf);first|exact zi2|refine zj0 fun hb=>?_|((with_reducible apply Vl.mk (α:=Int)); . first|with_reducible exact qv|exact hs)|(refine QaD hp ?_)|(refine QaD hc ?_)|refine zse ?_|refine zbb ?_ ?_))
    all_goals exact Qcv
 .have KT:¬ gvQ bg n p v:=fun h=>jL h.1
  rw [zN KT,zN KT];clear KT;clear hp yH fX ha jU;have ha:(0:Int)=0:=rfl
  by_cases yC:p=11
  .subst yC
   rw [zP ⟨rfl,by omega⟩];generalize wsv xs=XX,anV bg (2^v)=b2 at *;generalize 2^v=pw at *;refine fnW Tryz.func215 ?_;(repeat' ((conv=>whnf);first|exact zi2|refine zj0 fun hb=>?_|((with_reducible apply Vl.mk (α:=Int)); . first|with_reducible exact wC|exact hs)|(refine QaD hc ?_)|refine zse ?_|refine zbb ?_ ?_))
   all_goals exact Qcv
  .rw [zN (fun h=>yC h.1)]
   generalize wsv xs=XX,2^v=pw at *;refine fnW Tryz.func215 ?_;(repeat' ((conv=>whnf);first|exact zi2|refine zj0 fun hb=>?_|((with_reducible apply Vl.mk (α:=Int)); . exact hs)|(refine QaD hc ?_)|refine zse ?_|refine zbb ?_ ?_))
   all_goals exact Qcv
theorem Qm0 (fX:FN 244 [.s (.str ⟨#[0]⟩),.s (.i 128)] [] (. =⟨.a (.s (.str z128)),[],[]⟩)) (M:Mc) (hM:M.ok) (p:Int) (v:Nat) (hv:ZU v) (hp:p=10\/p=11):FN 149 [.agg (M.C 0),.s (.i p),.s (.u v),.s (.w M.ct)] [⟨false,1,wsv M.m⟩]
  (. =⟨.tup [.agg ((Qbz M p v).1.C 1),.s .nilsl],[],[⟨true,1,wsv (Qbz M p v).1.m⟩]⟩):=by
 have q6:=QmM fX M.bt M.bg hM.dv.2.2.1 M.m _ rfl hM.ml p v hv;have ZO:=QeB M.m M.bg M.m.length p v;have gK:=Qaa M.m;have jH:=Qaa (QfO M.m M.bg M.m.length p v)
 have hD:Qbz M p v=({ M with bg:=Qhl M.bg M.m.length p v,m:=QfO M.m M.bg M.m.length p v },none):=by
  unfold Qbz;rw [zN (by omega),zN (by omega),zN (by omega),zN (by omega),zN (by omega)]
 rw [hD];clear hD fX;generalize Qhl M.bg M.m.length p v=gb,QfO M.m M.bg M.m.length p v=gm at *;dsimp only [Mc.C,Mc.D];rw [ZO];obtain ⟨hx,hc,hY,gA,gI,gB,_,gE,gD,gG⟩:=hM;obtain ⟨_,_,_,m,_,_,_,_,d,n,bt,bg,ct⟩:=M;dsimp only at *;cases QaO hx;cases zC8 hc;cases d;cases n;dsimp only [Mc.C,Mc.D,Dk.C,Nk.C,Dk.ok,Nk.ok] at *;generalize m.length=nn,wsv m=XX,wsv gm=GG at *;simp only [Qai,zca,zna] at *;clear hY gA gE gD gB gG gI;rcases hp with rfl|rfl
 all_goals
  refine fnW Tryz.func149 ?_;(repeat' ((conv=>whnf);first|exact zi2|refine zj0 fun hb=>?_|refine zq0 ?_|(refine QaD q6 ?_)|refine zse ?_|refine zbb ?_ ?_))
  all_goals exact Qcv
theorem QFG {k:ByteArray} (h:k.size=0):(k.toList==(⟨#[]⟩:ByteArray).toList)=true:=by
 show noD k=true;rw [Qib];exact zdt h
theorem QFF {k:ByteArray} (h:¬ k.size=0):(k.toList==(⟨#[]⟩:ByteArray).toList)=false:=by
 show noD k=false;rw [Qib];exact zdf h
theorem Qoz (k:ByteArray) (hk:k.size<=1000000) (p:Int):FN 207 [.agg [.str k],.s (.i p)] [] (. =⟨.tup [.agg [.str (Qkt k p)],.s (.u (QnX k p:Nat))],[],[]⟩):=by
 obtain ⟨_,hA⟩:∃ B,Qkt k p=B:=⟨_,rfl⟩;obtain ⟨B,hB⟩:∃ B,QnX k p=B:=⟨_,rfl⟩;rw [hA,hB];unfold Qkt at hA;unfold QnX at hB
 by_cases h4:p=0
 .rw [zP h4] at hA hB
  subst h4
  by_cases h0:k.size=0
  .rw [zP h0] at hA
   have hn:k[0]?=none:=by simp [h0]
   rw [hn] at hB;have qE:=QFG h0;subst hA hB;dsimp only;refine fnW Tryz.func207 ?_;(repeat' ((conv=>whnf);first|exact zi2|refine zj0 fun hb=>?_|refine QC0 ?_|refine zse ?_|refine zbb ?_ ?_))
   all_goals exact zF_
  .rw [zN h0] at hA
   have hn:k[0]?=some k[0]:=by simp
   rw [hn] at hB;have qE:=QFF h0;have gO:=UInt8.toNat_lt k[0];generalize k[0]=b at *;subst hA hB;dsimp only;refine fnW Tryz.func207 ?_;(repeat' ((conv=>whnf);first|exact zi2|refine zj0 fun hb=>?_|((with_reducible apply Ge.mk (α:=UInt8)); . exact hn)|refine QC0 ?_|refine zse ?_|refine zbb ?_ ?_))
   all_goals exact zF_
 rw [zN h4] at hA hB
 by_cases h5:p=1
 .rw [zP h5] at hB
  subst h5 hA hB;refine fnW Tryz.func207 ?_;exact QeP
 rw [zN h5] at hB;subst hA hB;refine fnW Tryz.func207 ?_;exact QnR
end Go.Proofs.YtflaceijiphfdaaGreat
