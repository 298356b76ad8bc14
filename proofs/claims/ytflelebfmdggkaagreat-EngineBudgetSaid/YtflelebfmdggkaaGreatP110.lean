import Derived.Test.YtflelebfmdggkaaGreatP105
set_option linter.unusedSimpArgs false
set_option linter.unusedVariables false
set_option maxHeartbeats 100000000
set_option maxRecDepth 100000
namespace Go.Proofs.YtflelebfmdggkaaGreat
open Go Go.RowKit
def z128:ByteArray:=⟨(List.replicate 128 0).toArray⟩
theorem QHD:((List.range 32).all fun j=>(z128.extract (4*j) (4*j+4)).size==4&&(List.range 4).all fun k=>(z128.extract (4*j) (4*j+4))[k]?==some 0)=true:=by kernel_rfl
theorem QJg (j:Nat) (hj:j<32):(z128.extract (4*j) (4*j+4)).size=4∧∀ k,k<4→(z128.extract (4*j) (4*j+4))[k]?=some 0:=by
 have h:=List.all_eq_true.1 QHD j (List.mem_range.2 hj);rw [Bool.and_eq_true] at h;exact ⟨eq_of_beq h.1,fun k hk=>eq_of_beq (List.all_eq_true.1 h.2 k (List.mem_range.2 hk))⟩
def Qz9 (n o j:Nat) (S:ByteArray) (X R:List SV):St :=
 ⟨[(2,.a (.s (.str S))),(8,.a (.s (.sl 1 0 n))),(9,.a (.s (.i o))),(26,.a (.s (.i j)))],[(0,some ⟨false,1,X⟩),(1,some ⟨true,1,R⟩)],[0]⟩
theorem QkW (xs:List Nat) (n:Nat) (hl:xs.length=n) (hn:n≤1000000) (v:Nat) (hv:v<mpg n):FN 250 [.s (.sl 0 0 n),.s (.i v),.s (.str z128)] [⟨false,1,wsv xs⟩]
  (· =⟨.tup [.s (.sl 1 0 n),.s (.bool true)],[],[⟨true,1,wsv (zrL xs v 32)⟩]⟩):=by
 have hh:=QgG xs n hn v;rw [decide_eq_true hv] at hh;have hc:=QbH xs n hl (by omega);have gL:=Qaa xs;have zS:=QaU n;have hmn:mpg n*32≤n:=QcQ;obtain ⟨ZZ,JP⟩:∃ ZZ,∀ k,k=32→zrL xs v k=ZZ:=⟨zrL xs v 32,fun k h=>by rw [h]⟩;rw [JP 32 rfl];have q3:IntKind.i64.wrap ((v:Int)*32)=((v*32:Nat):Int):=QbP;have hz8:z128.size=128:=rfl;have WF:=QJg;generalize z128=S,hX:wsv xs=XX at *;refine fnW Tryz.func250 ?_;(repeat' ((conv=>whnf);first|exact zi2|(refine zj0 ?_;intro hb)|(with_reducible refine zv q3 ?_)|(refine QaD hc ?_)|(refine QaD hh ?_)|refine zse ?_|refine zbb ?_ ?_));all_goals (conv=>whnf)
 all_goals try (exfalso;simp at hb;done)
 all_goals try (exfalso;omega)
 all_goals try (exfalso;simp at hb;omega)
 refine Lp.inv (fun mm σ=>∃ j:Nat,mm+j=32∧σ=Qz9 n (v*32) j S XX (wsv (zrL xs v j))) ?_ ?_
 ·refine ⟨32,Qz9 n (v*32) 0 S XX XX,?_,0,by omega,by rw [← hX];rfl⟩
  unfold Qz9
  (exact zwL [(0,some 0),(1,some _)])
 clear hc hh q3;rintro mm σ ⟨j,yP,rfl⟩;unfold Qz9;have hZ:=Qaa (zrL xs v (j+1));have UD:=Qaa (zrL xs v j)
 by_cases hj:j<32
 ·have fC:QaC (wsv (zrL xs v j)) (v*32+j) [SV.int .u32 0]=wsv (zrL xs v (j+1)) :=
    QbB (zrL xs v j) (v*32+j) 0 (by rw [Qfb];omega)
  have ZU:(wsv (zrL xs v j)).length=n:=by simp [Qfb,hl]
  have q2:IntKind.i64.wrap ((j:Int)+1)=((j+1:Nat):Int):=QbP;have q4:IntKind.i64.wrap (((v*32:Nat):Int)+(j:Int))=((v*32+j:Nat):Int):=QbP;have q5:IntKind.i64.wrap (4*(j:Int))=((4*j:Nat):Int):=QbP;have q6:IntKind.i64.wrap (((4*j:Nat):Int)+4)=((4*j+4:Nat):Int):=QbP;have WZ:(0:Int)≤((v*32+j:Nat):Int)∧((v*32+j:Nat):Int)<(n:Int):=by omega
  obtain ⟨hE4,WP⟩:=WF j hj;have HA:=WP 0 (by omega);have ZF:=WP 1 (by omega);have HD:=WP 2 (by omega);have hE3:=WP 3 (by omega);clear WP WF;have vF:4*j+4≤128:=by omega
  generalize hE:S.extract (4*j) (4*j+4)=E,wsv (zrL xs v j)=Z0,hZ1:wsv (zrL xs v (j+1))=Z1,v*32+j=ix at *;generalize v*32=v32,4*j=j4 at *;have UY:ix+1≤Z0.length:=by omega
  have hE':S.extract (((j4:Nat):Int)).toNat (((j4+4:Nat):Int)).toNat=E:=hE;have w0:IntKind.u32.wrap (((0:UInt8).toNat:Nat):Int)=0:=rfl;have o0:bits .or .u32 0 0=0:=rfl;(repeat' ((conv=>whnf);first|exact zi2|(refine zj0 ?_;intro hb)|(with_reducible first|refine zv q2 ?_|refine zv q4 ?_|refine zv q5 ?_|refine zv q6 ?_|refine zv w0 ?_)|((with_reducible apply Vl.mk (α:=ByteArray)); · with_reducible exact hE')|((with_reducible apply Ge.mk (α:=UInt8)); · first|exact HA|exact ZF|exact HD|exact hE3)|(apply Sd.mk; · first|with_reducible exact WZ|exact ⟨rfl,rfl,rfl,UY⟩)|refine QEv ?_|refine zse ?_|refine zbb ?_ ?_));all_goals (conv=>whnf)
  all_goals first
   | (exfalso;omega)
   | (exfalso;simp at hb;done)
   | (refine ⟨mm-1,Qz9 n v32 (j+1) S XX Z1,by omega,?_,j+1,by omega,by rw [hZ1];rfl⟩;unfold Qz9;(exact zwL [(0,some 0),(1,some 1)]))
 ·obtain rfl:j=32:=by omega
  clear hZ;rw [JP 32 rfl] at UD ⊢;clear JP WF;generalize wsv ZZ=Z0 at *;(repeat' ((conv=>whnf);first|exact zi2|(refine zj0 ?_;intro hb)|refine zse ?_|refine zbb ?_ ?_))
  all_goals exact QB4
theorem QCw (b v:Nat):b &&& 2^v=b / 2^v%2*2^v:=by
 have h:b / 2^v%2<2:=Nat.mod_lt _ (by decide);have hb:b.testBit v=decide (b / 2^v%2=1):=Nat.testBit_eq_decide_div_mod_eq;apply Nat.eq_of_testBit_eq;intro i;rw [Nat.testBit_and,Nat.testBit_two_pow];generalize b / 2^v%2=c at *;have e:c=0∨c=1:=by omega
 by_cases hi:v=i
 ·subst hi
  rw [hb];rcases e with rfl|rfl
  ·simp
  ·simp [Nat.testBit_two_pow]
 ·rw [decide_eq_false hi,Bool.and_false]
  rcases e with rfl|rfl
  ·simp
  ·rw [Nat.one_mul,Nat.testBit_two_pow,decide_eq_false hi]
theorem QnX (fI:FN 251 [.s (.str ⟨#[0]⟩),.s (.i 128)] [] (· =⟨.a (.s (.str z128)),[],[]⟩)) (bt bg:Nat) (hb:bg<4294967296) (xs:List Nat) (n:Nat) (hl:xs.length=n) (hn:n≤1000000) (p:Int) (v:Nat) (hv:v<4294967296) :
  FN 227 [.agg [.u bt,.u bg],.s (.sl 0 0 n),.s (.i p),.s (.u v)] [⟨false,1,wsv xs⟩] (· =⟨.tup [.agg [.u bt,.u (Qg0 bg n p v)],.s (.sl 1 0 n)],[],[⟨true,1,wsv (QfG xs bg n p v)⟩]⟩):=by
 have hc:=QbH xs n hl (by omega);have hp:=QbI xs n (by omega);have gL:=Qaa xs;have zS:=QaU n;have qv:IntKind.i64.wrap (v:Int)=v:=Qm3;have yM:QbG n v=true↔v<mpg n:=by unfold QbG;rw [decide_eq_true_eq];omega
 by_cases h32:v<32
 case neg =>
  have hq:¬ gvQ bg n p v:=fun h=>by have:=yM.1 h.2.1;omega
  unfold Qg0 QfG;rw [zN hq,zN hq,zN (by omega)];have ha:(0:Int)=0:=rfl;have ho:=ha;have vI:=ha;have hs:=ha;clear hp yM hq fI;generalize wsv xs=XX at *;refine fnW Tryz.func227 ?_;(repeat' ((conv=>whnf);first|exact zi2|(refine zj0 ?_;intro hb)|(refine QaD hc ?_)|refine zse ?_|refine zbb ?_ ?_))
  all_goals exact QfE
 have FG:2^v<4294967296:=Nat.lt_of_lt_of_le (Nat.pow_lt_pow_right (by decide) h32) (by decide);have hp0:0<2^v:=Nat.two_pow_pos v;have hs:(1:Int)*2^min (((v:Nat):Int)).toNat IntKind.u32.bits%4294967296=((2^v:Nat):Int):=Qw1 v h32;have ha:bits .and .u32 (bg:Int) ((2^v:Nat):Int)=((bg / 2^v%2*2^v:Nat):Int):=by rw [QcI bg (2^v) hb FG,QCw]
 have ho:=Qyz bg (2^v) hb FG;have vI:=(QiH bg (2^v)).1;have hb2:bg / 2^v%2<2:=Nat.mod_lt _ (by decide);unfold Qg0 QfG
 by_cases jW:p=10
 ·subst jW
  by_cases hq:v<mpg n∧bg / 2^v%2=0
  ·have gN:=QkW xs n hl hn v hq.1
   have hz:=Qaa (zrL xs v 32);have JJ:gvQ bg n 10 v:=⟨rfl,yM.2 hq.1,hq.2⟩;rw [zP JJ,zP JJ];clear JJ;rw [hq.2,Nat.zero_mul] at ha;have hq1:=hq.1;clear yM hq hb2 hc;generalize wsv (zrL xs v 32)=Z1,wsv xs=XX,z128=S,bg ||| 2^v=b2 at *;generalize 2^v=pw,mpg n=P at *;refine fnW Tryz.func227 ?_;(repeat' ((conv=>whnf);first|exact zi2|(refine zj0 ?_;intro hb)|((with_reducible apply Vl.mk (α:=Int)); · first|with_reducible exact qv|with_reducible exact ha|with_reducible exact ho|exact hs)|(refine QaD hp ?_)|(refine zpu fI ?_)|(refine QaD gN ?_)|refine zse ?_|refine zbb ?_ ?_))
   all_goals exact QfE
  ·have FZ:¬ gvQ bg n 10 v:=fun h=>hq ⟨yM.1 h.2.1,h.2.2⟩
   rw [zN FZ,zN FZ,zN (by omega)];clear FZ yM fI
   by_cases gT:v<mpg n
   ·have h1:bg / 2^v%2=1:=by
     by_cases e:bg / 2^v%2=0
     ·exact absurd ⟨gT,e⟩ hq
     ·omega
    rw [h1,Nat.one_mul] at ha;clear hq hb2 h1;generalize wsv xs=XX,2^v=pw,mpg n=P at *;refine fnW Tryz.func227 ?_;(repeat' ((conv=>whnf);first|exact zi2|(refine zj0 ?_;intro hb)|((with_reducible apply Vl.mk (α:=Int)); · first|with_reducible exact qv|with_reducible exact ha|exact hs)|(refine QaD hp ?_)|(refine QaD hc ?_)|refine zse ?_|refine zbb ?_ ?_))
    all_goals exact QfE
   ·clear hq hb2 ha
    have ha:(0:Int)=0:=rfl;generalize wsv xs=XX,2^v=pw,mpg n=P at *;refine fnW Tryz.func227 ?_;(repeat' ((conv=>whnf);first|exact zi2|(refine zj0 ?_;intro hb)|((with_reducible apply Vl.mk (α:=Int)); · first|with_reducible exact qv|exact hs)|(refine QaD hp ?_)|(refine QaD hc ?_)|refine zse ?_|refine zbb ?_ ?_))
    all_goals exact QfE
 ·have JJ:¬ gvQ bg n p v:=fun h=>jW h.1
  rw [zN JJ,zN JJ];clear JJ;clear hp yM fI ha hb2;have ha:(0:Int)=0:=rfl
  by_cases yR:p=11
  ·subst yR
   rw [zP ⟨rfl,by omega⟩];generalize wsv xs=XX,anV bg (2^v)=b2 at *;generalize 2^v=pw at *;refine fnW Tryz.func227 ?_;(repeat' ((conv=>whnf);first|exact zi2|(refine zj0 ?_;intro hb)|((with_reducible apply Vl.mk (α:=Int)); · first|with_reducible exact vI|exact hs)|(refine QaD hc ?_)|refine zse ?_|refine zbb ?_ ?_))
   all_goals exact QfE
  ·rw [zN (fun h=>yR h.1)]
   generalize wsv xs=XX,2^v=pw at *;refine fnW Tryz.func227 ?_;(repeat' ((conv=>whnf);first|exact zi2|(refine zj0 ?_;intro hb)|((with_reducible apply Vl.mk (α:=Int)); · exact hs)|(refine QaD hc ?_)|refine zse ?_|refine zbb ?_ ?_))
   all_goals exact QfE
end Go.Proofs.YtflelebfmdggkaaGreat
