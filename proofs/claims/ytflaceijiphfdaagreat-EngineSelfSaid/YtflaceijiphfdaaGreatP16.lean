import Derived.Test.YtflaceijiphfdaaGreatP10
import Derived.Test.YtflaceijiphfdaaGreatP15
set_option linter.unusedSimpArgs false
set_option linter.unusedVariables false
set_option maxHeartbeats 0
set_option maxRecDepth 100000
namespace Go.Proofs.YtflaceijiphfdaaGreat
open Go Go.RowKit
def Qb0 (M:Mc):Bool :=
 decide (1<=mpg M.m.length/\M.x.getD 0 0=0/\M.c.getD 0 0<=31/\M.c.getD 7 0<=31/\M.c.getD 6 0<=255/\M.c.getD 1 0%4=0/\QcZ M.ks=true/\QdV M.ta M.td M.tf=true/\QbM M.d (mpg M.m.length:Nat)=true/\Qb4 M.n (mpg M.m.length:Nat)=true/\QbW M.bg (mpg M.m.length:Nat)=true/\M.ct<=1152921504606846976/\¬ (M.wt=true/\M.ht=true))
theorem Qyh (M:Mc) (hM:M.ok):FN 51 [.agg (M.C 0)] [⟨false,1,wsv M.m⟩] (. =⟨.a (.s (.bool (Qb0 M))),[],[]⟩):=by
 have hp:=Qcg M.m _ (by have:=hM.ml;omega:M.m.length<4294967296);have q1:=Qnf M.ks;have q2:=Qnr M.ta M.td M.tf;have q3:=Qnh M.d hM.dk (mpg M.m.length:Nat);have q4:=Qnp M.n hM.nk (mpg M.m.length:Nat);have q5:=Qne M.bt M.bg hM.dv.2.2.1 (mpg M.m.length:Nat);have gK:=Qaa M.m;have zQ:=QaT M.m.length;obtain ⟨B,hB⟩:∃ B,Qb0 M=B:=⟨_,rfl⟩;rw [hB];unfold Qb0 at hB;generalize QcZ M.ks=b1,QdV M.ta M.td M.tf=b2,QbM M.d (mpg M.m.length:Nat)=b3,Qb4 M.n (mpg M.m.length:Nat)=b4,QbW M.bg (mpg M.m.length:Nat)=b5 at *;have h1:=Qab hM.cr 1;obtain ⟨hx,hc,hY,gA,_,gB,_,gE,gD,gG⟩:=hM;obtain ⟨_,_,_,m,ks,ta,td,tf,d,n,bt,bg⟩:=M;dsimp only at *;cases QaO hx;obtain ⟨_,c1,_,_,_,_,_,_,rfl⟩:=Qfo hc;cases d;cases n;dsimp only [Mc.C,Mc.D,Dk.C,Nk.C,Dk.ok,Nk.ok] at *;generalize mpg m.length=P at *;generalize m.length=nn,wsv m=XX at *;simp only [List.getD_cons_zero,List.getD_cons_succ] at hB h1;have m1:Int.tmod (c1:Int) 4=((c1%4:Nat):Int):=QuJ;have qN:=gG.2.2.2.1;clear hY gA gE gD gB gG;generalize c1%4=c14 at *;refine fnW Tryz.func51 ?_;(conv=>whnf);(repeat' ((first|exact zi2|refine zj0 fun hb=>?_|(with_reducible refine zv m1 ?_)|(refine QaD hp ?_)|(refine zpu q1 ?_)|(refine zpu q2 ?_)|(refine zpu q3 ?_)|(refine zpu q4 ?_)|(refine zpu q5 ?_)|refine zse ?_|refine zbb ?_ ?_)<;>conv=>whnf))
 all_goals first
  | (refine QcD ?_ ?_;(focus (exact Qb5));rw [<- hB];symm;first|exact zdf (by omega)|(rw [zbi];simp;done)|(rw [zbi];simp;omega)|(rw [zbi];simp;grind))
def Qch (M:Mc):Bool:= !Qb0 M||M.ht||Qm5 M||decide (1152921504606846976<=M.ct)
theorem QcO (M:Mc) (hM:M.ok):FN 30 [.agg (M.C 0)] [⟨false,1,wsv M.m⟩] (. =⟨.a (.s (.bool (Qch M))),[],[]⟩):=by
 have hm:=Qyh M hM;have hi:=QtX M hM;have gK:=Qaa M.m;obtain ⟨B,hB⟩:∃ B,Qch M=B:=⟨_,rfl⟩;rw [hB];unfold Qch at hB;generalize Qb0 M=b1,Qm5 M=b2 at *;obtain ⟨hx,hc,hY,gA,_,gB,_,gE,gD,gG⟩:=hM;obtain ⟨_,_,_,m,_,_,_,_,d,n⟩:=M;dsimp only at *;cases QaO hx;cases zC8 hc;cases d;cases n;dsimp only [Mc.C,Mc.D,Dk.C,Nk.C,Dk.ok,Nk.ok] at *;generalize m.length=nn,wsv m=XX at *;have qN:=gG.2.2.2.1;clear hY gA gE gD gB gG;refine fnW Tryz.func30 ?_;exact QDe
def QFA (l:Nat):Nat:=if l%2=1 then 0 else if l / 2%2=1 then 1 else if l / 4%2=1 then 2 else if l / 8%2=1 then 3 else 4
theorem Qqi (l j:Nat) (hj:j<5) (h0:∀ i,i<j->l / 2^i%2=0) (h1:l / 2^j%2=1):QFA l=j:=by
 have e:j=0\/j=1\/j=2\/j=3\/j=4:=by omega
 unfold QFA;rcases e with rfl|rfl|rfl|rfl|rfl
 .rw [zP (by simpa using h1)]
 .have a:=h0 0 (by omega)
  rw [zN (by simp at a;omega),zP (by simpa using h1)]
 .have a:=h0 0 (by omega)
  have b:=h0 1 (by omega);rw [zN (by simp at a;omega),zN (by simp at b;omega),zP (by simpa using h1)]
 .have a:=h0 0 (by omega)
  have b:=h0 1 (by omega);have d:=h0 2 (by omega);rw [zN (by simp at a;omega),zN (by simp at b;omega),zN (by simp at d;omega),zP (by simpa using h1)]
 .have a:=h0 0 (by omega)
  have b:=h0 1 (by omega);have d:=h0 2 (by omega);have e:=h0 3 (by omega);rw [zN (by simp at a;omega),zN (by simp at b;omega),zN (by simp at d;omega),zN (by simp at e;omega)]
theorem QAF (l:Nat) (hl:l<32) (h:∀ i,i<5->l / 2^i%2=0):l=0:=by
 have a:=h 0 (by omega);have b:=h 1 (by omega);have c:=h 2 (by omega);have d:=h 3 (by omega);have e:=h 4 (by omega);simp at a b c d e;omega
theorem Qjg (b:Bool) (k:Nat) (hk:k<5):lnN b k<32:=by
 unfold lnN;split
 .exact Nat.lt_of_lt_of_le (Nat.pow_lt_pow_right (by omega:1<2) hk) (by decide)
 .decide
theorem Qo4 (M:Mc):QiA M<32:=by
 unfold QiA Qfp;exact Nat.lt_of_le_of_lt Nat.and_le_left (or5 (or5 (or5 (or5 (Qjg _ 0 (by decide)) (Qjg _ 1 (by decide))) (Qjg _ 2 (by decide))) (Qjg _ 3 (by decide))) (Qjg _ 4 (by decide)))
theorem Qhe (a:Nat) (ha:ZU a):bits .and .u32 (a:Int) 2=((a / 2%2*2:Nat):Int):=by
 rw [show ((2:Int))=((2:Nat):Int) from rfl,Qcz a 2 ha (by omega)];obtain ⟨h,l,hl,rfl⟩:=Qhz a;rw [Qgu h l 2 hl (by decide)];have e:∀ l:Nat,l<32->l &&& 2=l / 2%2*2:=by decide
 rw [e l hl];congr 1;omega
def QcQ (M:Mc):Bool:=decide (M.c.getD 0 0 / 2%2=1/\QiA M≠0)
def Qdm (M:Mc):Nat:=if QcQ M=true then M.c.getD 1 0 else M.pc
def Qdl (M:Mc):List Nat:=if QcQ M=true then trL M.pc M.c (16+(QFA (QiA M):Nat)) 0 else M.c
theorem Qbt (M:Mc) (hM:M.ok):(Qdl M).length=8:=by unfold Qdl;split;rfl;exact hM.c
theorem Qd7 (M:Mc) (hM:M.ok):∀ y∈Qdl M,y<4294967296:=by
 unfold Qdl;split
 .exact QgQ hM.cr _ hM.pr _ _ (by decide)
 .exact hM.cr
theorem Qd8 (M:Mc) (hM:M.ok):Qdm M<4294967296:=by
 unfold Qdm;split
 .exact Qab hM.cr 1
 .exact hM.pr
def Qts (E j:Nat) (MC ZC XX:List SV):St :=
 ⟨[(1,.a (.s (.ptr 1 0))),(2,.a (.s (.ptr 2 0))),(3,.a (.s (.u E))),(4,.a (.s (.i j)))],[(0,some ⟨false,1,XX⟩),(1,some ⟨true,1,MC⟩),(2,some ⟨true,1,ZC⟩)],[0]⟩
theorem QjA (M:Mc) (hM:M.ok):FN 54 [.agg (M.C 0)] [⟨false,1,wsv M.m⟩] (. =⟨.a (.agg (Qax M.x (Qdm M) (Qdl M))),[],[]⟩):=by
 have he:=QgF M hM;have hE:=Qo4 M;have gK:=Qaa M.m;have b2:=Qhe (M.c.getD 0 0) (Qab hM.cr 0);unfold Qdm Qdl QcQ;generalize QiA M=E at *;obtain ⟨hx,hc,hY,gA,_,gB,gH,gE,gD,gG⟩:=hM;obtain ⟨x,pc,c,m,ks,ta,td,tf,d,n,bt,bg,ct,wt,ht⟩:=M;dsimp only at *;obtain ⟨x0,x1,x2,x3,x4,x5,x6,x7,x8,x9,x10,x11,x12,x13,x14,x15,rfl⟩:=Qgt hx;obtain ⟨c0,c1,c2,c3,c4,c5,c6,c7,rfl⟩:=Qfo hc;obtain ⟨d0,d1,d2,d3,d4,d5,d6,d7⟩:=d;obtain ⟨n0,n1,n2,n3,n4,n5⟩:=n;dsimp only [Mc.C,Mc.D,Dk.C,Nk.C,Dk.ok,Nk.ok] at *;generalize m.length=nn,wsv m=XX at *;simp only [List.getD_cons_zero,List.getD_cons_succ] at b2 |-;have h2:c0 / 2%2<2:=Nat.mod_lt _ (by decide);generalize c0 / 2%2=s2 at *;clear hY gE gD gB gG gH
 by_cases hi:s2=1/\E≠0
 case neg =>
  rw [zdf hi,zN (by decide),zN (by decide)];have e:s2=0\/s2=1:=by omega
  rcases e with rfl|rfl
  .replace b2:bits .and .u32 (c0:Int) 2=0:=b2
   refine fnW Tryz.func54 ?_;exact QDV
  .obtain rfl:E=0:=by omega
   replace b2:bits .and .u32 (c0:Int) 2=2:=b2;refine fnW Tryz.func54 ?_;exact QDV
 obtain ⟨rfl,HV⟩:=hi;rw [zdt ⟨rfl,HV⟩,zP rfl,zP rfl];replace b2:bits .and .u32 (c0:Int) 2=2:=b2;refine fnW Tryz.func54 ?_;(conv=>whnf);(repeat' ((first|exact zi2|refine zj0 fun hb=>?_|(with_reducible refine zv b2 ?_)|(refine QaD he ?_)|refine zse ?_|refine zbb ?_ ?_)<;>conv=>whnf))
 all_goals first|(exfalso;have jU:=eq_of_beq hb;omega)|skip
 refine Lp.inv (fun mm σ=>∃ j:Nat,mm+j=5/\(∀ i,i<j->E / 2^i%2=0)/\σ=Qts E j [.u x0,.u x1,.u x2,.u x3,.u x4,.u x5,.u x6,.u x7,.u x8,.u x9,.u x10,.u x11,.u x12,.u x13,.u x14,.u x15,.u pc,.u c0,.u c1,.u c2,.u c3,.u c4,.u c5,.u c6,.u c7,.sl 0 0 nn,.str ks,.bool ta,.u td,.bool tf,.u d0,.u d1,.u d2,.i d3,.i d4,.u d5,.u d6,.str d7,.u n0,.u n1,.bool n2,.u n3,.bool n4,.u n5,.u bt,.u bg,.w ct,.bool wt,.bool ht] (List.replicate 25 (.u 0)) XX) ?_ ?_
 .refine ⟨5,Qts E 0 [.u x0,.u x1,.u x2,.u x3,.u x4,.u x5,.u x6,.u x7,.u x8,.u x9,.u x10,.u x11,.u x12,.u x13,.u x14,.u x15,.u pc,.u c0,.u c1,.u c2,.u c3,.u c4,.u c5,.u c6,.u c7,.sl 0 0 nn,.str ks,.bool ta,.u td,.bool tf,.u d0,.u d1,.u d2,.i d3,.i d4,.u d5,.u d6,.str d7,.u n0,.u n1,.bool n2,.u n3,.bool n4,.u n5,.u bt,.u bg,.w ct,.bool wt,.bool ht] (List.replicate 25 (.u 0)) XX,?_,0,by omega,fun i h=>by omega,rfl⟩
  (exact zwL [(0,some 0),(1,some _),(2,some _)])
 rintro mm σ ⟨j,yG,fC,rfl⟩;unfold Qts
 have hj5:j<5:=by
  rcases Nat.lt_or_ge j 5 with h|h
  .exact h
  .exact absurd (QAF E hE (fun i hi=>fC i (by omega))) HV
 have s1:=QnB E j (by omega);have s2:=QiI (E / 2^j) (Nat.lt_of_le_of_lt (Nat.div_le_self _ _) (by omega));have q2:IntKind.i64.wrap ((j:Int)+1)=((j+1:Nat):Int):=QbF;have jU:E / 2^j%2<2:=Nat.mod_lt _ (by decide);obtain ⟨_,_⟩:∃ Z,List.replicate 25 (SV.int .u32 0)=Z:=⟨_,rfl⟩
 by_cases wQ:E / 2^j%2=1
 .have qF:=Qqi E j hj5 fC wQ
  rw [qF];have fK:=QcX [x0,x1,x2,x3,x4,x5,x6,x7,x8,x9,x10,x11,x12,x13,x14,x15] pc [c0,c1,c2,c3,c4,c5,c6,c7] (16+(j:Int)) 0 rfl rfl gA;rw [Qbk] at fK;change Fn _ _ _ _ (. =⟨.a (.agg (Qax _ c1 _)),[],[]⟩) at fK;rw [wQ] at s2;generalize w32 (16+(j:Int))=kk,E / 2^j=Ej at *;clear fC qF hE;(repeat' ((conv=>whnf);first|exact zi2|refine zj0 fun hb=>?_|refine QGL ?_|(refine zpu fK ?_)|refine zse ?_|refine zbb ?_ ?_))
  all_goals exact Qfe
 .have yD:E / 2^j%2=0:=by omega
  have vJ:∀ i,i<j+1->E / 2^i%2=0:=fun i hi=>by
   by_cases e:i=j
   .subst e;exact yD
   .exact fC i (by omega)
  rw [yD] at s2;generalize E / 2^j=Ej at *;(conv=>whnf);(repeat' ((first|exact zi2|refine zj0 fun hb=>?_|(with_reducible first|refine zv s1 ?_|refine zv s2 ?_|refine zv q2 ?_)|refine zse ?_|refine zbb ?_ ?_)<;>conv=>whnf))
  all_goals first
   | (exfalso;omega)
   | (exfalso;simp at hb;done)
   | (
     refine ⟨mm-1,_,by omega,?_,j+1,by omega,vJ,rfl⟩
     try unfold Qts
     (exact zwL [(0,some 0),(1,some 1),(2,some 2)]))
def QnF (f:Bool):Nat:=if f=true then 1 else 0
theorem Qre (a:Bool) (d:Nat) (f:Bool):FN 97 [.agg [.bool a,.u d,.bool f]] [] (. =⟨.a (.s (.u (QnF f:Nat))),[],[]⟩):=by
 cases f
 all_goals
  refine fnW Tryz.func97 ?_;exact Qj6
def Qg0 (d:Dk) (p:Int):Nat:=if p=4 then d.bl else if p=5 then d.fr else if p=6 then w32 d.st else 0
theorem QqZ (d:Dk) (p:Int):FN 98 [.agg d.C,.s (.i p)] [] (. =⟨.a (.s (.u (Qg0 d p:Nat))),[],[]⟩):=by
 have qs:=Qau d.st;obtain ⟨B,hB⟩:∃ B,Qg0 d p=B:=⟨_,rfl⟩;rw [hB];unfold Qg0 at hB;obtain ⟨_,_,_,st⟩:=d;dsimp only [Dk.C] at *;generalize w32 st=ws at *
 by_cases h4:p=4
 .rw [zP h4] at hB
  subst h4 hB;refine fnW Tryz.func98 ?_;exact QeP
 rw [zN h4] at hB
 by_cases h5:p=5
 .rw [zP h5] at hB
  subst h5 hB;refine fnW Tryz.func98 ?_;exact QeP
 rw [zN h5] at hB
 by_cases h6:p=6
 .rw [zP h6] at hB
  subst h6 hB;refine fnW Tryz.func98 ?_;exact QDW
 rw [zN h6] at hB;subst hB;refine fnW Tryz.func98 ?_;exact QnR
def Qg2 (n:Nk) (p:Int):Nat:=if p=7 then n.fr else if p=8 then n.go_ else if p=9 then (if n.po=true then 1 else 0)+(if n.re=true then 2 else 0) else 0
theorem Qq7 (n:Nk) (p:Int):FN 99 [.agg n.C,.s (.i p)] [] (. =⟨.a (.s (.u (Qg2 n p:Nat))),[],[]⟩):=by
 obtain ⟨B,hB⟩:∃ B,Qg2 n p=B:=⟨_,rfl⟩;rw [hB];unfold Qg2 at hB;obtain ⟨_,_,po,_,re⟩:=n;dsimp only [Nk.C] at *
 by_cases h4:p=7
 .rw [zP h4] at hB
  subst h4 hB;refine fnW Tryz.func99 ?_;exact QeP
 rw [zN h4] at hB
 by_cases h5:p=8
 .rw [zP h5] at hB
  subst h5 hB;refine fnW Tryz.func99 ?_;exact QeP
 rw [zN h5] at hB
 by_cases h6:p=9
 .rw [zP h6] at hB
  subst h6 hB;cases po<;>cases re
  all_goals
   refine fnW Tryz.func99 ?_;exact QeP
 rw [zN h6] at hB;subst hB;refine fnW Tryz.func99 ?_;exact QnR
def Qf9 (bt bg:Nat) (p:Int):Nat:=if p=10 then bt else if p=11 then QbH bg 32 else 0
theorem QqW (bt bg:Nat) (h2:ZU bg) (p:Int):FN 100 [.agg [.u bt,.u bg],.s (.i p)] [] (. =⟨.a (.s (.u (Qf9 bt bg p:Nat))),[],[]⟩):=by
 have hg:=Qjz bt bg h2;have jX:=Qb1 bg 32;obtain ⟨B,hB⟩:∃ B,Qf9 bt bg p=B:=⟨_,rfl⟩;rw [hB];unfold Qf9 at hB;generalize QbH bg 32=P at *
 by_cases h4:p=10
 .rw [zP h4] at hB
  subst h4 hB;refine fnW Tryz.func100 ?_;exact QuN
 rw [zN h4] at hB
 by_cases h5:p=11
 .rw [zP h5] at hB
  subst h5 hB;refine fnW Tryz.func100 ?_;exact QuN
 rw [zN h5] at hB;subst hB;refine fnW Tryz.func100 ?_;exact QDr
def Qkt (k:ByteArray) (p:Int):ByteArray:=if p=0 then (if k.size=0 then k else k.extract 1 k.size) else k
def QnX (k:ByteArray) (p:Int):Nat:=if p=0 then (match k[0]? with|some b=>b.toNat|none=>4294967295) else if p=1 then k.size else 0
theorem QqX (k:ByteArray) (hk:k.size<=1000000) (p:Int):FN 96 [.agg [.str k],.s (.i p)] [] (. =⟨.tup [.agg [.str (Qkt k p)],.s (.u (QnX k p:Nat))],[],[]⟩):=by
 obtain ⟨_,hA⟩:∃ B,Qkt k p=B:=⟨_,rfl⟩;obtain ⟨B,hB⟩:∃ B,QnX k p=B:=⟨_,rfl⟩;rw [hA,hB];unfold Qkt at hA;unfold QnX at hB
 by_cases h4:p=0
 .rw [zP h4] at hA hB
  subst h4
  by_cases h0:k.size=0
  .rw [zP h0] at hA
   have hn:k[0]?=none:=by simp [h0]
   rw [hn] at hB;subst hA hB;dsimp only;refine fnW Tryz.func96 ?_;exact QeP
  .rw [zN h0] at hA
   have hn:k[0]?=some k[0]:=by simp
   rw [hn] at hB;have gO:=UInt8.toNat_lt k[0];generalize k[0]=b at *;subst hA hB;dsimp only;refine fnW Tryz.func96 ?_;(repeat' ((conv=>whnf);first|exact zi2|refine zj0 fun hb=>?_|((with_reducible apply Ge.mk (α:=UInt8)); . exact hn)|refine zse ?_|refine zbb ?_ ?_))
   all_goals exact zF_
 rw [zN h4] at hA hB
 by_cases h5:p=1
 .rw [zP h5] at hB
  subst h5 hA hB;refine fnW Tryz.func96 ?_;exact QeP
 rw [zN h5] at hB;subst hA hB;refine fnW Tryz.func96 ?_;exact QnR
def QbB (n f:Nat):Bool:=decide ((f:Int)<(mpg n:Nat))
theorem Qf0 (xs:List Nat) (n:Nat) (hl:xs.length=n) (hn:ZU n) (f:Nat) (hf:ZU f):FN 166 [.s (.sl 0 0 n),.s (.u f)] [⟨false,1,wsv xs⟩] (. =⟨.a (.s (.bool (QbB n f))),[],[]⟩):=by
 have hp:=Qcg xs n (by omega);have gK:=Qaa xs;have zQ:=QaT n;unfold QbB;generalize mpg n=P,wsv xs=XX at *;have c1:IntKind.u64.wrap (P:Int)=P:=Qlw;have c2:IntKind.u64.wrap (f:Int)=f:=Qlw;refine fnW Tryz.func166 ?_;exact Qzv
def QzU (d:Nat):List SV:=if (d:Int)=0 then [.bool false,.u 0,.bool false] else [.bool true,.u d,.bool false]
theorem QxZ (d:Nat):FN 101 [.s (.u d)] [] (. =⟨.a (.agg (QzU d)),[],[]⟩):=by
 unfold QzU
 by_cases h:(d:Int)=0
 .rw [zP h]
  refine fnW Tryz.func101 ?_;exact Qj6
 .rw [zN h]
  refine fnW Tryz.func101 ?_;exact Qj6
def Qnk (d:Dk) (c:Nat):List SV:=if d.st=1 then (if d.cmd=1 then [.i 3,.w c,.u d.ob,.str ⟨#[]⟩] else if d.cmd=2 then [.i 4,.w c,.u d.ob,.str d.od] else [.i 0,.w 0,.u 0,.str ⟨#[]⟩]) else [.i 0,.w 0,.u 0,.str ⟨#[]⟩]
def Qvy (d:Dk):Bool:=decide (d.st=1/\(d.cmd=1\/d.cmd=2))
theorem Qk4 (d:Dk) (c:Nat):FN 168 [.agg d.C,.s (.w c)] [] (. =⟨.tup [.agg (Qnk d c),.s (.bool (Qvy d))],[],[]⟩):=by
 obtain ⟨_,hO⟩:∃ B,Qnk d c=B:=⟨_,rfl⟩;obtain ⟨B,hB⟩:∃ B,Qvy d=B:=⟨_,rfl⟩;rw [hO,hB];unfold Qnk at hO;unfold Qvy at hB;obtain ⟨_,_,_,st,cmd⟩:=d;dsimp only [Dk.C] at *
 by_cases h1:st=1
 .rw [zP h1] at hO
  by_cases h2:cmd=1
  .rw [zP h2] at hO
   rw [zdt (by omega)] at hB;subst hO hB h1 h2;refine fnW Tryz.func168 ?_;exact Qj5
  rw [zN h2] at hO
  by_cases h3:cmd=2
  .rw [zP h3] at hO
   rw [zdt (by omega)] at hB;subst hO hB h1 h3;refine fnW Tryz.func168 ?_;exact Qj5
  rw [zN h3] at hO;rw [zdf (by omega)] at hB;subst hO hB h1;refine fnW Tryz.func168 ?_;exact Qj5
 rw [zN h1] at hO;rw [zdf (by omega)] at hB;subst hO hB;refine fnW Tryz.func168 ?_;exact QDo
def inV (M:Mc) (p:Int) (w:Nat):Nat:=if p<=1 then QnX M.ks p else if p=2 then w else if p=3 then QnF M.tf else if p<=6 then Qg0 M.d p else if p<=9 then Qg2 M.n p else Qf9 M.bt M.bg p
def inM (M:Mc) (p:Int):Mc:=if p<=1 then { M with ks:=Qkt M.ks p } else M
theorem QCb (M:Mc) (hM:M.ok) (p:Int) (w:Nat):FN 56 [.s (.ptr 0 0),.s (.i p),.s (.u w)] [⟨true,1,M.C 1⟩,⟨true,1,wsv M.m⟩]
  (. =⟨.a (.s (.u (inV M p w:Nat))),[(0,some ⟨true,1,(inM M p).C 1⟩)],[]⟩):=by
 have q1:=QqX M.ks hM.dv.2.2.2.2 p;have q2:=Qre M.ta M.td M.tf;have q3:=QqZ M.d p;have q4:=Qq7 M.n p;have q5:=QqW M.bt M.bg hM.dv.2.2.1 p;have gK:=Qaa M.m;obtain ⟨B,hB⟩:∃ B,inV M p w=B:=⟨_,rfl⟩;obtain ⟨_,vY⟩:∃ B,inM M p=B:=⟨_,rfl⟩;rw [hB,vY];unfold inV at hB;unfold inM at vY;generalize QnX M.ks p=v1,Qkt M.ks p=k2,QnF M.tf=v2,Qg0 M.d p=v3,Qg2 M.n p=v4,Qf9 M.bt M.bg p=v5 at *;obtain ⟨hx,hc,hY,gA,gI,gB,_,gE,gD,gG⟩:=hM;obtain ⟨_,_,_,m,ks,ta,td,tf,d,n,bt,bg⟩:=M;dsimp only at *;cases QaO hx;cases zC8 hc;cases d;cases n;dsimp only [Mc.C,Mc.D,Dk.C,Nk.C,Dk.ok,Nk.ok] at *;generalize gJ:m.length=nn,wsv m=XX at *;clear hY gA gE gD gB gG gI
 by_cases h1:p<=1
 .rw [zP h1] at hB vY
  subst hB vY;dsimp only;rw [gJ];refine fnW Tryz.func56 ?_;(repeat' ((conv=>whnf);first|exact zi2|refine zj0 fun hb=>?_|(refine zpu q1 ?_)|refine zse ?_|refine zbb ?_ ?_))
  all_goals exact QuD
 rw [zN h1] at hB vY;subst vY
 by_cases h2:p=2
 .rw [zP h2] at hB
  subst hB h2;dsimp only;rw [gJ];refine fnW Tryz.func56 ?_;exact QzQ
 rw [zN h2] at hB
 by_cases h3:p=3
 .rw [zP h3] at hB
  subst hB h3;dsimp only;rw [gJ];refine fnW Tryz.func56 ?_;(repeat' ((conv=>whnf);first|exact zi2|refine zj0 fun hb=>?_|(refine zpu q2 ?_)|refine zse ?_|refine zbb ?_ ?_))
  all_goals exact Qha
 rw [zN h3] at hB
 by_cases h4:p<=6
 .rw [zP h4] at hB
  subst hB;dsimp only;rw [gJ];refine fnW Tryz.func56 ?_;(repeat' ((conv=>whnf);first|exact zi2|refine zj0 fun hb=>?_|(refine zpu q3 ?_)|refine zse ?_|refine zbb ?_ ?_))
  all_goals exact QuD
 rw [zN h4] at hB
 by_cases h5:p<=9
 .rw [zP h5] at hB
  subst hB;dsimp only;rw [gJ];refine fnW Tryz.func56 ?_;(repeat' ((conv=>whnf);first|exact zi2|refine zj0 fun hb=>?_|(refine zpu q4 ?_)|refine zse ?_|refine zbb ?_ ?_))
  all_goals exact QuD
 rw [zN h5] at hB;subst hB;dsimp only;rw [gJ];refine fnW Tryz.func56 ?_;(repeat' ((conv=>whnf);first|exact zi2|refine zj0 fun hb=>?_|(refine zpu q5 ?_)|refine zse ?_|refine zbb ?_ ?_))
 all_goals exact QuD
def QeR (x:Nat):Nat->List Int
 | 0=> []
 | j+1=>QeR x j++ [((x / 2^(8*j)%256:Nat):Int)]
theorem QfV (x:Nat):∀ j,(QeR x j).length=j
 | 0=>rfl
 | j+1=>by unfold QeR;rw [zla,QfV x j];rfl
def QEv (x j:Nat) (R:List SV):St :=
 ⟨[(0,.a (.s (.u x))),(1,.a (.s (.i 4))),(5,.a (.s (.sl 0 0 j))),(6,.a (.s (.i j)))],[(0,some ⟨true,1,R⟩)],[0]⟩
theorem QdO:∀ l:List Int,QdW (isv .u8 l)=some l
 | []=>rfl
 | x::l=>by
  have:=QdO l;unfold isv at *;rw [List.map_cons];simp only [QdW,this]
theorem Qyg (x:Nat) (hx:ZU x):FN 222 [.s (.u x),.s (.i 4)] [] (. =⟨.a (.s (.str (strOfNums (QeR x 4)))),[],[]⟩):=by
 refine fnW Tryz.func222 ?_;(conv=>whnf);(repeat' ((first|exact zi0|refine zj0 fun hb=>?_|refine zst ?_|refine zbb ?_ ?_)<;>conv=>whnf))
 refine Lp.inv (fun mm σ=>∃ j:Nat,mm+j=4/\σ=QEv x j (isv .u8 (QeR x j))) ?_ ?_
 .refine ⟨4,QEv x 0 [],?_,0,by omega,rfl⟩
  apply Qcu (m:= [(0,none)])
  .repeat' (first|exact Qa1|apply QaQ)
   all_goals first|exact QcH (Qct (QaJ rfl))|exact QcH (Qct (QeL rfl))
  .show HlS _ _ [] _
   refine Qat (QcM rfl rfl) ?_;exact QaL
  .rfl
 rintro mm σ ⟨j,yG,rfl⟩;unfold QEv;have wP:=Qbe .u8 (QeR x (j+1));have GK:=Qbe .u8 (QeR x j);have gF:(isv .u8 (QeR x j)).length=j:=by unfold isv;rw [List.length_map,QfV]
 by_cases hj:j<4
 .have s1:=QnB x (8*j) (by omega)
  have jC:isv .u8 (QeR x j)++ [.int .u8 ((x / 2^(8*j)%256:Nat):Int)]=isv .u8 (QeR x (j+1)):=by unfold isv;rw [QeR,List.map_append];rfl
  have q1:IntKind.i64.wrap (8*(j:Int))=((8*j:Nat):Int):=QbF;have q2:IntKind.i64.wrap ((j:Int)+1)=((j+1:Nat):Int):=QbF;have q3:IntKind.u64.wrap ((8*j:Nat):Int)=((8*j:Nat):Int):=Qlw;have q4:∀ y:Nat,IntKind.u8.wrap (y:Int)=((y%256:Nat):Int):=fun y=>by rw [Qn3];omega
  have q4':=q4 (x / 2^(8*j));clear q4;generalize x / 2^(8*j)=y,isv .u8 (QeR x j)=R0,FZ:isv .u8 (QeR x (j+1))=R1 at *;generalize 8*j=j8,y%256=z at *;(conv=>whnf);(repeat' ((first|exact zi2|refine zj0 fun hb=>?_|(with_reducible first|refine zv q1 ?_|refine zv q2 ?_|refine zv q3 ?_|refine zv q4' ?_|refine zv s1 ?_)|(apply Sd.mk; . refine ⟨rfl,rfl,?_,?_,?_⟩;(focus (show R0.length=j*1;omega));(focus (show (j+1)*1<=_;omega));(focus omega))|refine QCY ?_|refine zse ?_|refine zbb ?_ ?_)<;>conv=>whnf))
  all_goals first
   | (
     refine ⟨mm-1,QEv x (j+1) R1,by omega,?_,j+1,by omega,by rw [FZ];rfl⟩
     (exact zwL [(0,some _)]))
 .obtain rfl:j=4:=by omega
  have ht:=QdO (QeR x 4);have sg:(isv .u8 (QeR x 4)).length=4/\∀ (i:Nat) s,(isv .u8 (QeR x 4))[i]?=some s->(isv .u8 (QeR x 4))[0+i]?=some s:=⟨gF,fun i s hs=>by rw [Nat.zero_add];exact hs⟩;generalize isv .u8 (QeR x 4)=R0 at *;generalize QeR x 4=L at *;(repeat' ((conv=>whnf);first|exact zi2|refine zj0 fun hb=>?_|(apply Sg.mk; . exact sg)|refine QGJ ?_|refine zse ?_|refine zbb ?_ ?_))
  all_goals exact Qj1
theorem QmK (l:List Int) (h:∀ y∈l,0<=y/\y<256):Qcx (strOfNums l)=isv .u8 l:=by
 unfold Qcx strOfNums isv;simp;intro y hy;have:=h y hy;omega
theorem Qqh (x:Nat):∀ j,∀ y∈QeR x j,0<=y/\y<256
 | 0=>fun y hy=>by cases hy
 | j+1=>fun y hy=>by
  unfold QeR at hy;rcases List.mem_append.1 hy with h|h
  .exact Qqh x j y h
  .rw [List.mem_singleton] at h;subst h;omega
def pgL (xs:List Nat) (p:Nat):Nat->List Int
 | 0=> []
 | j+1=>pgL xs p j++QeR (xs.getD (p*32+j) 0) 4
theorem QgC (xs:List Nat) (p:Nat):∀ j,(pgL xs p j).length=4*j
 | 0=>rfl
 | j+1=>by unfold pgL;rw [zla,QgC xs p j,QfV];omega
def QEz (n p j r:Nat) (X R:List SV):St :=
 ⟨[(0,.a (.s (.sl 0 0 n))),(1,.a (.s (.i p))),(6,.a (.s (.sl 1 0 r))),(7,.a (.s (.i j)))],[(0,some ⟨false,1,X⟩),(1,some ⟨true,1,R⟩)],[0]⟩
def pgV (xs:List Nat) (n p:Nat):ByteArray:=if p<mpg n then strOfNums (pgL xs p 32) else ⟨#[]⟩
theorem QjD (xs:List Nat) (n:Nat) (hl:xs.length=n) (hn:n<=1000000) (hY:ZL xs) (p:Nat):FN 167 [.s (.sl 0 0 n),.s (.i p)] [⟨false,1,wsv xs⟩] (. =⟨.tup [.s (.str (pgV xs n p)),.s (.bool (decide (p<mpg n)))],[],[]⟩):=by
 have hp:=Qcg xs n (by omega);have gK:=Qaa xs;have zQ:=QaT n;have hmn:mpg n*32<=n:=Qeh;unfold pgV
 by_cases gO:p<mpg n
 .rw [zP gO,zdt gO]
  generalize mpg n=P,hX:wsv xs=XX at *;refine fnW Tryz.func167 ?_;(conv=>whnf);(repeat' ((first|exact zi2|refine zj0 fun hb=>?_|(refine QaD hp ?_)|refine zse ?_|refine zbb ?_ ?_)<;>conv=>whnf))
  all_goals try (exfalso;simp at hb;omega)
  refine Lp.inv (fun mm σ=>∃ j:Nat,mm+j=32/\σ=QEz n p j (4*j) XX (isv .u8 (pgL xs p j))) ?_ ?_
  .refine ⟨32,QEz n p 0 0 XX [],?_,0,by omega,rfl⟩
   apply Qcu (m:= [(0,some 0),(1,none)])
   .repeat' (first|exact Qa1|apply QaQ)
    all_goals exact QzC
   .show HlS _ _ [] _
    refine Qat (Qan rfl rfl rfl rfl (Qaj gK)) ?_;refine Qat (QcM rfl rfl) ?_;exact QaL
   .rfl
  rintro mm σ ⟨j,yG,rfl⟩;unfold QEz;have wP:=Qbe .u8 (pgL xs p (j+1));have GK:=Qbe .u8 (pgL xs p j);have gF:(isv .u8 (pgL xs p j)).length=4*j:=by unfold isv;rw [List.length_map,QgC]
  by_cases hj:j<32
  .have qF:=Qyg (xs.getD (p*32+j) 0) (Qab hY _)
   have jC:isv .u8 (pgL xs p j)++Qcx (strOfNums (QeR (xs.getD (p*32+j) 0) 4))=isv .u8 (pgL xs p (j+1)):=by rw [QmK _ (Qqh _ _),pgL];unfold isv;rw [List.map_append]
   have fQ:(strOfNums (QeR (xs.getD (p*32+j) 0) 4)).size=4:=by rw [strOfNums_size,QfV]
   have HK:XX[p*32+j]?=some (.u (xs.getD (p*32+j) 0:Nat)):=by
    rw [<- hX];unfold wsv;rw [zgm,zgd,zgg (by omega)];rfl
   have q1:IntKind.i64.wrap ((p:Int)*32)=((p*32:Nat):Int):=QbF;have q2:IntKind.i64.wrap ((j:Int)+1)=((j+1:Nat):Int):=QbF;have q3:IntKind.i64.wrap (((p*32:Nat):Int)+(j:Int))=((p*32+j:Nat):Int):=QbF;generalize xs.getD (p*32+j) 0=v at *;generalize strOfNums (QeR v 4)=S at *;have wC:4*j+S.size=4*(j+1):=by omega
   generalize isv .u8 (pgL xs p j)=R0,FZ:isv .u8 (pgL xs p (j+1))=R1 at *;have WN:(0:Int)<=((p*32+j:Nat):Int)/\((p*32+j:Nat):Int)<(n:Int):=by omega
   generalize p*32+j=ix at *;generalize p*32=p32,4*j=r0,wX:4*(j+1)=r1 at *;(conv=>whnf);(repeat' ((first|exact zi2|refine zj0 fun hb=>?_|refine QGF ?_|((with_reducible apply Vl.mk (α:=Nat)); . with_reducible exact wC)|refine Qzr ?_|(refine zpu qF ?_)|(apply Sd.mk; . first|exact WN|(refine ⟨rfl,rfl,?_,?_,?_⟩;(focus (show R0.length=r0*1;omega));(focus (show (r0+S.size)*1<=_;omega));(focus omega)))|refine QCY ?_|refine zse ?_|refine zbb ?_ ?_)<;>conv=>whnf))
   all_goals first
    | (
      refine ⟨mm-1,QEz n p (j+1) r1 XX R1,by omega,?_,j+1,by omega,by rw [FZ,wX];rfl⟩
      (exact zwL [(0,some 0),(1,some _)]))
  .clear wP
   obtain rfl:j=32:=by omega
   have ht:=QdO (pgL xs p 32);have sg:(isv .u8 (pgL xs p 32)).length=4*32/\∀ (i:Nat) s,(isv .u8 (pgL xs p 32))[i]?=some s->(isv .u8 (pgL xs p 32))[0+i]?=some s:=⟨gF,fun i s hs=>by rw [Nat.zero_add];exact hs⟩;generalize isv .u8 (pgL xs p 32)=R0 at *;generalize pgL xs p 32=L,4*32=r0 at *;(repeat' ((conv=>whnf);first|exact zi2|refine zj0 fun hb=>?_|(apply Sg.mk; . exact sg)|refine QGJ ?_|refine zse ?_|refine zbb ?_ ?_))
   all_goals exact Qeg
 .rw [zN gO,zdf gO]
  generalize mpg n=P,wsv xs=XX at *;refine fnW Tryz.func167 ?_;(repeat' ((conv=>whnf);first|exact zi2|refine zj0 fun hb=>?_|(refine QaD hp ?_)|refine zse ?_|refine zbb ?_ ?_))
  all_goals exact Qeg
def oS (k:Nat):Option (List SV)->SV
 | none=> .nilsl
 | some _=> .sl k 0 1
def oR:Option (List SV)->List Row
 | none=> []
 | some l=> [⟨true,4,l⟩]
def QoZ (d:Dk) (v c:Nat) (b:ByteArray):Dk:=⟨d.bs,d.bl,d.fr,1,v,d.bl,d.fr,if (v:Int)=2 then b else ⟨#[]⟩⟩
def Qa7 (d:Dk) (xs:List Nat) (n:Nat) (p:Int) (v c:Nat):Dk × Option (List SV) :=
 if p=4 then (⟨d.bs,v,d.fr,d.st,d.cmd,d.ob,d.of_,d.od⟩,none)
 else if p=5 then (⟨d.bs,d.bl,v,d.st,d.cmd,d.ob,d.of_,d.od⟩,none)
 else if ¬ p=6 then (d,none)
 else if (v:Int)=0/\(d.st=2\/d.st=3) then (⟨d.bs,d.bl,d.fr,0,d.cmd,d.ob,d.of_,d.od⟩,none)
 else if ((v:Int)=1\/(v:Int)=2)/\d.st=0 then
  (if (d.bs:Int)<=d.bl then (⟨d.bs,d.bl,d.fr,3,d.cmd,d.ob,d.of_,d.od⟩,none)
   else if QbB n d.fr=false then (⟨d.bs,d.bl,d.fr,3,d.cmd,d.ob,d.of_,d.od⟩,none)
   else (QoZ d v c (pgV xs n d.fr),some (Qnk (QoZ d v c (pgV xs n d.fr)) c)))
 else (d,none)
theorem Qni (d:Dk) (hd:d.ok) (xs:List Nat) (n:Nat) (hl:xs.length=n) (hn:n<=1000000) (hY:ZL xs) (p:Int) (v:Nat) (hv:ZU v) (c:Nat) :
  FN 102 [.agg d.C,.s (.sl 0 0 n),.s (.i p),.s (.u v),.s (.w c)] [⟨false,1,wsv xs⟩] (. =⟨.tup [.agg (Qa7 d xs n p v c).1.C,.s (oS 1 (Qa7 d xs n p v c).2)],[],oR (Qa7 d xs n p v c).2⟩):=by
 obtain ⟨_,_,e3,_,_,_,_,_⟩:=hd;have q1:=Qf0 xs n hl (by omega) d.fr e3;have q2:=QjD xs n hl hn hY d.fr;have q3:=Qk4 (QoZ d v c (pgV xs n d.fr)) c;have gK:=Qaa xs;obtain ⟨D,hD⟩:∃ D,Qa7 d xs n p v c=D:=⟨_,rfl⟩;rw [hD];unfold Qa7 at hD;generalize hO:Qnk (QoZ d v c (pgV xs n d.fr)) c=O at *
 have VP:O.length=4/\Qaq O=true/\Qas O=true:=by
  rw [<- hO];unfold Qnk;split<;>(try split)<;>(try split)<;>exact ⟨rfl,rfl,rfl⟩
 generalize Qvy (QoZ d v c (pgV xs n d.fr))=RB at *;unfold QoZ at *;generalize pgV xs n d.fr=PG,decide (d.fr<mpg n)=PB,QbB n d.fr=pb,wsv xs=XX at *;obtain ⟨bs,bl,fr,st⟩:=d;dsimp only [Dk.C] at *;have cv:IntKind.i64.wrap (v:Int)=v:=QfD;have cf:IntKind.i64.wrap (fr:Int)=fr:=QfD
 by_cases h4:p=4
 .rw [zP h4] at hD
  subst hD h4;dsimp only [oS,oR];refine fnW Tryz.func102 ?_;exact Qsj
 rw [zN h4] at hD
 by_cases h5:p=5
 .rw [zP h5] at hD
  subst hD h5;dsimp only [oS,oR];refine fnW Tryz.func102 ?_;exact Qsj
 rw [zN h5] at hD
 by_cases h6:¬ p=6
 .rw [zP h6] at hD
  subst hD;dsimp only [oS,oR];refine fnW Tryz.func102 ?_;exact Qsj
 rw [zN h6] at hD;obtain rfl:p=6:=by omega
 by_cases h7:(v:Int)=0/\(st=2\/st=3)
 .rw [zP h7] at hD
  subst hD;dsimp only [oS,oR];refine fnW Tryz.func102 ?_;exact Qsj
 rw [zN h7] at hD
 by_cases h8:((v:Int)=1\/(v:Int)=2)/\st=0
 .rw [zP h8] at hD
  by_cases h9:(bs:Int)<=bl
  .rw [zP h9] at hD
   subst hD;dsimp only [oS,oR];refine fnW Tryz.func102 ?_;exact Qsj
  rw [zN h9] at hD;cases pb
  .rw [zP rfl] at hD
   subst hD;dsimp only [oS,oR];refine fnW Tryz.func102 ?_;(repeat' ((conv=>whnf);first|exact zi2|refine zj0 fun hb=>?_|(refine QaD q1 ?_)|refine zse ?_|refine zbb ?_ ?_))
   all_goals exact QDv
  rw [zN (by decide)] at hD
  by_cases h2:(v:Int)=2
  .rw [zP h2] at hD q3
   obtain rfl:v=2:=by omega
   obtain rfl:O= [.i 4,.w c,.u bl,.str PG]:=by rw [<- hO];rfl
   clear hO VP;subst hD;dsimp only [oS,oR];refine fnW Tryz.func102 ?_;exact QDR
  .rw [zN h2] at hD q3
   obtain rfl:v=1:=by omega
   obtain rfl:O= [.i 3,.w c,.u bl,.str ⟨#[]⟩]:=by rw [<- hO];rfl
   clear hO VP;subst hD;dsimp only [oS,oR];refine fnW Tryz.func102 ?_;exact QDR
 rw [zN h8] at hD;subst hD;dsimp only [oS,oR];refine fnW Tryz.func102 ?_;exact QDl
def Qbj (d:Nk) (xs:List Nat) (n:Nat) (p:Int) (v c:Nat):Nk × Option (List SV) :=
 if p=7 then (⟨v,d.ln,d.po,d.bu,d.re,d.go_⟩,none)
 else if p=8 then (⟨d.fr,v,d.po,d.bu,d.re,d.go_⟩,none)
 else if ¬ p=9 then (d,none)
 else if (v:Int)=0 then (⟨d.fr,d.ln,d.po,d.bu,false,0⟩,none)
 else if (v:Int)=1/\1<=(d.ln:Int)/\(d.ln:Int)<=128/\QbB n d.fr=true then (d,some [.i 2,.w c,.u 0,.str ((pgV xs n d.fr).extract 0 d.ln)])
 else if (v:Int)=2/\QbB n d.fr=true/\d.po=false/\d.re=false then (⟨d.fr,d.ln,true,d.fr,d.re,d.go_⟩,none)
 else (d,none)
theorem Qif {xs:List Nat} {n f:Nat} (h:QbB n f=true):(pgV xs n f).size=128:=by
 unfold QbB at h;have:=of_decide_eq_true h;unfold pgV;rw [zP (by omega),strOfNums_size,QgC]
theorem Qnq (d:Nk) (hd:d.ok) (xs:List Nat) (n:Nat) (hl:xs.length=n) (hn:n<=1000000) (hY:ZL xs) (p:Int) (v:Nat) (hv:ZU v) (c:Nat) :
  FN 103 [.agg d.C,.s (.sl 0 0 n),.s (.i p),.s (.u v),.s (.w c)] [⟨false,1,wsv xs⟩] (. =⟨.tup [.agg (Qbj d xs n p v c).1.C,.s (oS 1 (Qbj d xs n p v c).2)],[],oR (Qbj d xs n p v c).2⟩):=by
 obtain ⟨e1,_,_,_⟩:=hd;have q1:=Qf0 xs n hl (by omega) d.fr e1;have q2:=QjD xs n hl hn hY d.fr;have yI:=@Qif xs n d.fr;have gK:=Qaa xs;obtain ⟨D,hD⟩:∃ D,Qbj d xs n p v c=D:=⟨_,rfl⟩;rw [hD];unfold Qbj at hD;generalize pgV xs n d.fr=PG,decide (d.fr<mpg n)=PB,QbB n d.fr=pb,wsv xs=XX at *;obtain ⟨fr,ln,po,_,re⟩:=d;dsimp only [Nk.C] at *;have cf:IntKind.i64.wrap (fr:Int)=fr:=QfD;have cl:IntKind.i64.wrap (ln:Int)=ln:=QfD
 by_cases h4:p=7
 .rw [zP h4] at hD
  subst hD h4;dsimp only [oS,oR];refine fnW Tryz.func103 ?_;exact Qc6
 rw [zN h4] at hD
 by_cases h5:p=8
 .rw [zP h5] at hD
  subst hD h5;dsimp only [oS,oR];refine fnW Tryz.func103 ?_;exact Qc6
 rw [zN h5] at hD
 by_cases h6:¬ p=9
 .rw [zP h6] at hD
  subst hD;dsimp only [oS,oR];refine fnW Tryz.func103 ?_;exact Qc6
 rw [zN h6] at hD;obtain rfl:p=9:=by omega
 by_cases h7:(v:Int)=0
 .rw [zP h7] at hD
  subst hD;obtain rfl:v=0:=by omega
  dsimp only [oS,oR];refine fnW Tryz.func103 ?_;exact Qc6
 rw [zN h7] at hD
 by_cases h8:(v:Int)=1/\1<=(ln:Int)/\(ln:Int)<=128/\pb=true
 .rw [zP h8] at hD
  obtain ⟨_,_,_,rfl⟩:=h8;have yI:=yI rfl;have sb:(0:Int)<=0/\(0:Int)<=(ln:Int)/\(ln:Int)<=(PG.size:Nat):=by omega
  subst hD;obtain rfl:v=1:=by omega
  dsimp only [oS,oR];refine fnW Tryz.func103 ?_;exact QDT
 rw [zN h8] at hD
 by_cases h9:(v:Int)=2/\pb=true/\po=false/\re=false
 .rw [zP h9] at hD
  obtain ⟨_,rfl,rfl,rfl⟩:=h9;subst hD;obtain rfl:v=2:=by omega
  dsimp only [oS,oR];refine fnW Tryz.func103 ?_;exact QnV
 rw [zN h9] at hD
 by_cases w1:v=1
 .obtain rfl:=w1
  by_cases w2:1<=(ln:Int)
  .by_cases w3:(ln:Int)<=128
   .obtain rfl:pb=false:=by cases pb;rfl;exact absurd ⟨rfl,w2,w3,rfl⟩ h8
    subst hD;dsimp only [oS,oR];refine fnW Tryz.func103 ?_;exact QnV
   .subst hD
    dsimp only [oS,oR];refine fnW Tryz.func103 ?_;exact Qc6
  .subst hD
   dsimp only [oS,oR];refine fnW Tryz.func103 ?_;exact Qc6
 by_cases w2:v=2
 .obtain rfl:=w2
  subst hD;cases pb
  all_goals cases po
  all_goals cases re
  all_goals try (exfalso;exact h9 ⟨rfl,rfl,rfl,rfl⟩)
  all_goals
   skip;dsimp only [oS,oR];refine fnW Tryz.func103 ?_;exact QnV
 subst hD;dsimp only [oS,oR];refine fnW Tryz.func103 ?_;exact Qzy
theorem QCQ (P:Nat) (h:ZU P):IntKind.u32.wrap (P:Int)=(P:Nat):=QeO (by omega) (by omega)
def anV (a b:Nat):Nat:=(bits .andNot .u32 (a:Int) (b:Int)).toNat
theorem QiH (a b:Nat):bits .andNot .u32 (a:Int) (b:Int)=((anV a b:Nat):Int)/\anV a b<4294967296:=by
 have h:0<=bits .andNot .u32 (a:Int) (b:Int)/\bits .andNot .u32 (a:Int) (b:Int)<4294967296:=by
  show 0<=IntKind.u32.wrap _/\IntKind.u32.wrap _<4294967296;rw [Qce];omega
 unfold anV;omega
def zrL (xs:List Nat) (v:Nat):Nat->List Nat
 | 0=>xs
 | j+1=>(zrL xs v j).set (v*32+j) 0
theorem Qfg (xs:List Nat) (v:Nat):∀ j,(zrL xs v j).length=xs.length
 | 0=>rfl
 | j+1=>by unfold zrL;rw [List.length_set,Qfg xs v j]
theorem QvV (xs:List Nat) (v:Nat) (h:ZL xs):∀ j,∀ y∈zrL xs v j,y<4294967296
 | 0=>h
 | j+1=>fun y hy=>by
  unfold zrL at hy;rcases List.mem_or_eq_of_mem_set hy with h1|h1
  .exact QvV xs v h j y h1
  .omega
def gvQ (bg n:Nat) (p:Int) (v:Nat):Prop:=p=10/\QbB n v=true/\bg / 2^v%2=0
instance (bg n:Nat) (p:Int) (v:Nat):Decidable (gvQ bg n p v):=by unfold gvQ;infer_instance
def Qhl (bg n:Nat) (p:Int) (v:Nat):Nat:=if gvQ bg n p v then bg ||| 2^v else if p=11/\(v:Int)<32 then anV bg (2^v) else bg
def QfO (xs:List Nat) (bg n:Nat) (p:Int) (v:Nat):List Nat:=if gvQ bg n p v then zrL xs v 32 else xs
def QBt (n v j:Nat) (X:List SV) (bt bg:Nat):St :=
 ⟨[(1,.a (.s (.sl 0 0 n))),(3,.a (.s (.u v))),(4,.a (.s (.ptr 1 0))),(8,.a (.s (.ptr 2 0))),(9,.a (.s (.i j)))],[(0,some ⟨true,1,X⟩),(1,some ⟨true,1,[.u bt,.u bg]⟩),(2,some ⟨true,1,[.u 0,.u 0]⟩)],[0]⟩
theorem QtW (bt bg:Nat) (hb:ZU bg) (xs:List Nat) (n:Nat) (hl:xs.length=n) (hn:n<=1000000) (p:Int) (v:Nat) (hv:ZU v) (hq:¬ gvQ bg n p v) :
  FN 104 [.agg [.u bt,.u bg],.s (.sl 0 0 n),.s (.i p),.s (.u v)] [⟨true,1,wsv xs⟩] (. =⟨.a (.agg [.u bt,.u (Qhl bg n p v)]),[(0,some ⟨true,1,wsv (QfO xs bg n p v)⟩)],[]⟩):=by
 have q1:=Qf0 xs n hl (by omega) v hv;have gK:=Qaa xs;have zQ:=QaT n;have hmn:mpg n*32<=n:=Qeh;have KD:=(QiH bg (2^v)).1;have yH:QbB n v=true->v<mpg n:=fun h=>by unfold QbB at h;have:=of_decide_eq_true h;omega
 unfold Qhl QfO;rw [zN hq,zN hq];unfold gvQ at hq
 by_cases yC:p=11
 .subst yC
  by_cases zI:(v:Int)<32
  .rw [zP ⟨rfl,zI⟩]
   have GV:(2:Nat)^v<4294967296:=by
    have:=Nat.pow_lt_pow_right (a:=2) (by omega) (show v<32 by omega);simpa using this
   have s3:(1:Int)*2^min ((v:Nat):Int).toNat IntKind.u32.bits=((2^v:Nat):Int):=by rw [QG8 1 v (by omega)];simp
   have s4:IntKind.u32.wrap ((2^v:Nat):Int)=((2^v:Nat):Int):=QCQ _ GV;have s4':IntKind.u32.wrap ((1:Int)*2^min ((v:Nat):Int).toNat IntKind.u32.bits)=((2^v:Nat):Int):=by rw [s3,s4]
   clear hq yH;generalize 2^v=pw at *;generalize anV bg pw=b2,wsv xs=XX at *;refine fnW Tryz.func104 ?_;(repeat' ((conv=>whnf);first|exact zi2|refine zj0 fun hb=>?_|(with_reducible first|refine zv s4' ?_|refine zv s3 ?_|refine zv s4 ?_|refine zv KD ?_)|refine zse ?_|refine zbb ?_ ?_))
   all_goals exact QuH
  .rw [zN (fun h=>zI h.2)]
   clear hq yH KD;generalize wsv xs=XX at *;refine fnW Tryz.func104 ?_;(repeat' ((conv=>whnf);first|exact zi2|refine zj0 fun hb=>?_|refine zse ?_|refine zbb ?_ ?_))
   all_goals exact QuH
 rw [zN (fun h=>yC h.1)]
 by_cases jL:p=10
 .subst jL
  by_cases h2:QbB n v=true
  .rw [h2] at q1
   have hvm:=yH h2;have zI:v<32:=by omega
   have h3:bg / 2^v%2=1:=by
    have:¬ bg / 2^v%2=0:=fun h=>hq ⟨rfl,h2,h⟩
    omega
   have s1:=QnB bg v zI;have s2:=QiI (bg / 2^v) (Nat.lt_of_le_of_lt (Nat.div_le_self _ _) hb);rw [h3] at s2;clear hq yH KD h3;generalize bg / 2^v=bv,wsv xs=XX at *;refine fnW Tryz.func104 ?_;(repeat' ((conv=>whnf);first|exact zi2|refine zj0 fun hb=>?_|refine QGL ?_|(refine QaD q1 ?_)|refine zse ?_|refine zbb ?_ ?_))
   all_goals exact QuH
  .rw [Bool.eq_false_iff.2 h2] at q1
   clear hq yH KD;generalize wsv xs=XX at *;refine fnW Tryz.func104 ?_;(repeat' ((conv=>whnf);first|exact zi2|refine zj0 fun hb=>?_|(refine QaD q1 ?_)|refine zse ?_|refine zbb ?_ ?_))
   all_goals exact QuH
 clear hq yH KD;generalize wsv xs=XX at *;refine fnW Tryz.func104 ?_;exact QDl
theorem Qq5 (bt bg:Nat) (hb:ZU bg) (xs:List Nat) (n:Nat) (hl:xs.length=n) (hn:n<=1000000) (p:Int) (v:Nat) (hv:ZU v) (hq:gvQ bg n p v) :
  FN 104 [.agg [.u bt,.u bg],.s (.sl 0 0 n),.s (.i p),.s (.u v)] [⟨true,1,wsv xs⟩] (. =⟨.a (.agg [.u bt,.u (Qhl bg n p v)]),[(0,some ⟨true,1,wsv (QfO xs bg n p v)⟩)],[]⟩):=by
 have q1:=Qf0 xs n hl (by omega) v hv;have gK:=Qaa xs;have zQ:=QaT n;have hmn:mpg n*32<=n:=Qeh;have KD:=(QiH bg (2^v)).1;have yH:QbB n v=true->v<mpg n:=fun h=>by unfold QbB at h;have:=of_decide_eq_true h;omega
 unfold Qhl QfO;rw [zP hq,zP hq];obtain ⟨ZZ,KB⟩:∃ ZZ,∀ k,k=32->zrL xs v k=ZZ:=⟨zrL xs v 32,fun k h=>by rw [h]⟩;rw [KB 32 rfl];obtain ⟨rfl,h2,h3⟩:=hq;rw [h2] at q1;have hvm:=yH h2;have zI:v<32:=by omega
 have s1:=QnB bg v zI;have s2:=QiI (bg / 2^v) (Nat.lt_of_le_of_lt (Nat.div_le_self _ _) hb);rw [h3] at s2
 have GV:(2:Nat)^v<4294967296:=by
  have:=Nat.pow_lt_pow_right (a:=2) (by omega) zI;simpa using this
 have s3:(1:Int)*2^min ((v:Nat):Int).toNat IntKind.u32.bits=((2^v:Nat):Int):=by rw [QG8 1 v (by omega)];simp
 have s4:IntKind.u32.wrap ((2^v:Nat):Int)=((2^v:Nat):Int):=QCQ _ GV;have s4':IntKind.u32.wrap ((1:Int)*2^min ((v:Nat):Int).toNat IntKind.u32.bits)=((2^v:Nat):Int):=by rw [s3,s4]
 have s5:=QxQ bg (2^v) hb GV;have q0:IntKind.i64.wrap (v:Int)=v:=QfD;have q3:IntKind.i64.wrap ((v:Int)*32)=((v*32:Nat):Int):=QbF;clear yH zQ h2 h3 KD;generalize bg / 2^v=bv at *;generalize 2^v=pw at *;generalize bg ||| pw=b2,hX:wsv xs=XX at *;refine fnW Tryz.func104 ?_;(conv=>whnf);(repeat' ((first|exact zi2|refine zj0 fun hb=>?_|(with_reducible first|refine zv s1 ?_|refine zv s2 ?_|refine zv s4' ?_|refine zv s5 ?_)|(refine QaD q1 ?_)|refine zse ?_|refine zbb ?_ ?_)<;>conv=>whnf))
 all_goals try (exfalso;simp at hb;done)
 refine Lp.inv (fun mm σ=>∃ j:Nat,mm+j=32/\σ=QBt n v j (wsv (zrL xs v j)) bt b2) ?_ ?_
 .refine ⟨32,QBt n v 0 XX bt b2,?_,0,by omega,by rw [<- hX];rfl⟩
  (exact zwL [(0,some 0),(1,some _),(2,some _)])
 clear s1 s2 s3 s4 s4' s5 q1;rintro mm σ ⟨j,yG,rfl⟩;unfold QBt;have hZ:=Qaa (zrL xs v (j+1));have ZH:=Qaa (zrL xs v j)
 by_cases hj:j<32
 .have gY:QaB (wsv (zrL xs v j)) (v*32+j) [Qlx (Value.int IntKind.u32 0)]=wsv (zrL xs v (j+1)) :=
    Qbv (zrL xs v j) (v*32+j) 0 (by rw [Qfg];omega)
  have ZW:(wsv (zrL xs v j)).length=n:=by simp [Qfg,hl]
  have q2:IntKind.i64.wrap ((j:Int)+1)=((j+1:Nat):Int):=QbF;have q4:IntKind.i64.wrap (((v*32:Nat):Int)+(j:Int))=((v*32+j:Nat):Int):=QbF;have WN:(0:Int)<=((v*32+j:Nat):Int)/\((v*32+j:Nat):Int)<(n:Int):=by omega
  generalize wsv (zrL xs v j)=Z0,hZ1:wsv (zrL xs v (j+1))=Z1,v*32+j=ix at *;generalize v*32=v32 at *;have UG:ix+1<=Z0.length:=by omega
  (conv=>whnf);(repeat' ((first|exact zi2|refine zj0 fun hb=>?_|(with_reducible first|refine zv q0 ?_|refine zv q2 ?_|refine zv q3 ?_|refine zv q4 ?_)|(apply Sd.mk; . first|with_reducible exact WN|exact ⟨rfl,rfl,rfl,UG⟩)|refine zq7 ?_|refine zse ?_|refine zbb ?_ ?_)<;>conv=>whnf))
  all_goals first
   | (
     refine ⟨mm-1,QBt n v (j+1) Z1 bt b2,by omega,?_,j+1,by omega,by unfold QBt;rw [hZ1]⟩
     (exact zwL [(0,some 0),(1,some 1),(2,some 2)]))
 .obtain rfl:j=32:=by omega
  clear hZ;rw [KB 32 rfl] at ZH |-;clear KB;generalize wsv ZZ=Z0 at *;exact Qc6
theorem QtV (bt bg:Nat) (hb:ZU bg) (xs:List Nat) (n:Nat) (hl:xs.length=n) (hn:n<=1000000) (p:Int) (v:Nat) (hv:ZU v) :
  FN 104 [.agg [.u bt,.u bg],.s (.sl 0 0 n),.s (.i p),.s (.u v)] [⟨true,1,wsv xs⟩] (. =⟨.a (.agg [.u bt,.u (Qhl bg n p v)]),[(0,some ⟨true,1,wsv (QfO xs bg n p v)⟩)],[]⟩):=by grind [gvQ,Qq5,QtW,Fn,wsv,Qhl,QfO]
theorem Qxh (bg n:Nat) (hb:ZU bg) (p:Int) (v:Nat):Qhl bg n p v<4294967296:=by
 unfold Qhl;split
 .rename_i h
  have hv:v<32:=by
   have:=h.2.1;have hm:=QaT n;unfold QbB at this;have:=of_decide_eq_true this;omega
  have GV:(2:Nat)^v<2^32:=Nat.pow_lt_pow_right (a:=2) (by omega) hv;exact Nat.or_lt_two_pow (n:=32) hb GV
 .split
  .exact (QiH bg (2^v)).2
  .exact hb
theorem QeB (xs:List Nat) (bg n:Nat) (p:Int) (v:Nat):(QfO xs bg n p v).length=xs.length:=by grind [QfO,Qfg]
theorem Qxi (xs:List Nat) (bg n:Nat) (p:Int) (v:Nat) (h:ZL xs):∀ y∈QfO xs bg n p v,y<4294967296:=by
 unfold QfO;split
 .exact QvV xs v h 32
 .exact h
theorem QqP (xs:List Nat) (n f:Nat):(pgV xs n f).size<=128:=by
 unfold pgV;split
 .rw [strOfNums_size,QgC];omega
 .exact Nat.zero_le _
theorem Qo0 (d:Dk) (hd:d.ok) (xs:List Nat) (n:Nat) (p:Int) (v:Nat) (hv:ZU v) (c:Nat):(Qa7 d xs n p v c).1.ok:=by
 obtain ⟨e1,e2,e3,e4,e5,e6,e7,e8⟩:=hd;have w:∀ i:Int,0<=i->i<4294967296->(Lit.int .i64 i).wf=true:=fun i h h'=>by simp [Lit.wf];exact ⟨by show (-9223372036854775808:Int)<=i;omega,by omega⟩
 unfold Qa7;split
 .exact ⟨e1,hv,e3,e4,e5,e6,e7,e8⟩
 split
 .exact ⟨e1,e2,hv,e4,e5,e6,e7,e8⟩
 split
 .exact ⟨e1,e2,e3,e4,e5,e6,e7,e8⟩
 split
 .exact ⟨e1,e2,e3,e4,e5,e6,w 0 (by omega) (by omega),e8⟩
 split
 .split
  .exact ⟨e1,e2,e3,e4,e5,e6,w 3 (by omega) (by omega),e8⟩
  split
  .exact ⟨e1,e2,e3,e4,e5,e6,w 3 (by omega) (by omega),e8⟩
  .refine ⟨e1,e2,e3,e2,e3,?_,w 1 (by omega) (by omega),w v (by omega) (by omega)⟩
   show (if (v:Int)=2 then pgV xs n d.fr else ⟨#[]⟩:ByteArray).size<=1000000;split
   .grind [QqP,Qa7]
   .exact Nat.zero_le _
 .exact ⟨e1,e2,e3,e4,e5,e6,e7,e8⟩
def Qjs (O:Option (List SV)):Prop:=∀ l,O=some l->l.length=4/\Qaq l=true/\Qas l=true
theorem Qdy (d:Dk) (xs:List Nat) (n:Nat) (p:Int) (v c:Nat):Qjs (Qa7 d xs n p v c).2:=by
 unfold Qa7 Qjs;intro l h;split at h
 .cases h
 split at h
 .cases h
 split at h
 .cases h
 split at h
 .cases h
 split at h
 .split at h
  .cases h
  split at h
  .cases h
  .injection h with h
   subst h;unfold Qnk;split<;>(try split)<;>(try split)<;>exact ⟨rfl,rfl,rfl⟩
 .cases h
theorem QqB (d:Nk) (hd:d.ok) (xs:List Nat) (n:Nat) (p:Int) (v:Nat) (hv:ZU v) (c:Nat):(Qbj d xs n p v c).1.ok:=by
 obtain ⟨e1,e2,e3,e4⟩:=hd;unfold Qbj;split
 .exact ⟨hv,e2,e3,e4⟩
 split
 .exact ⟨e1,hv,e3,e4⟩
 split
 .exact ⟨e1,e2,e3,e4⟩
 split
 .exact ⟨e1,e2,e3,by show (0:Nat)<_;omega⟩
 split
 .exact ⟨e1,e2,e3,e4⟩
 split
 .exact ⟨e1,e2,e1,e4⟩
 .exact ⟨e1,e2,e3,e4⟩
theorem QdE (d:Nk) (xs:List Nat) (n:Nat) (p:Int) (v c:Nat):Qjs (Qbj d xs n p v c).2:=by
 unfold Qbj Qjs;intro l h;split at h
 .cases h
 split at h
 .cases h
 split at h
 .cases h
 split at h
 .cases h
 split at h
 .injection h with h
  subst h;exact ⟨rfl,rfl,rfl⟩
 split at h
 .cases h
 .cases h
theorem QBA (M:Mc) (hM:M.ok) (p:Int):(inM M p).ok:=by
 unfold inM;split
 .obtain ⟨h1,h2,h3,h4,h5,h6,h7,h8,h9,g1,g2,g3,g4,g5⟩:=hM
  refine ⟨h1,h2,h3,h4,h5,h6,h7,h8,h9,g1,g2,g3,g4,?_⟩;show (Qkt M.ks p).size<=1000000;unfold Qkt;split
  .grind [ByteArray.size_extract,inM]
  .exact g5
 .exact hM
def Qbz (M:Mc) (p:Int) (v:Nat):Mc × Option (List SV) :=
 if p=0 then (M,some [.i 1,.w M.ct,.u 0,.str (strOfNums [v%256])])
 else if p<=2 then (M,none)
 else if p=3 then ({ M with ta:=decide (¬ (v:Int)=0),td:=v,tf:=false },none)
 else if p<=6 then ({ M with d:=(Qa7 M.d M.m M.m.length p v M.ct).1 },(Qa7 M.d M.m M.m.length p v M.ct).2)
 else if p<=9 then ({ M with n:=(Qbj M.n M.m M.m.length p v M.ct).1 },(Qbj M.n M.m M.m.length p v M.ct).2)
 else ({ M with bg:=Qhl M.bg M.m.length p v,m:=QfO M.m M.bg M.m.length p v },none)
theorem Qid (M:Mc) (p:Int) (v:Nat):Qjs (Qbz M p v).2:=by
 unfold Qbz;split
 .intro l h;injection h with h;subst h;exact ⟨rfl,rfl,rfl⟩
 split
 .intro l h;cases h
 split
 .intro l h;cases h
 split
 .exact Qdy _ _ _ _ _ _
 split
 .exact QdE _ _ _ _ _ _
 .intro l h;cases h
theorem QxV (M:Mc) (hM:M.ok) (p:Int) (v:Nat) (hv:ZU v):(Qbz M p v).1.ok:=by
 have k:=hM;obtain ⟨h1,h2,h3,h4,h5,h6,h7,h8,h9,g1,g2,g3,g4,g5⟩:=hM;unfold Qbz;split
 .exact k
 split
 .exact k
 split
 .exact ⟨h1,h2,h3,h4,h5,h6,h7,h8,h9,hv,g2,g3,g4,g5⟩
 split
 .exact ⟨h1,h2,h3,h4,h5,h6,h7,Qo0 _ h8 _ _ _ _ hv _,h9,g1,g2,g3,g4,g5⟩
 split
 .exact ⟨h1,h2,h3,h4,h5,h6,h7,h8,QqB _ h9 _ _ _ _ hv _,g1,g2,g3,g4,g5⟩
 .refine ⟨h1,h2,h3,h4,h5,Qxi _ _ _ _ _ h6,?_,h8,h9,g1,g2,Qxh _ _ g3 _ _,g4,g5⟩
  show (QfO M.m M.bg M.m.length p v).length<=1000000;rw [QeB];exact h7
theorem Qic (M:Mc) (p:Int) (v:Nat):(Qbz M p v).1.m.length=M.m.length:=by
 unfold Qbz;split
 .rfl
 split
 .rfl
 split
 .rfl
 split
 .rfl
 split
 .rfl
 .exact QeB _ _ _ _ _
end Go.Proofs.YtflaceijiphfdaaGreat
