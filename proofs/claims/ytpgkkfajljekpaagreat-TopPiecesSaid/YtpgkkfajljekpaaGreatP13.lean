import Derived.Test.YtpgkkfajljekpaaGreatP12
set_option linter.unusedSimpArgs false
set_option linter.unusedVariables false
set_option maxHeartbeats 0
set_option maxRecDepth 100000
namespace Go.Proofs.YtpgkkfajljekpaaGreat
open Go Go.RowKit
def QbK (M:Mc):Bool :=
 decide (1<=mpg M.m.length/\M.x.getD 0 0=0/\M.c.getD 0 0<=31/\M.c.getD 7 0<=31/\M.c.getD 6 0<=255/\M.c.getD 1 0%4=0/\Qc2 M.ks=true/\Qd5 M.ta M.td M.tf=true/\QbN M.d (mpg M.m.length:Nat)=true/\Qb4 M.n (mpg M.m.length:Nat)=true/\QbX M.bg (mpg M.m.length:Nat)=true/\M.ct<=1152921504606846976/\¬ (M.wt=true/\M.ht=true))
theorem Qro (M:Mc) (hM:M.ok):FN 45 [.agg (M.C 0)] [⟨false,1,wsv M.m⟩] (. =⟨.a (.s (.bool (QbK M))),[],[]⟩):=by
 have hp:=Qcj M.m _ (by have:=hM.ml;omega:M.m.length<4294967296);have q1:=Qnu M.ks;have q2:=QnG M.ta M.td M.tf;have q3:=Qnw M.d hM.dk (mpg M.m.length:Nat);have q4:=QnE M.n hM.nk (mpg M.m.length:Nat);have q5:=Qnt M.bt M.bg hM.dv.2.2.1 (mpg M.m.length:Nat);have gL:=Qaa M.m;have uK:=QaS M.m.length;obtain ⟨B,hB⟩:∃ B,QbK M=B:=⟨_,rfl⟩;rw [hB];unfold QbK at hB;generalize Qc2 M.ks=b1,Qd5 M.ta M.td M.tf=b2,QbN M.d (mpg M.m.length:Nat)=b3,Qb4 M.n (mpg M.m.length:Nat)=b4,QbX M.bg (mpg M.m.length:Nat)=b5 at *;have h1:=Qab hM.cr 1;obtain ⟨hx,hc,hY,gA,_,gB,_,gD,gE,gF⟩:=hM;obtain ⟨_,_,_,m,ks,ta,td,tf,d,n,bt,bg⟩:=M;dsimp only at *;cases QJP hx;obtain ⟨_,c1,_,_,_,_,_,_,rfl⟩:=Qek hc;cases d;cases n;dsimp only [Mc.C,Mc.D,Dk.C,Nk.C,Dk.ok,Nk.ok] at *;generalize mpg m.length=P at *;generalize m.length=nn,wsv m=XX at *;simp only [List.getD_cons_zero,List.getD_cons_succ] at hB h1;have m1:Int.tmod (c1:Int) 4=((c1%4:Nat):Int):=Qu8;have qN:=gF.2.2.2.1;clear hY gA gD gE gB gF;generalize c1%4=c14 at *;refine fnW Tryz.func45 ?_;(repeat' ((conv=>whnf);first|exact zi2|(refine zj0 ?_;intro hb)|(with_reducible refine zv m1 ?_)|(refine Qaz hp ?_)|(refine zpu q1 ?_)|(refine zpu q2 ?_)|(refine zpu q3 ?_)|(refine zpu q4 ?_)|(refine zpu q5 ?_)|refine zse ?_|refine zbb ?_ ?_));all_goals (conv=>whnf)
 all_goals first
  | (refine QcF ?_ ?_;(focus (exact Qb5));rw [<- hB];symm;first|exact zdf (by omega)|(rw [zbi];simp;done)|(rw [zbi];simp;omega)|(rw [zbi];simp;grind))
def QbM (M:Mc):Bool:= !QbK M||M.ht||Qhy M||decide (1152921504606846976<=M.ct)
theorem QgX (M:Mc) (hM:M.ok):FN 33 [.agg (M.C 0)] [⟨false,1,wsv M.m⟩] (. =⟨.a (.s (.bool (QbM M))),[],[]⟩):=by
 have hm:=Qro M hM;have hi:=Qmy M hM;have gL:=Qaa M.m;obtain ⟨B,hB⟩:∃ B,QbM M=B:=⟨_,rfl⟩;rw [hB];unfold QbM at hB;generalize QbK M=b1,Qhy M=b2 at *;obtain ⟨hx,hc,hY,gA,_,gB,_,gD,gE,gF⟩:=hM;obtain ⟨_,_,_,m,_,_,_,_,d,n⟩:=M;dsimp only at *;cases QJP hx;cases zC8 hc;cases d;cases n;dsimp only [Mc.C,Mc.D,Dk.C,Nk.C,Dk.ok,Nk.ok] at *;generalize m.length=nn,wsv m=XX at *;have qN:=gF.2.2.2.1;clear hY gA gD gE gB gF;refine fnW Tryz.func33 ?_;exact QDD
def QF8 (l:Nat):Nat:=if l%2=1 then 0 else if l / 2%2=1 then 1 else if l / 4%2=1 then 2 else if l / 8%2=1 then 3 else 4
theorem QqB (l j:Nat) (hj:j<5) (h0:∀ i,i<j->l / 2^i%2=0) (h1:l / 2^j%2=1):QF8 l=j:=by
 have e:j=0\/j=1\/j=2\/j=3\/j=4:=by omega
 unfold QF8;rcases e with rfl|rfl|rfl|rfl|rfl
 .rw [zP (by simpa using h1)]
 .have a:=h0 0 (by omega)
  rw [zN (by simp at a;omega),zP (by simpa using h1)]
 .have a:=h0 0 (by omega)
  have b:=h0 1 (by omega);rw [zN (by simp at a;omega),zN (by simp at b;omega),zP (by simpa using h1)]
 .have a:=h0 0 (by omega)
  have b:=h0 1 (by omega);have d:=h0 2 (by omega);rw [zN (by simp at a;omega),zN (by simp at b;omega),zN (by simp at d;omega),zP (by simpa using h1)]
 .have a:=h0 0 (by omega)
  have b:=h0 1 (by omega);have d:=h0 2 (by omega);have e:=h0 3 (by omega);rw [zN (by simp at a;omega),zN (by simp at b;omega),zN (by simp at d;omega),zN (by simp at e;omega)]
theorem QA3 (l:Nat) (hl:l<32) (h:∀ i,i<5->l / 2^i%2=0):l=0:=by
 have a:=h 0 (by omega);have b:=h 1 (by omega);have c:=h 2 (by omega);have d:=h 3 (by omega);have e:=h 4 (by omega);simp at a b c d e;omega
theorem Qjt (b:Bool) (k:Nat) (hk:k<5):lnN b k<32:=by
 unfold lnN;split
 .exact Nat.lt_of_lt_of_le (Nat.pow_lt_pow_right (by omega:1<2) hk) (by decide)
 .decide
theorem Qpl (M:Mc):QiO M<32:=by
 unfold QiO Qfx;exact Nat.lt_of_le_of_lt Nat.and_le_left (or5 (or5 (or5 (or5 (Qjt _ 0 (by decide)) (Qjt _ 1 (by decide))) (Qjt _ 2 (by decide))) (Qjt _ 3 (by decide))) (Qjt _ 4 (by decide)))
theorem Qhq (a:Nat) (ha:a<4294967296):bits .and .u32 (a:Int) 2=((a / 2%2*2:Nat):Int):=by
 rw [show ((2:Int))=((2:Nat):Int) from rfl,QcB a 2 ha (by omega)];obtain ⟨h,l,hl,rfl⟩:=QhL a;rw [QgF h l 2 hl (by decide)];have e:∀ l:Nat,l<32->l &&& 2=l / 2%2*2:=by decide
 rw [e l hl];congr 1;omega
def QcS (M:Mc):Bool:=decide (M.c.getD 0 0 / 2%2=1/\QiO M≠0)
def Qc4 (M:Mc):Nat:=if QcS M=true then M.c.getD 1 0 else M.pc
def Qc3 (M:Mc):List Nat:=if QcS M=true then trL M.pc M.c (16+(QF8 (QiO M):Nat)) 0 else M.c
theorem Qbv (M:Mc) (hM:M.ok):(Qc3 M).length=8:=by unfold Qc3;split;rfl;exact hM.c
theorem Qeh (M:Mc) (hM:M.ok):∀ y∈Qc3 M,y<4294967296:=by
 unfold Qc3;split
 .exact Qg3 hM.cr _ hM.pr _ _ (by decide)
 .exact hM.cr
theorem Qei (M:Mc) (hM:M.ok):Qc4 M<4294967296:=by
 unfold Qc4;split
 .exact Qab hM.cr 1
 .exact hM.pr
def QtO (E j:Nat) (MC ZC XX:List SV):St :=
 ⟨[(1,.a (.s (.ptr 1 0))),(2,.a (.s (.ptr 2 0))),(3,.a (.s (.u E))),(4,.a (.s (.i j)))],[(0,some ⟨false,1,XX⟩),(1,some ⟨true,1,MC⟩),(2,some ⟨true,1,ZC⟩)],[0]⟩
theorem QjO (M:Mc) (hM:M.ok):FN 82 [.agg (M.C 0)] [⟨false,1,wsv M.m⟩] (. =⟨.a (.agg (Qax M.x (Qc4 M) (Qc3 M))),[],[]⟩):=by
 have he:=QgQ M hM;have hE:=Qpl M;have gL:=Qaa M.m;have b2:=Qhq (M.c.getD 0 0) (Qab hM.cr 0);unfold Qc4 Qc3 QcS;generalize QiO M=E at *;obtain ⟨hx,hc,hY,gA,_,gB,gI,gD,gE,gF⟩:=hM;obtain ⟨x,pc,c,m,ks,ta,td,tf,d,n,bt,bg,ct,wt,ht⟩:=M;dsimp only at *;obtain ⟨x0,x1,x2,x3,x4,x5,x6,x7,x8,x9,x10,x11,x12,x13,x14,x15,rfl⟩:=QdY hx;obtain ⟨c0,c1,c2,c3,c4,c5,c6,c7,rfl⟩:=Qek hc;obtain ⟨d0,d1,d2,d3,d4,d5,d6,d7⟩:=d;obtain ⟨n0,n1,n2,n3,n4,n5⟩:=n;dsimp only [Mc.C,Mc.D,Dk.C,Nk.C,Dk.ok,Nk.ok] at *;generalize m.length=nn,wsv m=XX at *;simp only [List.getD_cons_zero,List.getD_cons_succ] at b2 |-;have h2:c0 / 2%2<2:=Nat.mod_lt _ (by decide);generalize c0 / 2%2=s2 at *;clear hY gD gE gB gF gI
 by_cases hi:s2=1/\E≠0
 case neg =>
  rw [zdf hi,zN (by decide),zN (by decide)];have e:s2=0\/s2=1:=by omega
  rcases e with rfl|rfl
  .replace b2:bits .and .u32 (c0:Int) 2=0:=b2
   refine fnW Tryz.func82 ?_;exact QAf
  .obtain rfl:E=0:=by omega
   replace b2:bits .and .u32 (c0:Int) 2=2:=b2;refine fnW Tryz.func82 ?_;exact QAf
 obtain ⟨rfl,FA⟩:=hi;rw [zdt ⟨rfl,FA⟩,zP rfl,zP rfl];replace b2:bits .and .u32 (c0:Int) 2=2:=b2;refine fnW Tryz.func82 ?_;(repeat' ((conv=>whnf);first|exact zi2|(refine zj0 ?_;intro hb)|(with_reducible refine zv b2 ?_)|(refine Qaz he ?_)|refine zse ?_|refine zbb ?_ ?_));all_goals (conv=>whnf)
 all_goals first|(exfalso;have hb2:=eq_of_beq hb;omega)|skip
 refine Lp.inv (fun mm σ=>∃ j:Nat,mm+j=5/\(∀ i,i<j->E / 2^i%2=0)/\σ=QtO E j [.u x0,.u x1,.u x2,.u x3,.u x4,.u x5,.u x6,.u x7,.u x8,.u x9,.u x10,.u x11,.u x12,.u x13,.u x14,.u x15,.u pc,.u c0,.u c1,.u c2,.u c3,.u c4,.u c5,.u c6,.u c7,.sl 0 0 nn,.str ks,.bool ta,.u td,.bool tf,.u d0,.u d1,.u d2,.i d3,.i d4,.u d5,.u d6,.str d7,.u n0,.u n1,.bool n2,.u n3,.bool n4,.u n5,.u bt,.u bg,.w ct,.bool wt,.bool ht] (List.replicate 25 (.u 0)) XX) ?_ ?_
 .refine ⟨5,QtO E 0 [.u x0,.u x1,.u x2,.u x3,.u x4,.u x5,.u x6,.u x7,.u x8,.u x9,.u x10,.u x11,.u x12,.u x13,.u x14,.u x15,.u pc,.u c0,.u c1,.u c2,.u c3,.u c4,.u c5,.u c6,.u c7,.sl 0 0 nn,.str ks,.bool ta,.u td,.bool tf,.u d0,.u d1,.u d2,.i d3,.i d4,.u d5,.u d6,.str d7,.u n0,.u n1,.bool n2,.u n3,.bool n4,.u n5,.u bt,.u bg,.w ct,.bool wt,.bool ht] (List.replicate 25 (.u 0)) XX,?_,0,by omega,fun i h=>by omega,rfl⟩
  (exact zwL [(0,some 0),(1,some _),(2,some _)])
 rintro mm σ ⟨j,yY,fD,rfl⟩;unfold QtO
 have hj5:j<5:=by
  rcases Nat.lt_or_ge j 5 with h|h
  .exact h
  .exact absurd (QA3 E hE (fun i hi=>fD i (by omega))) FA
 have s1:=QnQ E j (by omega);have s2:=QiW (E / 2^j) (Nat.lt_of_le_of_lt (Nat.div_le_self _ _) (by omega));have q2:IntKind.i64.wrap ((j:Int)+1)=((j+1:Nat):Int):=QaR;have hb2:E / 2^j%2<2:=Nat.mod_lt _ (by decide);obtain ⟨_,_⟩:∃ Z,List.replicate 25 (SV.int .u32 0)=Z:=⟨_,rfl⟩
 by_cases yC:E / 2^j%2=1
 .have qK:=QqB E j hj5 fD yC
  rw [qK];have fQ:=Qc0 [x0,x1,x2,x3,x4,x5,x6,x7,x8,x9,x10,x11,x12,x13,x14,x15] pc [c0,c1,c2,c3,c4,c5,c6,c7] (16+(j:Int)) 0 rfl rfl gA;rw [Qbl] at fQ;change Fn _ _ _ _ (. =⟨.a (.agg (Qax _ c1 _)),[],[]⟩) at fQ;rw [yC] at s2;generalize w32 (16+(j:Int))=kk,E / 2^j=Ej at *;clear fD qK hE;(repeat' ((conv=>whnf);first|exact zi2|(refine zj0 ?_;intro hb)|refine QHn ?_|(refine zpu fQ ?_)|refine zse ?_|refine zbb ?_ ?_))
  all_goals exact Qgg
 .have yU:E / 2^j%2=0:=by omega
  have vS:∀ i,i<j+1->E / 2^i%2=0:=fun i hi=>by
   by_cases e:i=j
   .subst e;exact yU
   .exact fD i (by omega)
  rw [yU] at s2;generalize E / 2^j=Ej at *;(repeat' ((conv=>whnf);first|exact zi2|(refine zj0 ?_;intro hb)|(with_reducible first|refine zv s1 ?_|refine zv s2 ?_|refine zv q2 ?_)|refine zse ?_|refine zbb ?_ ?_));all_goals (conv=>whnf)
  all_goals first
   | (exfalso;omega)
   | (exfalso;simp at hb;done)
   | (
     refine ⟨mm-1,_,by omega,?_,j+1,by omega,vS,rfl⟩
     try unfold QtO
     (exact zwL [(0,some 0),(1,some 1),(2,some 2)]))
def QnV (f:Bool):Nat:=if f=true then 1 else 0
theorem Qrz (a:Bool) (d:Nat) (f:Bool):FN 154 [.agg [.bool a,.u d,.bool f]] [] (. =⟨.a (.s (.u (QnV f:Nat))),[],[]⟩):=by
 cases f
 all_goals
  refine fnW Tryz.func154 ?_;exact Qob
def Qhc (d:Dk) (p:Int):Nat:=if p=4 then d.bl else if p=5 then d.fr else if p=6 then w32 d.st else 0
theorem Qrg (d:Dk) (p:Int):FN 155 [.agg d.C,.s (.i p)] [] (. =⟨.a (.s (.u (Qhc d p:Nat))),[],[]⟩):=by
 have qs:=Qau d.st;obtain ⟨B,hB⟩:∃ B,Qhc d p=B:=⟨_,rfl⟩;rw [hB];unfold Qhc at hB;obtain ⟨_,_,_,st⟩:=d;dsimp only [Dk.C] at *;generalize w32 st=ws at *
 by_cases h4:p=4
 .rw [zP h4] at hB
  subst h4 hB;refine fnW Tryz.func155 ?_;exact QD7
 rw [zN h4] at hB
 by_cases h5:p=5
 .rw [zP h5] at hB
  subst h5 hB;refine fnW Tryz.func155 ?_;exact QD7
 rw [zN h5] at hB
 by_cases h6:p=6
 .rw [zP h6] at hB
  subst h6 hB;refine fnW Tryz.func155 ?_;exact QEk
 rw [zN h6] at hB;subst hB;refine fnW Tryz.func155 ?_;exact QDw
def Qhf (n:Nk) (p:Int):Nat:=if p=7 then n.fr else if p=8 then n.go_ else if p=9 then (if n.po=true then 1 else 0)+(if n.re=true then 2 else 0) else 0
theorem Qrp (n:Nk) (p:Int):FN 156 [.agg n.C,.s (.i p)] [] (. =⟨.a (.s (.u (Qhf n p:Nat))),[],[]⟩):=by
 obtain ⟨B,hB⟩:∃ B,Qhf n p=B:=⟨_,rfl⟩;rw [hB];unfold Qhf at hB;obtain ⟨_,_,po,_,re⟩:=n;dsimp only [Nk.C] at *
 by_cases h4:p=7
 .rw [zP h4] at hB
  subst h4 hB;refine fnW Tryz.func156 ?_;exact QD7
 rw [zN h4] at hB
 by_cases h5:p=8
 .rw [zP h5] at hB
  subst h5 hB;refine fnW Tryz.func156 ?_;exact QD7
 rw [zN h5] at hB
 by_cases h6:p=9
 .rw [zP h6] at hB
  subst h6 hB;cases po<;>cases re
  all_goals
   refine fnW Tryz.func156 ?_;exact QD7
 rw [zN h6] at hB;subst hB;refine fnW Tryz.func156 ?_;exact QDw
def Qgk (bt bg:Nat) (p:Int):Nat:=if p=10 then bt else if p=11 then QbJ bg 32 else 0
theorem Qrd (bt bg:Nat) (h2:bg<4294967296) (p:Int):FN 157 [.agg [.u bt,.u bg],.s (.i p)] [] (. =⟨.a (.s (.u (Qgk bt bg p:Nat))),[],[]⟩):=by
 have hg:=QjN bt bg h2;have jY:=Qb2 bg 32;obtain ⟨B,hB⟩:∃ B,Qgk bt bg p=B:=⟨_,rfl⟩;rw [hB];unfold Qgk at hB;generalize QbJ bg 32=P at *
 by_cases h4:p=10
 .rw [zP h4] at hB
  subst h4 hB;refine fnW Tryz.func157 ?_;exact QD9
 rw [zN h4] at hB
 by_cases h5:p=11
 .rw [zP h5] at hB
  subst h5 hB;refine fnW Tryz.func157 ?_;exact QD9
 rw [zN h5] at hB;subst hB;refine fnW Tryz.func157 ?_;exact QDO
def QkG (k:ByteArray) (p:Int):ByteArray:=if p=0 then (if k.size=0 then k else k.extract 1 k.size) else k
def Qoe (k:ByteArray) (p:Int):Nat:=if p=0 then (match k[0]? with|some b=>b.toNat|none=>4294967295) else if p=1 then k.size else 0
theorem Qre (k:ByteArray) (hk:k.size<=1000000) (p:Int):FN 153 [.agg [.str k],.s (.i p)] [] (. =⟨.tup [.agg [.str (QkG k p)],.s (.u (Qoe k p:Nat))],[],[]⟩):=by
 obtain ⟨_,hA⟩:∃ B,QkG k p=B:=⟨_,rfl⟩;obtain ⟨B,hB⟩:∃ B,Qoe k p=B:=⟨_,rfl⟩;rw [hA,hB];unfold QkG at hA;unfold Qoe at hB
 by_cases h4:p=0
 .rw [zP h4] at hA hB
  subst h4
  by_cases h0:k.size=0
  .rw [zP h0] at hA
   have hn:k[0]?=none:=by simp [h0]
   rw [hn] at hB;subst hA hB;dsimp only;refine fnW Tryz.func153 ?_;exact QD7
  .rw [zN h0] at hA
   have hn:k[0]?=some k[0]:=by simp
   rw [hn] at hB;have gT:=UInt8.toNat_lt k[0];generalize k[0]=b at *;subst hA hB;dsimp only;refine fnW Tryz.func153 ?_;(repeat' ((conv=>whnf);first|exact zi2|(refine zj0 ?_;intro hb)|((with_reducible apply Ge.mk (α:=UInt8)); . exact hn)|refine zse ?_|refine zbb ?_ ?_))
   all_goals exact zF_
 rw [zN h4] at hA hB
 by_cases h5:p=1
 .rw [zP h5] at hB
  subst h5 hA hB;refine fnW Tryz.func153 ?_;exact QD7
 rw [zN h5] at hB;subst hA hB;refine fnW Tryz.func153 ?_;exact QDw
def QbC (n f:Nat):Bool:=decide ((f:Int)<(mpg n:Nat))
theorem Qgb (xs:List Nat) (n:Nat) (hl:xs.length=n) (hn:n<4294967296) (f:Nat) (hf:f<4294967296):FN 171 [.s (.sl 0 0 n),.s (.u f)] [⟨false,1,wsv xs⟩] (. =⟨.a (.s (.bool (QbC n f))),[],[]⟩):=by
 have hp:=Qcj xs n (by omega);have gL:=Qaa xs;have uK:=QaS n;unfold QbC;generalize mpg n=P,wsv xs=XX at *;have c1:IntKind.u64.wrap (P:Int)=P:=QD3;have c2:IntKind.u64.wrap (f:Int)=f:=QD3;refine fnW Tryz.func171 ?_;exact QDC
def QAj (d:Nat):List SV:=if (d:Int)=0 then [.bool false,.u 0,.bool false] else [.bool true,.u d,.bool false]
theorem Qys (d:Nat):FN 158 [.s (.u d)] [] (. =⟨.a (.agg (QAj d)),[],[]⟩):=by
 unfold QAj
 by_cases h:(d:Int)=0
 .rw [zP h]
  refine fnW Tryz.func158 ?_;exact Qob
 .rw [zN h]
  refine fnW Tryz.func158 ?_;exact Qob
def Qoj (d:Dk) (c:Nat):List SV:=if d.st=1 then (if d.cmd=1 then [.i 3,.w c,.u d.ob,.str ⟨#[]⟩] else if d.cmd=2 then [.i 4,.w c,.u d.ob,.str d.od] else [.i 0,.w 0,.u 0,.str ⟨#[]⟩]) else [.i 0,.w 0,.u 0,.str ⟨#[]⟩]
def Qv0 (d:Dk):Bool:=decide (d.st=1/\(d.cmd=1\/d.cmd=2))
theorem Qli (d:Dk) (c:Nat):FN 233 [.agg d.C,.s (.w c)] [] (. =⟨.tup [.agg (Qoj d c),.s (.bool (Qv0 d))],[],[]⟩):=by
 obtain ⟨_,hO⟩:∃ B,Qoj d c=B:=⟨_,rfl⟩;obtain ⟨B,hB⟩:∃ B,Qv0 d=B:=⟨_,rfl⟩;rw [hO,hB];unfold Qoj at hO;unfold Qv0 at hB;obtain ⟨_,_,_,st,cmd⟩:=d;dsimp only [Dk.C] at *
 by_cases h1:st=1
 .rw [zP h1] at hO
  by_cases h2:cmd=1
  .rw [zP h2] at hO
   rw [zdt (by omega)] at hB;subst hO hB h1 h2;refine fnW Tryz.func233 ?_;exact QD8
  rw [zN h2] at hO
  by_cases h3:cmd=2
  .rw [zP h3] at hO
   rw [zdt (by omega)] at hB;subst hO hB h1 h3;refine fnW Tryz.func233 ?_;exact QD8
  rw [zN h3] at hO;rw [zdf (by omega)] at hB;subst hO hB h1;refine fnW Tryz.func233 ?_;exact QD8
 rw [zN h1] at hO;rw [zdf (by omega)] at hB;subst hO hB;refine fnW Tryz.func233 ?_;exact QDL
def inV (M:Mc) (p:Int) (w:Nat):Nat:=if p<=1 then Qoe M.ks p else if p=2 then w else if p=3 then QnV M.tf else if p<=6 then Qhc M.d p else if p<=9 then Qhf M.n p else Qgk M.bt M.bg p
def inM (M:Mc) (p:Int):Mc:=if p<=1 then { M with ks:=QkG M.ks p } else M
theorem QCy (M:Mc) (hM:M.ok) (p:Int) (w:Nat):FN 84 [.s (.ptr 0 0),.s (.i p),.s (.u w)] [⟨true,1,M.C 1⟩,⟨true,1,wsv M.m⟩]
  (. =⟨.a (.s (.u (inV M p w:Nat))),[(0,some ⟨true,1,(inM M p).C 1⟩)],[]⟩):=by
 have q1:=Qre M.ks hM.dv.2.2.2.2 p;have q2:=Qrz M.ta M.td M.tf;have q3:=Qrg M.d p;have q4:=Qrp M.n p;have q5:=Qrd M.bt M.bg hM.dv.2.2.1 p;have gL:=Qaa M.m;obtain ⟨B,hB⟩:∃ B,inV M p w=B:=⟨_,rfl⟩;obtain ⟨_,wM⟩:∃ B,inM M p=B:=⟨_,rfl⟩;rw [hB,wM];unfold inV at hB;unfold inM at wM;generalize Qoe M.ks p=v1,QkG M.ks p=k2,QnV M.tf=v2,Qhc M.d p=v3,Qhf M.n p=v4,Qgk M.bt M.bg p=v5 at *;obtain ⟨hx,hc,hY,gA,gH,gB,_,gD,gE,gF⟩:=hM;obtain ⟨_,_,_,m,ks,ta,td,tf,d,n,bt,bg⟩:=M;dsimp only at *;cases QJP hx;cases zC8 hc;cases d;cases n;dsimp only [Mc.C,Mc.D,Dk.C,Nk.C,Dk.ok,Nk.ok] at *;generalize gJ:m.length=nn,wsv m=XX at *;clear hY gA gD gE gB gF gH
 by_cases h1:p<=1
 .rw [zP h1] at hB wM
  subst hB wM;dsimp only;rw [gJ];refine fnW Tryz.func84 ?_;(repeat' ((conv=>whnf);first|exact zi2|(refine zj0 ?_;intro hb)|(refine zpu q1 ?_)|refine zse ?_|refine zbb ?_ ?_))
  all_goals exact Qu1
 rw [zN h1] at hB wM;subst wM
 by_cases h2:p=2
 .rw [zP h2] at hB
  subst hB h2;dsimp only;rw [gJ];refine fnW Tryz.func84 ?_;exact QAg
 rw [zN h2] at hB
 by_cases h3:p=3
 .rw [zP h3] at hB
  subst hB h3;dsimp only;rw [gJ];refine fnW Tryz.func84 ?_;(repeat' ((conv=>whnf);first|exact zi2|(refine zj0 ?_;intro hb)|(refine zpu q2 ?_)|refine zse ?_|refine zbb ?_ ?_))
  all_goals exact Qhn
 rw [zN h3] at hB
 by_cases h4:p<=6
 .rw [zP h4] at hB
  subst hB;dsimp only;rw [gJ];refine fnW Tryz.func84 ?_;(repeat' ((conv=>whnf);first|exact zi2|(refine zj0 ?_;intro hb)|(refine zpu q3 ?_)|refine zse ?_|refine zbb ?_ ?_))
  all_goals exact Qu1
 rw [zN h4] at hB
 by_cases h5:p<=9
 .rw [zP h5] at hB
  subst hB;dsimp only;rw [gJ];refine fnW Tryz.func84 ?_;(repeat' ((conv=>whnf);first|exact zi2|(refine zj0 ?_;intro hb)|(refine zpu q4 ?_)|refine zse ?_|refine zbb ?_ ?_))
  all_goals exact Qu1
 rw [zN h5] at hB;subst hB;dsimp only;rw [gJ];refine fnW Tryz.func84 ?_;(repeat' ((conv=>whnf);first|exact zi2|(refine zj0 ?_;intro hb)|(refine zpu q5 ?_)|refine zse ?_|refine zbb ?_ ?_))
 all_goals exact Qu1
def Qe2 (x:Nat):Nat->List Int
 | 0=> []
 | j+1=>Qe2 x j++ [((x / 2^(8*j)%256:Nat):Int)]
theorem Qf5 (x:Nat):∀ j,(Qe2 x j).length=j
 | 0=>rfl
 | j+1=>by unfold Qe2;rw [zla,Qf5 x j];rfl
def QES (x j:Nat) (R:List SV):St :=
 ⟨[(0,.a (.s (.u x))),(1,.a (.s (.i 4))),(5,.a (.s (.sl 0 0 j))),(6,.a (.s (.i j)))],[(0,some ⟨true,1,R⟩)],[0]⟩
theorem QdV:∀ l:List Int,Qd6 (isv .u8 l)=some l
 | []=>rfl
 | x::l=>by
  have:=QdV l;unfold isv at *;rw [List.map_cons];simp only [Qd6,this]
theorem QyJ (x:Nat) (hx:x<4294967296):FN 271 [.s (.u x),.s (.i 4)] [] (. =⟨.a (.s (.str (strOfNums (Qe2 x 4)))),[],[]⟩):=by
 refine fnW Tryz.func271 ?_;(repeat' ((conv=>whnf);first|exact zi0|(refine zj0 ?_;intro hb)|refine zst ?_|refine zbb ?_ ?_));all_goals (conv=>whnf)
 refine Lp.inv (fun mm σ=>∃ j:Nat,mm+j=4/\σ=QES x j (isv .u8 (Qe2 x j))) ?_ ?_
 .refine ⟨4,QES x 0 [],?_,0,by omega,rfl⟩
  apply Qce (m:= [(0,none)])
  .repeat' (first|exact QaX|apply QaL)
   all_goals first|exact QcJ (Qcu (QaJ rfl))|exact QcJ (Qcu (QeY rfl))
  .show HlS _ _ [] _
   refine Qar (QcQ rfl rfl) ?_;exact QaK
  .rfl
 rintro mm σ ⟨j,yY,rfl⟩;unfold QES;have wC:=QaP .u8 (Qe2 x (j+1));have HV:=QaP .u8 (Qe2 x j);have gG:(isv .u8 (Qe2 x j)).length=j:=by unfold isv;rw [List.length_map,Qf5]
 by_cases hj:j<4
 .have s1:=QnQ x (8*j) (by omega)
  have jK:isv .u8 (Qe2 x j)++ [.int .u8 ((x / 2^(8*j)%256:Nat):Int)]=isv .u8 (Qe2 x (j+1)):=by unfold isv;rw [Qe2,List.map_append];rfl
  have q1:IntKind.i64.wrap (8*(j:Int))=((8*j:Nat):Int):=QaR;have q2:IntKind.i64.wrap ((j:Int)+1)=((j+1:Nat):Int):=QaR;have q3:IntKind.u64.wrap ((8*j:Nat):Int)=((8*j:Nat):Int):=QD3;have q4:∀ y:Nat,IntKind.u8.wrap (y:Int)=((y%256:Nat):Int):=fun y=>by rw [Qol];omega
  have q4':=q4 (x / 2^(8*j));clear q4;generalize x / 2^(8*j)=y,isv .u8 (Qe2 x j)=R0,hR1:isv .u8 (Qe2 x (j+1))=R1 at *;generalize 8*j=j8,y%256=z at *;(repeat' ((conv=>whnf);first|exact zi2|(refine zj0 ?_;intro hb)|(with_reducible first|refine zv q1 ?_|refine zv q2 ?_|refine zv q3 ?_|refine zv q4' ?_|refine zv s1 ?_)|(apply Sd.mk; . refine ⟨rfl,rfl,?_,?_,?_⟩;(focus (show R0.length=j*1;omega));(focus (show (j+1)*1<=_;omega));(focus omega))|refine QDm ?_|refine zse ?_|refine zbb ?_ ?_));all_goals (conv=>whnf)
  all_goals first
   | (
     refine ⟨mm-1,QES x (j+1) R1,by omega,?_,j+1,by omega,by rw [hR1];rfl⟩
     (exact zwL [(0,some _)]))
 .obtain rfl:j=4:=by omega
  have ht:=QdV (Qe2 x 4);have sg:(isv .u8 (Qe2 x 4)).length=4/\∀ (i:Nat) s,(isv .u8 (Qe2 x 4))[i]?=some s->(isv .u8 (Qe2 x 4))[0+i]?=some s:=⟨gG,fun i s hs=>by rw [Nat.zero_add];exact hs⟩;generalize isv .u8 (Qe2 x 4)=R0 at *;generalize Qe2 x 4=L at *;(repeat' ((conv=>whnf);first|exact zi2|(refine zj0 ?_;intro hb)|(apply Sg.mk; . exact sg)|refine QHl ?_|refine zse ?_|refine zbb ?_ ?_))
  all_goals exact QHy
theorem Qm1 (l:List Int) (h:∀ y∈l,0<=y/\y<256):Qcy (strOfNums l)=isv .u8 l:=by
 unfold Qcy strOfNums isv;simp;intro y hy;have:=h y hy;omega
theorem QqA (x:Nat):∀ j,∀ y∈Qe2 x j,0<=y/\y<256
 | 0=>fun y hy=>by cases hy
 | j+1=>fun y hy=>by
  unfold Qe2 at hy;rcases List.mem_append.1 hy with h|h
  .exact QqA x j y h
  .rw [List.mem_singleton] at h;subst h;omega
def pgL (xs:List Nat) (p:Nat):Nat->List Int
 | 0=> []
 | j+1=>pgL xs p j++Qe2 (xs.getD (p*32+j) 0) 4
theorem QgN (xs:List Nat) (p:Nat):∀ j,(pgL xs p j).length=4*j
 | 0=>rfl
 | j+1=>by unfold pgL;rw [zla,QgN xs p j,Qf5];omega
def QEW (n p j r:Nat) (X R:List SV):St :=
 ⟨[(0,.a (.s (.sl 0 0 n))),(1,.a (.s (.i p))),(6,.a (.s (.sl 1 0 r))),(7,.a (.s (.i j)))],[(0,some ⟨false,1,X⟩),(1,some ⟨true,1,R⟩)],[0]⟩
def pgV (xs:List Nat) (n p:Nat):ByteArray:=if p<mpg n then strOfNums (pgL xs p 32) else ⟨#[]⟩
theorem QjR (xs:List Nat) (n:Nat) (hl:xs.length=n) (hn:n<=1000000) (hY:ZL xs) (p:Nat):FN 232 [.s (.sl 0 0 n),.s (.i p)] [⟨false,1,wsv xs⟩] (. =⟨.tup [.s (.str (pgV xs n p)),.s (.bool (decide (p<mpg n)))],[],[]⟩):=by
 have hp:=Qcj xs n (by omega);have gL:=Qaa xs;have uK:=QaS n;have hmn:mpg n*32<=n:=QsC;unfold pgV
 by_cases gT:p<mpg n
 .rw [zP gT,zdt gT]
  generalize mpg n=P,hX:wsv xs=XX at *;refine fnW Tryz.func232 ?_;(repeat' ((conv=>whnf);first|exact zi2|(refine zj0 ?_;intro hb)|(refine Qaz hp ?_)|refine zse ?_|refine zbb ?_ ?_));all_goals (conv=>whnf)
  all_goals try (exfalso;simp at hb;omega)
  refine Lp.inv (fun mm σ=>∃ j:Nat,mm+j=32/\σ=QEW n p j (4*j) XX (isv .u8 (pgL xs p j))) ?_ ?_
  .refine ⟨32,QEW n p 0 0 XX [],?_,0,by omega,rfl⟩
   apply Qce (m:= [(0,some 0),(1,none)])
   .repeat' (first|exact QaX|apply QaL)
    all_goals exact QHx
   .show HlS _ _ [] _
    refine Qar (Qao rfl rfl rfl rfl (Qak gL)) ?_;refine Qar (QcQ rfl rfl) ?_;exact QaK
   .rfl
  rintro mm σ ⟨j,yY,rfl⟩;unfold QEW;have wC:=QaP .u8 (pgL xs p (j+1));have HV:=QaP .u8 (pgL xs p j);have gG:(isv .u8 (pgL xs p j)).length=4*j:=by unfold isv;rw [List.length_map,QgN]
  by_cases hj:j<32
  .have qK:=QyJ (xs.getD (p*32+j) 0) (Qab hY _)
   have jK:isv .u8 (pgL xs p j)++Qcy (strOfNums (Qe2 (xs.getD (p*32+j) 0) 4))=isv .u8 (pgL xs p (j+1)):=by rw [Qm1 _ (QqA _ _),pgL];unfold isv;rw [List.map_append]
   have fZ:(strOfNums (Qe2 (xs.getD (p*32+j) 0) 4)).size=4:=by rw [strOfNums_size,Qf5]
   have HM:XX[p*32+j]?=some (.u (xs.getD (p*32+j) 0:Nat)):=by
    rw [<- hX];unfold wsv;rw [zgm,zgd,zgg (by omega)];rfl
   have q1:IntKind.i64.wrap ((p:Int)*32)=((p*32:Nat):Int):=QaR;have q2:IntKind.i64.wrap ((j:Int)+1)=((j+1:Nat):Int):=QaR;have q3:IntKind.i64.wrap (((p*32:Nat):Int)+(j:Int))=((p*32+j:Nat):Int):=QaR;generalize xs.getD (p*32+j) 0=v at *;generalize strOfNums (Qe2 v 4)=S at *;have vK:4*j+S.size=4*(j+1):=by omega
   generalize isv .u8 (pgL xs p j)=R0,hR1:isv .u8 (pgL xs p (j+1))=R1 at *;have ZF:(0:Int)<=((p*32+j:Nat):Int)/\((p*32+j:Nat):Int)<(n:Int):=by omega
   generalize p*32+j=ix at *;generalize p*32=p32,4*j=r0,zA:4*(j+1)=r1 at *;(repeat' ((conv=>whnf);first|exact zi2|(refine zj0 ?_;intro hb)|refine QHh ?_|((with_reducible apply Vl.mk (α:=Nat)); . with_reducible exact vK)|refine QH3 ?_|(refine zpu qK ?_)|(apply Sd.mk; . first|exact ZF|(refine ⟨rfl,rfl,?_,?_,?_⟩;(focus (show R0.length=r0*1;omega));(focus (show (r0+S.size)*1<=_;omega));(focus omega)))|refine QDm ?_|refine zse ?_|refine zbb ?_ ?_));all_goals (conv=>whnf)
   all_goals first
    | (
      refine ⟨mm-1,QEW n p (j+1) r1 XX R1,by omega,?_,j+1,by omega,by rw [hR1,zA];rfl⟩
      (exact zwL [(0,some 0),(1,some _)]))
  .clear wC
   obtain rfl:j=32:=by omega
   have ht:=QdV (pgL xs p 32);have sg:(isv .u8 (pgL xs p 32)).length=4*32/\∀ (i:Nat) s,(isv .u8 (pgL xs p 32))[i]?=some s->(isv .u8 (pgL xs p 32))[0+i]?=some s:=⟨gG,fun i s hs=>by rw [Nat.zero_add];exact hs⟩;generalize isv .u8 (pgL xs p 32)=R0 at *;generalize pgL xs p 32=L,4*32=r0 at *;(repeat' ((conv=>whnf);first|exact zi2|(refine zj0 ?_;intro hb)|(apply Sg.mk; . exact sg)|refine QHl ?_|refine zse ?_|refine zbb ?_ ?_))
   all_goals exact Qeu
 .rw [zN gT,zdf gT]
  generalize mpg n=P,wsv xs=XX at *;refine fnW Tryz.func232 ?_;(repeat' ((conv=>whnf);first|exact zi2|(refine zj0 ?_;intro hb)|(refine Qaz hp ?_)|refine zse ?_|refine zbb ?_ ?_))
  all_goals exact Qeu
def oS (k:Nat):Option (List SV)->SV
 | none=> .nilsl
 | some _=> .sl k 0 1
def oR:Option (List SV)->List Row
 | none=> []
 | some l=> [⟨true,4,l⟩]
def Qph (d:Dk) (v c:Nat) (b:ByteArray):Dk:=⟨d.bs,d.bl,d.fr,1,v,d.bl,d.fr,if (v:Int)=2 then b else ⟨#[]⟩⟩
def Qa9 (d:Dk) (xs:List Nat) (n:Nat) (p:Int) (v c:Nat):Dk × Option (List SV) :=
 if p=4 then (⟨d.bs,v,d.fr,d.st,d.cmd,d.ob,d.of_,d.od⟩,none)
 else if p=5 then (⟨d.bs,d.bl,v,d.st,d.cmd,d.ob,d.of_,d.od⟩,none)
 else if ¬ p=6 then (d,none)
 else if (v:Int)=0/\(d.st=2\/d.st=3) then (⟨d.bs,d.bl,d.fr,0,d.cmd,d.ob,d.of_,d.od⟩,none)
 else if ((v:Int)=1\/(v:Int)=2)/\d.st=0 then
  (if (d.bs:Int)<=d.bl then (⟨d.bs,d.bl,d.fr,3,d.cmd,d.ob,d.of_,d.od⟩,none)
   else if QbC n d.fr=false then (⟨d.bs,d.bl,d.fr,3,d.cmd,d.ob,d.of_,d.od⟩,none)
   else (Qph d v c (pgV xs n d.fr),some (Qoj (Qph d v c (pgV xs n d.fr)) c)))
 else (d,none)
theorem Qnx (d:Dk) (hd:d.ok) (xs:List Nat) (n:Nat) (hl:xs.length=n) (hn:n<=1000000) (hY:ZL xs) (p:Int) (v:Nat) (hv:v<4294967296) (c:Nat) :
  FN 159 [.agg d.C,.s (.sl 0 0 n),.s (.i p),.s (.u v),.s (.w c)] [⟨false,1,wsv xs⟩] (. =⟨.tup [.agg (Qa9 d xs n p v c).1.C,.s (oS 1 (Qa9 d xs n p v c).2)],[],oR (Qa9 d xs n p v c).2⟩):=by
 obtain ⟨_,_,e3,_,_,_,_,_⟩:=hd;have q1:=Qgb xs n hl (by omega) d.fr e3;have q2:=QjR xs n hl hn hY d.fr;have q3:=Qli (Qph d v c (pgV xs n d.fr)) c;have gL:=Qaa xs;obtain ⟨D,hD⟩:∃ D,Qa9 d xs n p v c=D:=⟨_,rfl⟩;rw [hD];unfold Qa9 at hD;generalize hO:Qoj (Qph d v c (pgV xs n d.fr)) c=O at *
 have YJ:O.length=4/\Qad O=true/\Qat O=true:=by
  rw [<- hO];unfold Qoj;split<;>(try split)<;>(try split)<;>exact ⟨rfl,rfl,rfl⟩
 generalize Qv0 (Qph d v c (pgV xs n d.fr))=RB at *;unfold Qph at *;generalize pgV xs n d.fr=PG,decide (d.fr<mpg n)=PB,QbC n d.fr=pb,wsv xs=XX at *;obtain ⟨bs,bl,fr,st⟩:=d;dsimp only [Dk.C] at *;have cv:IntKind.i64.wrap (v:Int)=v:=QDY;have cf:IntKind.i64.wrap (fr:Int)=fr:=QDY
 by_cases h4:p=4
 .rw [zP h4] at hD
  subst hD h4;dsimp only [oS,oR];refine fnW Tryz.func159 ?_;exact Qvc
 rw [zN h4] at hD
 by_cases h5:p=5
 .rw [zP h5] at hD
  subst hD h5;dsimp only [oS,oR];refine fnW Tryz.func159 ?_;exact Qvc
 rw [zN h5] at hD
 by_cases h6:¬ p=6
 .rw [zP h6] at hD
  subst hD;dsimp only [oS,oR];refine fnW Tryz.func159 ?_;exact Qvc
 rw [zN h6] at hD;obtain rfl:p=6:=by omega
 by_cases h7:(v:Int)=0/\(st=2\/st=3)
 .rw [zP h7] at hD
  subst hD;dsimp only [oS,oR];refine fnW Tryz.func159 ?_;exact Qvc
 rw [zN h7] at hD
 by_cases h8:((v:Int)=1\/(v:Int)=2)/\st=0
 .rw [zP h8] at hD
  by_cases h9:(bs:Int)<=bl
  .rw [zP h9] at hD
   subst hD;dsimp only [oS,oR];refine fnW Tryz.func159 ?_;exact Qvc
  rw [zN h9] at hD;cases pb
  .rw [zP rfl] at hD
   subst hD;dsimp only [oS,oR];refine fnW Tryz.func159 ?_;(repeat' ((conv=>whnf);first|exact zi2|(refine zj0 ?_;intro hb)|(refine Qaz q1 ?_)|refine zse ?_|refine zbb ?_ ?_))
   all_goals exact QDU
  rw [zN (by decide)] at hD
  by_cases h2:(v:Int)=2
  .rw [zP h2] at hD q3
   obtain rfl:v=2:=by omega
   obtain rfl:O= [.i 4,.w c,.u bl,.str PG]:=by rw [<- hO];rfl
   clear hO YJ;subst hD;dsimp only [oS,oR];refine fnW Tryz.func159 ?_;exact QAb
  .rw [zN h2] at hD q3
   obtain rfl:v=1:=by omega
   obtain rfl:O= [.i 3,.w c,.u bl,.str ⟨#[]⟩]:=by rw [<- hO];rfl
   clear hO YJ;subst hD;dsimp only [oS,oR];refine fnW Tryz.func159 ?_;exact QAb
 rw [zN h8] at hD;subst hD;dsimp only [oS,oR];refine fnW Tryz.func159 ?_;exact QzV
def Qbj (d:Nk) (xs:List Nat) (n:Nat) (p:Int) (v c:Nat):Nk × Option (List SV) :=
 if p=7 then (⟨v,d.ln,d.po,d.bu,d.re,d.go_⟩,none)
 else if p=8 then (⟨d.fr,v,d.po,d.bu,d.re,d.go_⟩,none)
 else if ¬ p=9 then (d,none)
 else if (v:Int)=0 then (⟨d.fr,d.ln,d.po,d.bu,false,0⟩,none)
 else if (v:Int)=1/\1<=(d.ln:Int)/\(d.ln:Int)<=128/\QbC n d.fr=true then (d,some [.i 2,.w c,.u 0,.str ((pgV xs n d.fr).extract 0 d.ln)])
 else if (v:Int)=2/\QbC n d.fr=true/\d.po=false/\d.re=false then (⟨d.fr,d.ln,true,d.fr,d.re,d.go_⟩,none)
 else (d,none)
theorem Qiq {xs:List Nat} {n f:Nat} (h:QbC n f=true):(pgV xs n f).size=128:=by
 unfold QbC at h;have:=of_decide_eq_true h;unfold pgV;rw [zP (by omega),strOfNums_size,QgN]
theorem QnF (d:Nk) (hd:d.ok) (xs:List Nat) (n:Nat) (hl:xs.length=n) (hn:n<=1000000) (hY:ZL xs) (p:Int) (v:Nat) (hv:v<4294967296) (c:Nat) :
  FN 160 [.agg d.C,.s (.sl 0 0 n),.s (.i p),.s (.u v),.s (.w c)] [⟨false,1,wsv xs⟩] (. =⟨.tup [.agg (Qbj d xs n p v c).1.C,.s (oS 1 (Qbj d xs n p v c).2)],[],oR (Qbj d xs n p v c).2⟩):=by
 obtain ⟨e1,_,_,_⟩:=hd;have q1:=Qgb xs n hl (by omega) d.fr e1;have q2:=QjR xs n hl hn hY d.fr;have vX:=@Qiq xs n d.fr;have gL:=Qaa xs;obtain ⟨D,hD⟩:∃ D,Qbj d xs n p v c=D:=⟨_,rfl⟩;rw [hD];unfold Qbj at hD;generalize pgV xs n d.fr=PG,decide (d.fr<mpg n)=PB,QbC n d.fr=pb,wsv xs=XX at *;obtain ⟨fr,ln,po,_,re⟩:=d;dsimp only [Nk.C] at *;have cf:IntKind.i64.wrap (fr:Int)=fr:=QDY;have cl:IntKind.i64.wrap (ln:Int)=ln:=QDY
 by_cases h4:p=7
 .rw [zP h4] at hD
  subst hD h4;dsimp only [oS,oR];refine fnW Tryz.func160 ?_;exact Qfq
 rw [zN h4] at hD
 by_cases h5:p=8
 .rw [zP h5] at hD
  subst hD h5;dsimp only [oS,oR];refine fnW Tryz.func160 ?_;exact Qfq
 rw [zN h5] at hD
 by_cases h6:¬ p=9
 .rw [zP h6] at hD
  subst hD;dsimp only [oS,oR];refine fnW Tryz.func160 ?_;exact Qfq
 rw [zN h6] at hD;obtain rfl:p=9:=by omega
 by_cases h7:(v:Int)=0
 .rw [zP h7] at hD
  subst hD;obtain rfl:v=0:=by omega
  dsimp only [oS,oR];refine fnW Tryz.func160 ?_;exact Qfq
 rw [zN h7] at hD
 by_cases h8:(v:Int)=1/\1<=(ln:Int)/\(ln:Int)<=128/\pb=true
 .rw [zP h8] at hD
  obtain ⟨_,_,_,rfl⟩:=h8;have vX:=vX rfl;have sb:(0:Int)<=0/\(0:Int)<=(ln:Int)/\(ln:Int)<=(PG.size:Nat):=by omega
  subst hD;obtain rfl:v=1:=by omega
  dsimp only [oS,oR];refine fnW Tryz.func160 ?_;exact QAd
 rw [zN h8] at hD
 by_cases h9:(v:Int)=2/\pb=true/\po=false/\re=false
 .rw [zP h9] at hD
  obtain ⟨_,rfl,rfl,rfl⟩:=h9;subst hD;obtain rfl:v=2:=by omega
  dsimp only [oS,oR];refine fnW Tryz.func160 ?_;exact Qz8
 rw [zN h9] at hD
 by_cases w1:v=1
 .obtain rfl:=w1
  by_cases w2:1<=(ln:Int)
  .by_cases w3:(ln:Int)<=128
   .obtain rfl:pb=false:=by cases pb;rfl;exact absurd ⟨rfl,w2,w3,rfl⟩ h8
    subst hD;dsimp only [oS,oR];refine fnW Tryz.func160 ?_;exact Qz8
   .subst hD
    dsimp only [oS,oR];refine fnW Tryz.func160 ?_;exact Qfq
  .subst hD
   dsimp only [oS,oR];refine fnW Tryz.func160 ?_;exact Qfq
 by_cases w2:v=2
 .obtain rfl:=w2
  subst hD;cases pb
  all_goals cases po
  all_goals cases re
  all_goals try (exfalso;exact h9 ⟨rfl,rfl,rfl,rfl⟩)
  all_goals
   skip;dsimp only [oS,oR];refine fnW Tryz.func160 ?_;exact Qz8
 subst hD;dsimp only [oS,oR];refine fnW Tryz.func160 ?_;exact QDI
def QCM (x:Nat):Nat:=if x<32768 then x else x+4294901760
theorem QJi (x:Nat) (hx:x<65536):IntKind.u32.wrap ((x:Int)*2^min ((32:Int)-16).toNat IntKind.u32.bits)=(x:Int)*65536:=by
 rw [show (2:Int)^min ((32:Int)-16).toNat IntKind.u32.bits=65536 from rfl];exact Qe4 (by omega) (by omega)
theorem QJj (x:Nat) (hx:x<65536):IntKind.i32.wrap ((x:Int)*65536)=(if x<32768 then (x:Int) else x-65536)*65536:=by
 unfold IntKind.wrap;simp only [IntKind.signed,IntKind.bits,Bool.true_and,zde]
 by_cases h:x<32768
 .rw [zP h,zN (by simp;omega)];omega
 .rw [zN h,zP (by simp;omega)];omega
theorem QJk (x:Int):x*65536 / 2^min ((32:Int)-16).toNat IntKind.i32.bits=x:=by
 rw [show (2:Int)^min ((32:Int)-16).toNat IntKind.i32.bits=65536 from rfl];omega
theorem QJl (x:Nat) (hx:x<65536):IntKind.u32.wrap (if x<32768 then (x:Int) else x-65536)=(QCM x:Nat):=by
 unfold QCM;rw [Qcf]
 by_cases h:x<32768
 .rw [zP h,zP h];omega
 .rw [zN h,zN h];omega
theorem Qzx (x:Nat) (hx:x<65536):FN 118 [.s (.u x),.s (.i 16)] [] (. =⟨.a (.s (.u (QCM x:Nat))),[],[]⟩):=by
 refine fnW Tryz.func118 ?_;(repeat' ((conv=>whnf);first|exact zi0|(refine zj0 ?_;intro hb)|((with_reducible apply Vl.mk (α:=Int)); . first|exact QJi x hx|exact QJj x hx|exact QJk _|exact QJl x hx)|refine zs0 ?_|refine zbb ?_ ?_));all_goals (conv=>whnf)
 all_goals exact Qan rfl rfl
def Qsg (o:Int):Bool:=decide (1<=o/\o<=13\/16<=o/\o<=24\/32<=o/\o<=36\/40<=o/\o<=45\/o=48\/o=49\/58<=o/\o<=61)
def QzF (o:Int):Bool:=decide (1<=o/\o<=13\/16<=o/\o<=23\/32<=o/\o<=36\/40<=o/\o<=45\/o=49)
def Qsh (o:Int):Bool:=decide (1<=o/\o<=13)
def QE1 (o:Int):Bool:=decide (o=16\/o=23\/32<=o/\o<=36\/40<=o/\o<=45\/o=48\/o=49)
def Qg5 (o:Int):Int:=if QE1 o then -32768 else 0
def Qhj (o:Int):Int:=if QE1 o then 32767 else if o=17\/o=18\/o=19\/o=24 then 65535 else if o=20\/o=21\/o=22 then 31 else if o=58\/o=59 then 7 else if o=60\/o=61 then 11 else 0
def QcR (o:Int):Bool:=Qsg o||decide (o=56\/o=57\/62<=o/\o<=64)
theorem Qwc (o:Int):FN 117 [.s (.i o)] [] (. =⟨.tup [.agg [.bool (Qsg o),.bool (QzF o),.bool (Qsh o),.int .i32 (Qg5 o),.int .i32 (Qhj o)],.s (.bool (QcR o))],[],[]⟩):=by
 refine fnW Tryz.func117 ?_;(repeat' ((conv=>whnf);first|exact zi0|(refine zj0 ?_;intro hb)|refine zs0 ?_|refine zbb ?_ ?_));all_goals (conv=>whnf)
 all_goals first
  | (subst hb;exact Qan rfl rfl)
  | (
    have h:Qsg o=false/\QzF o=false/\Qsh o=false/\QE1 o=false/\QcR o=false/\Qhj o=0:=by
     simp only [Qsg,QzF,Qsh,QcR,QE1,Qhj];refine ⟨?_,?_,?_,?_,?_,?_⟩<;>simp<;>omega
    refine Qan rfl ?_;simp only [Qg5,h]
    rfl)
def QgO (o:Int):Bool:=decide (57<=o/\o<=64)
theorem Qrb (o:Int):FN 54 [.s (.i o)] [] (. =⟨.a (.s (.bool (QgO o))),[],[]⟩):=by
 refine fnW Tryz.func54 ?_;(repeat' ((conv=>whnf);first|exact zi0|(refine zj0 ?_;intro hb)|refine zs0 ?_|refine zbb ?_ ?_));all_goals (conv=>whnf)
 all_goals (refine Qan rfl ?_;simp only [Qbc];congr 3;first|(subst hb;rfl)|(simp only [QgO];simp;omega))
def Qmu (r:Int) (u:Bool):Bool:=match u with
 | true=>decide (0<=r)&&decide (r<=15)
 | false=>r==0
theorem QCt (r:Int) (u:Bool):FN 184 [.s (.i r),.s (.bool u)] [] (. =⟨.a (.s (.bool (Qmu r u))),[],[]⟩):=by
 refine fnW Tryz.func184 ?_;(repeat' ((conv=>whnf);first|exact zi0|(refine zj0 ?_;intro hb)|refine zs0 ?_|refine zbb ?_ ?_));all_goals (conv=>whnf)
 all_goals (refine Qan rfl ?_;simp only [Qbc];congr 3;(try subst hb);simp_all [Qmu];try omega)
def iv (o a b c m:Int):List SV:= [.i o,.i a,.i b,.i c,.int .i32 m]
def QfG (o a b c m:Int):Bool:=QcR o&&Qmu a (Qsg o)&&Qmu b (QzF o)&&Qmu c (Qsh o)&&decide (m>=Qg5 o)&&decide (m<=Qhj o)
theorem QmR (o a b c m:Int):FN 119 [.agg (iv o a b c m)] [] (. =⟨.a (.s (.bool (QfG o a b c m))),[],[]⟩):=by
 refine fnW Tryz.func119 ?_;unfold iv;(repeat' ((conv=>whnf);first|exact zi0|(refine zj0 ?_;intro hb)|(refine Qac (f:=117) (Qwc _) rfl ?_)|(refine Qac (f:=184) (QCt _ _) rfl ?_)|refine zs0 ?_|refine zbb ?_ ?_));all_goals (conv=>whnf)
 all_goals (refine Qan rfl ?_;simp only [Qbc];congr 3;try grind [QfG])
def kz (b:Bool) (x:Int):Int:=if b then x else 0
def dOp (w:Nat):Int:=(w / 2^24%2^8:Nat)
def dA (w:Nat):Int:=(w / 2^20%2^4:Nat)
def dB (w:Nat):Int:=(w / 2^16%2^4:Nat)
def dI (w:Nat):Nat:=w / 2^0%2^16
def dC (w:Nat):Int:=if Qsh (dOp w) then dI w else 0
def sx (x:Nat):Int:=if x<32768 then x else x-65536
def dM (w:Nat):Int:=if Qsh (dOp w) then 0 else if Qg5 (dOp w)<0 then sx (dI w) else dI w
def dOk (w:Nat):Bool:=QcR (dOp w)&&QfG (dOp w) (dA w) (dB w) (dC w) (dM w)
theorem QCP (x:Nat) (hx:x<65536):IntKind.i32.wrap ((QCM x:Nat):Int)=sx x:=by
 unfold IntKind.wrap QCM sx;simp only [IntKind.signed,IntKind.bits,Bool.true_and,zde]
 by_cases h:x<32768
 .rw [zP h,zP h,zN (by simp;omega)];omega
 .rw [zN h,zN h,zP (by simp;omega)];omega
theorem Qpc (w:Nat) (hw:w<4294967296):FN 53 [.s (.u w)] [] (. =⟨.tup [.agg (iv (kz (dOk w) (dOp w)) (kz (dOk w) (dA w)) (kz (dOk w) (dB w)) (kz (dOk w) (dC w)) (kz (dOk w) (dM w))),.s (.bool (dOk w))],[],[]⟩):=by
 refine fnW Tryz.func53 ?_;(repeat' ((conv=>whnf);first|exact zi0|(refine zj0 ?_;intro hb)|(refine Qac (f:=116) (QdJ w 24 8 hw (by omega) (by omega) (by omega)) rfl ?_)|(refine Qac (f:=116) (QdJ w 20 4 hw (by omega) (by omega) (by omega)) rfl ?_)|(refine Qac (f:=116) (QdJ w 16 4 hw (by omega) (by omega) (by omega)) rfl ?_)|(refine Qac (f:=116) (QdJ w 0 16 hw (by omega) (by omega) (by omega)) rfl ?_)|(refine Qac (f:=117) (Qwc _) rfl ?_)|(refine Qac (f:=119) (QmR _ _ _ _ _) rfl ?_)|(refine Qac (f:=118) (Qzx _ (by omega)) rfl ?_)|((with_reducible apply Vl.mk (α:=Int)); . exact QCP _ (by omega))|refine zs0 ?_|refine zbb ?_ ?_));all_goals (conv=>whnf)
 all_goals
  refine Qan rfl ?_
  try have hn:¬ Qg5 ((w / 2^24%2^8:Nat):Int)<0:=by omega
  simp only [Qbc,iv,kz,dOk,dOp,dA,dB,dC,dM,dI,Bool.true_and,zbf,if_true,if_false,Bool.false_eq_true, *]
  first
   | done
   | rfl
def QaU (o:Int):Int :=
 if 1<=o/\o<=13 then 2 else if o=16\/o=23\/32<=o/\o<=36\/40<=o/\o<=45\/o=49 then 3
 else if 17<=o/\o<=19 then 4 else if 20<=o/\o<=22 then 5 else if o=24 then 6 else if o=48 then 7
 else if o=58\/o=59 then 8 else if o=60\/o=61 then 9 else if o=56\/o=57\/62<=o/\o<=64 then 1 else 0
theorem Qqt {c:Prop} [Decidable c] {x y z:Int} (h1:c->x=z) (h2:¬ c->y=z):(if c then x else y)=z:=by
 by_cases h:c
 .rw [zP h];exact h1 h
 .rw [zN h];exact h2 h
theorem Qqb (o:Int):FN 95 [.s (.i o)] [] (. =⟨.a (.s (.i (QaU o))),[],[]⟩):=by
 refine fnW Tryz.func95 ?_;(repeat' ((conv=>whnf);first|exact zi0|(refine zj0 ?_;intro hb)|refine zs0 ?_|refine zbb ?_ ?_));all_goals (conv=>whnf)
 all_goals
  apply Qan
  (focus rfl)
  simp only [Qbc];congr 3;refine Eq.symm ?_;unfold QaU
  repeat' first
   | rfl
   | (apply Qqt<;>intro _)
   | (exfalso;omega)
end Go.Proofs.YtpgkkfajljekpaaGreat
