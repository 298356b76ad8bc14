import Derived.Test.YtflelebfmdggkaaGreatP70
set_option linter.unusedSimpArgs false
set_option linter.unusedVariables false
set_option maxHeartbeats 100000000
set_option maxRecDepth 100000
namespace Go.Proofs.YtflelebfmdggkaaGreat
open Go Go.RowKit
def QbQ (M:Mc):Bool :=
 decide (1≤mpg M.m.length∧M.x.getD 0 0=0∧M.c.getD 0 0≤31∧M.c.getD 7 0≤31∧M.c.getD 6 0≤255∧M.c.getD 1 0%4=0∧Qc4 M.ks=true∧Qd0 M.ta M.td M.tf=true∧QbO M.d (mpg M.m.length:Nat)=true∧Qb7 M.n (mpg M.m.length:Nat)=true∧Qb0 M.bg (mpg M.m.length:Nat)=true∧M.ct≤1152921504606846976∧¬ (M.wt=true∧M.ht=true))
theorem Qok (M:Mc) (hM:M.ok):FN 34 [.agg (M.C 0)] [⟨false,1,wsv M.m⟩] (· =⟨.a (.s (.bool (QbQ M))),[],[]⟩):=by
 have hp:=Qck M.m _ (by have:=hM.ml;omega:M.m.length<4294967296);have q1:=QnK M.ks;have q2:=QnG M.ta M.td M.tf;have q3:=QnP M.d hM.dk (mpg M.m.length:Nat);have q4:=QnV M.n hM.nk (mpg M.m.length:Nat);have q5:=QnN M.bt M.bg hM.dv.2.2.1 (mpg M.m.length:Nat);have gL:=Qaa M.m;have zS:=QaU M.m.length;obtain ⟨B,hB⟩:∃ B,QbQ M=B:=⟨_,rfl⟩;rw [hB];unfold QbQ at hB;generalize Qc4 M.ks=b1,Qd0 M.ta M.td M.tf=b2,QbO M.d (mpg M.m.length:Nat)=b3,Qb7 M.n (mpg M.m.length:Nat)=b4,Qb0 M.bg (mpg M.m.length:Nat)=b5 at *;have h1:=Qab hM.cr 1;obtain ⟨hx,hc,hY,gA,_,gB,_,gE,gD,gF⟩:=hM;obtain ⟨_,_,_,m,ks,ta,td,tf,d,n,bt,bg⟩:=M;dsimp only at *;obtain ⟨_,_,_,_,_,_,_,_,_,_,_,_,_,_,_,_,rfl⟩:=Qav hx;obtain ⟨_,c1,_,_,_,_,_,_,rfl⟩:=QaM hc;cases d;cases n;dsimp only [Mc.C,Mc.D,Dk.C,Nk.C,Dk.ok,Nk.ok] at *;generalize mpg m.length=P at *;generalize m.length=nn,wsv m=XX at *;simp only [List.getD_cons_zero,List.getD_cons_succ] at hB h1;have m1:Int.tmod (c1:Int) 4=((c1%4:Nat):Int):=QuW;have qQ:=gF.2.2.2.1;clear hY gA gE gD gB gF;generalize c1%4=c14 at *;refine fnW Tryz.func34 ?_;(repeat' ((conv=>whnf);first|exact zi2|(refine zj0 ?_;intro hb)|(with_reducible refine zv m1 ?_)|(refine QaD hp ?_)|(refine zpu q1 ?_)|(refine zpu q2 ?_)|(refine zpu q3 ?_)|(refine zpu q4 ?_)|(refine zpu q5 ?_)|refine zse ?_|refine zbb ?_ ?_));all_goals (conv=>whnf)
 all_goals first
  | (refine QcP ?_ ?_;(focus (exact Qb8));rw [← hB];symm;first|exact decide_eq_false (by omega)|(rw [Bool.eq_iff_iff];simp;done)|(rw [Bool.eq_iff_iff];simp;omega)|(rw [Bool.eq_iff_iff];simp;grind))
def Qcv (M:Mc):Bool:= !QbQ M||M.ht||QkV M||decide (1152921504606846976≤M.ct)
theorem QcS (M:Mc) (hM:M.ok):FN 20 [.agg (M.C 0)] [⟨false,1,wsv M.m⟩] (· =⟨.a (.s (.bool (Qcv M))),[],[]⟩):=by
 have hm:=Qok M hM;have hi:=QlP M hM;have gL:=Qaa M.m;obtain ⟨B,hB⟩:∃ B,Qcv M=B:=⟨_,rfl⟩;rw [hB];unfold Qcv at hB;generalize QbQ M=b1,QkV M=b2 at *;obtain ⟨hx,hc,hY,gA,_,gB,_,gE,gD,gF⟩:=hM;obtain ⟨_,_,_,m,_,_,_,_,d,n⟩:=M;dsimp only at *;obtain ⟨_,_,_,_,_,_,_,_,_,_,_,_,_,_,_,_,rfl⟩:=Qav hx;obtain ⟨_,_,_,_,_,_,_,_,rfl⟩:=QaM hc;cases d;cases n;dsimp only [Mc.C,Mc.D,Dk.C,Nk.C,Dk.ok,Nk.ok] at *;generalize m.length=nn,wsv m=XX at *;have qQ:=gF.2.2.2.1;clear hY gA gE gD gB gF;refine fnW Tryz.func20 ?_;exact QAF
def QFh (l:Nat):Nat:=if l%2=1 then 0 else if l / 2%2=1 then 1 else if l / 4%2=1 then 2 else if l / 8%2=1 then 3 else 4
theorem Qpj (l j:Nat) (hj:j<5) (h0:∀ i,i<j→l / 2^i%2=0) (h1:l / 2^j%2=1):QFh l=j:=by
 have e:j=0∨j=1∨j=2∨j=3∨j=4:=by omega
 unfold QFh;rcases e with rfl|rfl|rfl|rfl|rfl
 ·rw [zP (by simpa using h1)]
 ·have a:=h0 0 (by omega)
  rw [zN (by simp at a;omega),zP (by simpa using h1)]
 ·have a:=h0 0 (by omega)
  have b:=h0 1 (by omega);rw [zN (by simp at a;omega),zN (by simp at b;omega),zP (by simpa using h1)]
 ·have a:=h0 0 (by omega)
  have b:=h0 1 (by omega);have d:=h0 2 (by omega);rw [zN (by simp at a;omega),zN (by simp at b;omega),zN (by simp at d;omega),zP (by simpa using h1)]
 ·have a:=h0 0 (by omega)
  have b:=h0 1 (by omega);have d:=h0 2 (by omega);have e:=h0 3 (by omega);rw [zN (by simp at a;omega),zN (by simp at b;omega),zN (by simp at d;omega),zN (by simp at e;omega)]
theorem QA0 (l:Nat) (hl:l<32) (h:∀ i,i<5→l / 2^i%2=0):l=0:=by
 have a:=h 0 (by omega);have b:=h 1 (by omega);have c:=h 2 (by omega);have d:=h 3 (by omega);have e:=h 4 (by omega);simp at a b c d e;omega
theorem Qj3 (b:Bool) (k:Nat) (hk:k<5):lnN b k<32:=by
 unfold lnN;split
 ·exact Nat.lt_of_lt_of_le (Nat.pow_lt_pow_right (by omega:1<2) hk) (by decide)
 ·decide
theorem Qo0 (M:Mc):Qiz M<32:=by
 unfold Qiz Qft;exact Nat.lt_of_le_of_lt Nat.and_le_left (or5 (or5 (or5 (or5 (Qj3 _ 0 (by decide)) (Qj3 _ 1 (by decide))) (Qj3 _ 2 (by decide))) (Qj3 _ 3 (by decide))) (Qj3 _ 4 (by decide)))
theorem Qhc (a:Nat) (ha:a<4294967296):bits .and .u32 (a:Int) 2=((a / 2%2*2:Nat):Int):=by
 rw [show ((2:Int))=((2:Nat):Int) from rfl,QcI a 2 ha (by omega)];obtain ⟨h,l,hl,rfl⟩:=Qhk a;rw [Qgi h l 2 hl (by decide)];have e:∀ l:Nat,l<32→l &&& 2=l / 2%2*2:=by decide
 rw [e l hl];congr 1;omega
def QcV (M:Mc):Bool:=decide (M.c.getD 0 0 / 2%2=1∧Qiz M≠0)
def Qdd (M:Mc):Nat:=if QcV M=true then M.c.getD 1 0 else M.pc
def Qda (M:Mc):List Nat:=if QcV M=true then trL M.pc M.c (16+(QFh (Qiz M):Nat)) 0 else M.c
theorem Qbw (M:Mc) (hM:M.ok):(Qda M).length=8:=by unfold Qda;split;rfl;exact hM.c
theorem Qel (M:Mc) (hM:M.ok):∀ y∈Qda M,y<4294967296:=by
 unfold Qda;split
 ·exact Qgu hM.cr _ hM.pr _ _ (by decide)
 ·exact hM.cr
theorem Qd2 (M:Mc) (hM:M.ok):Qdd M<4294967296:=by
 unfold Qdd;split
 ·exact Qab hM.cr 1
 ·exact hM.pr
def QtQ (E j:Nat) (MC ZC XX:List SV):St :=
 ⟨[(1,.a (.s (.ptr 1 0))),(2,.a (.s (.ptr 2 0))),(3,.a (.s (.u E))),(4,.a (.s (.i j)))],[(0,some ⟨false,1,XX⟩),(1,some ⟨true,1,MC⟩),(2,some ⟨true,1,ZC⟩)],[0]⟩
theorem QjL (M:Mc) (hM:M.ok):FN 47 [.agg (M.C 0)] [⟨false,1,wsv M.m⟩] (· =⟨.a (.agg (Qay M.x (Qdd M) (Qda M))),[],[]⟩):=by
 have he:=Qga M hM;have hE:=Qo0 M;have gL:=Qaa M.m;have b2:=Qhc (M.c.getD 0 0) (Qab hM.cr 0);unfold Qdd Qda QcV;generalize Qiz M=E at *;obtain ⟨hx,hc,hY,gA,_,gB,gI,gE,gD,gF⟩:=hM;obtain ⟨x,pc,c,m,ks,ta,td,tf,d,n,bt,bg,ct,wt,ht⟩:=M;dsimp only at *;obtain ⟨x0,x1,x2,x3,x4,x5,x6,x7,x8,x9,x10,x11,x12,x13,x14,x15,rfl⟩:=Qav hx;obtain ⟨c0,c1,c2,c3,c4,c5,c6,c7,rfl⟩:=QaM hc;obtain ⟨d0,d1,d2,d3,d4,d5,d6,d7⟩:=d;obtain ⟨n0,n1,n2,n3,n4,n5⟩:=n;dsimp only [Mc.C,Mc.D,Dk.C,Nk.C,Dk.ok,Nk.ok] at *;generalize m.length=nn,wsv m=XX at *;simp only [List.getD_cons_zero,List.getD_cons_succ] at b2 ⊢;have h2:c0 / 2%2<2:=Nat.mod_lt _ (by decide);generalize c0 / 2%2=s2 at *;clear hY gE gD gB gF gI
 by_cases hi:s2=1∧E≠0
 case neg =>
  rw [decide_eq_false hi,zN (by decide),zN (by decide)];have e:s2=0∨s2=1:=by omega
  rcases e with rfl|rfl
  ·replace b2:bits .and .u32 (c0:Int) 2=0:=b2
   refine fnW Tryz.func47 ?_;exact QDT
  ·obtain rfl:E=0:=by omega
   replace b2:bits .and .u32 (c0:Int) 2=2:=b2;refine fnW Tryz.func47 ?_;exact QDT
 obtain ⟨rfl,HA⟩:=hi;rw [decide_eq_true ⟨rfl,HA⟩,zP rfl,zP rfl];replace b2:bits .and .u32 (c0:Int) 2=2:=b2;refine fnW Tryz.func47 ?_;(repeat' ((conv=>whnf);first|exact zi2|(refine zj0 ?_;intro hb)|(with_reducible refine zv b2 ?_)|(refine QaD he ?_)|refine zse ?_|refine zbb ?_ ?_));all_goals (conv=>whnf)
 all_goals first|(exfalso;have hb2:=eq_of_beq hb;omega)|skip
 refine Lp.inv (fun mm σ=>∃ j:Nat,mm+j=5∧(∀ i,i<j→E / 2^i%2=0)∧σ=QtQ E j [.u x0,.u x1,.u x2,.u x3,.u x4,.u x5,.u x6,.u x7,.u x8,.u x9,.u x10,.u x11,.u x12,.u x13,.u x14,.u x15,.u pc,.u c0,.u c1,.u c2,.u c3,.u c4,.u c5,.u c6,.u c7,.sl 0 0 nn,.str ks,.bool ta,.u td,.bool tf,.u d0,.u d1,.u d2,.i d3,.i d4,.u d5,.u d6,.str d7,.u n0,.u n1,.bool n2,.u n3,.bool n4,.u n5,.u bt,.u bg,.w ct,.bool wt,.bool ht] (List.replicate 25 (.u 0)) XX) ?_ ?_
 ·refine ⟨5,QtQ E 0 [.u x0,.u x1,.u x2,.u x3,.u x4,.u x5,.u x6,.u x7,.u x8,.u x9,.u x10,.u x11,.u x12,.u x13,.u x14,.u x15,.u pc,.u c0,.u c1,.u c2,.u c3,.u c4,.u c5,.u c6,.u c7,.sl 0 0 nn,.str ks,.bool ta,.u td,.bool tf,.u d0,.u d1,.u d2,.i d3,.i d4,.u d5,.u d6,.str d7,.u n0,.u n1,.bool n2,.u n3,.bool n4,.u n5,.u bt,.u bg,.w ct,.bool wt,.bool ht] (List.replicate 25 (.u 0)) XX,?_,0,by omega,fun i h=>by omega,rfl⟩
  (exact zwL [(0,some 0),(1,some _),(2,some _)])
 rintro mm σ ⟨j,yP,fE,rfl⟩;unfold QtQ
 have hj5:j<5:=by
  rcases Nat.lt_or_ge j 5 with h|h
  ·exact h
  ·exact absurd (QA0 E hE (fun i hi=>fE i (by omega))) HA
 have s1:=Qnd E j (by omega);have s2:=Qj4 (E / 2^j) (Nat.lt_of_le_of_lt (Nat.div_le_self _ _) (by omega));have q2:IntKind.i64.wrap ((j:Int)+1)=((j+1:Nat):Int):=QbP;have hb2:E / 2^j%2<2:=Nat.mod_lt _ (by decide);obtain ⟨Z25,hZ⟩:∃ Z,List.replicate 25 (SV.int .u32 0)=Z:=⟨_,rfl⟩
 by_cases yF:E / 2^j%2=1
 ·have qJ:=Qpj E j hj5 fE yF
  rw [qJ];have fW:=Qc0 [x0,x1,x2,x3,x4,x5,x6,x7,x8,x9,x10,x11,x12,x13,x14,x15] pc [c0,c1,c2,c3,c4,c5,c6,c7] (16+(j:Int)) 0 rfl rfl gA;rw [Qbo] at fW;change Fn _ _ _ _ (· =⟨.a (.agg (Qay _ c1 _)),[],[]⟩) at fW;rw [yF] at s2;generalize w32 (16+(j:Int))=kk,E / 2^j=Ej at *;clear fE qJ hE;(repeat' ((conv=>whnf);first|exact zi2|(refine zj0 ?_;intro hb)|refine QFU ?_|(refine zpu fW ?_)|refine zse ?_|refine zbb ?_ ?_))
  all_goals exact QfL
 ·have yQ:E / 2^j%2=0:=by omega
  have vM:∀ i,i<j+1→E / 2^i%2=0:=fun i hi=>by
   by_cases e:i=j
   ·subst e;exact yQ
   ·exact fE i (by omega)
  rw [yQ] at s2;generalize E / 2^j=Ej at *;(repeat' ((conv=>whnf);first|exact zi2|(refine zj0 ?_;intro hb)|(with_reducible first|refine zv s1 ?_|refine zv s2 ?_|refine zv q2 ?_)|refine zse ?_|refine zbb ?_ ?_));all_goals (conv=>whnf)
  all_goals first
   | (exfalso;omega)
   | (exfalso;simp at hb;done)
   | (
     refine ⟨mm-1,_,by omega,?_,j+1,by omega,vM,rfl⟩
     try unfold QtQ
     (exact zwL [(0,some 0),(1,some 1),(2,some 2)]))
def QmV (f:Bool):Nat:=if f=true then 1 else 0
theorem Qoz (a:Bool) (d:Nat) (f:Bool):FN 96 [.agg [.bool a,.u d,.bool f]] [] (· =⟨.a (.s (.u (QmV f:Nat))),[],[]⟩):=by
 cases f
 all_goals
  refine fnW Tryz.func96 ?_;exact QKi
def Qg8 (d:Dk) (p:Int):Nat:=if p=4 then d.bl else if p=5 then d.fr else if p=6 then w32 d.st else 0
theorem QpU (d:Dk) (p:Int):FN 97 [.agg d.C,.s (.i p)] [] (· =⟨.a (.s (.u (Qg8 d p:Nat))),[],[]⟩):=by
 have qs:=Qat d.st;obtain ⟨B,hB⟩:∃ B,Qg8 d p=B:=⟨_,rfl⟩;rw [hB];unfold Qg8 at hB;obtain ⟨_,_,_,st⟩:=d;dsimp only [Dk.C] at *;generalize w32 st=ws at *
 by_cases h4:p=4
 ·rw [zP h4] at hB
  subst h4 hB;refine fnW Tryz.func97 ?_;exact QKf
 rw [zN h4] at hB
 by_cases h5:p=5
 ·rw [zP h5] at hB
  subst h5 hB;refine fnW Tryz.func97 ?_;exact QKf
 rw [zN h5] at hB
 by_cases h6:p=6
 ·rw [zP h6] at hB
  subst h6 hB;refine fnW Tryz.func97 ?_;exact QCo
 rw [zN h6] at hB;subst hB;refine fnW Tryz.func97 ?_;exact QnI
def QgZ (n:Nk) (p:Int):Nat:=if p=7 then n.fr else if p=8 then n.go_ else if p=9 then (if n.po=true then 1 else 0)+(if n.re=true then 2 else 0) else 0
theorem QrF (n:Nk) (p:Int):FN 98 [.agg n.C,.s (.i p)] [] (· =⟨.a (.s (.u (QgZ n p:Nat))),[],[]⟩):=by
 obtain ⟨B,hB⟩:∃ B,QgZ n p=B:=⟨_,rfl⟩;rw [hB];unfold QgZ at hB;obtain ⟨_,_,po,_,re⟩:=n;dsimp only [Nk.C] at *
 by_cases h4:p=7
 ·rw [zP h4] at hB
  subst h4 hB;refine fnW Tryz.func98 ?_;exact QKf
 rw [zN h4] at hB
 by_cases h5:p=8
 ·rw [zP h5] at hB
  subst h5 hB;refine fnW Tryz.func98 ?_;exact QKf
 rw [zN h5] at hB
 by_cases h6:p=9
 ·rw [zP h6] at hB
  subst h6 hB;cases po<;>cases re
  all_goals
   refine fnW Tryz.func98 ?_;exact QKf
 rw [zN h6] at hB;subst hB;refine fnW Tryz.func98 ?_;exact QnI
def QgO (bt bg:Nat) (p:Int):Nat:=if p=10 then bt else if p=11 then QbL bg 32 else 0
theorem QqJ (bt bg:Nat) (h2:bg<4294967296) (p:Int):FN 99 [.agg [.u bt,.u bg],.s (.i p)] [] (· =⟨.a (.s (.u (QgO bt bg p:Nat))),[],[]⟩):=by
 have hg:=Qjy bt bg h2;have vF:=Qb6 bg 32;obtain ⟨B,hB⟩:∃ B,QgO bt bg p=B:=⟨_,rfl⟩;rw [hB];unfold QgO at hB;generalize QbL bg 32=P at *
 by_cases h4:p=10
 ·rw [zP h4] at hB
  subst h4 hB;refine fnW Tryz.func99 ?_;exact Qn2
 rw [zN h4] at hB
 by_cases h5:p=11
 ·rw [zP h5] at hB
  subst h5 hB;refine fnW Tryz.func99 ?_;exact Qn2
 rw [zN h5] at hB;subst hB;refine fnW Tryz.func99 ?_;exact QD0
def Qll (k:ByteArray) (p:Int):ByteArray:=if p=0 then (if k.size=0 then k else k.extract 1 k.size) else k
def Qoc (k:ByteArray) (p:Int):Nat:=if p=0 then (match k[0]? with|some b=>b.toNat|none=>4294967295) else if p=1 then k.size else 0
theorem Qqw (k:ByteArray) (hk:k.size≤1000000) (p:Int):FN 95 [.agg [.str k],.s (.i p)] [] (· =⟨.tup [.agg [.str (Qll k p)],.s (.u (Qoc k p:Nat))],[],[]⟩):=by
 obtain ⟨A,hA⟩:∃ B,Qll k p=B:=⟨_,rfl⟩;obtain ⟨B,hB⟩:∃ B,Qoc k p=B:=⟨_,rfl⟩;rw [hA,hB];unfold Qll at hA;unfold Qoc at hB
 by_cases h4:p=0
 ·rw [zP h4] at hA hB
  subst h4
  by_cases h0:k.size=0
  ·rw [zP h0] at hA
   have hn:k[0]?=none:=by simp [h0]
   rw [hn] at hB;subst hA hB;dsimp only;refine fnW Tryz.func95 ?_;exact QKf
  ·rw [zN h0] at hA
   have hn:k[0]?=some k[0]:=by simp
   rw [hn] at hB;have gT:=UInt8.toNat_lt k[0];generalize k[0]=b at *;subst hA hB;dsimp only;refine fnW Tryz.func95 ?_;(repeat' ((conv=>whnf);first|exact zi2|(refine zj0 ?_;intro hb)|((with_reducible apply Ge.mk (α:=UInt8)); · exact hn)|refine zse ?_|refine zbb ?_ ?_))
   all_goals exact zF_
 rw [zN h4] at hA hB
 by_cases h5:p=1
 ·rw [zP h5] at hB
  subst h5 hA hB;refine fnW Tryz.func95 ?_;exact QKf
 rw [zN h5] at hB;subst hA hB;refine fnW Tryz.func95 ?_;exact QnI
def QbG (n f:Nat):Bool:=decide ((f:Int)<(mpg n:Nat))
theorem QfT (xs:List Nat) (n:Nat) (hl:xs.length=n) (hn:n<4294967296) (f:Nat) (hf:f<4294967296):FN 128 [.s (.sl 0 0 n),.s (.u f)] [⟨false,1,wsv xs⟩] (· =⟨.a (.s (.bool (QbG n f))),[],[]⟩):=by
 have hp:=Qck xs n (by omega);have gL:=Qaa xs;have zS:=QaU n;unfold QbG;generalize mpg n=P,wsv xs=XX at *;have c1:IntKind.u64.wrap (P:Int)=P:=QjD;have c2:IntKind.u64.wrap (f:Int)=f:=QjD;refine fnW Tryz.func128 ?_;exact Qzk
def QzS (d:Nat):List SV:=if (d:Int)=0 then [.bool false,.u 0,.bool false] else [.bool true,.u d,.bool false]
theorem QzH (d:Nat):FN 100 [.s (.u d)] [] (· =⟨.a (.agg (QzS d)),[],[]⟩):=by
 unfold QzS
 by_cases h:(d:Int)=0
 ·rw [zP h]
  refine fnW Tryz.func100 ?_;exact QKi
 ·rw [zN h]
  refine fnW Tryz.func100 ?_;exact QKi
def QnQ (d:Dk) (c:Nat):List SV:=if d.st=1 then (if d.cmd=1 then [.i 3,.w c,.u d.ob,.str ⟨#[]⟩] else if d.cmd=2 then [.i 4,.w c,.u d.ob,.str d.od] else [.i 0,.w 0,.u 0,.str ⟨#[]⟩]) else [.i 0,.w 0,.u 0,.str ⟨#[]⟩]
def QvF (d:Dk):Bool:=decide (d.st=1∧(d.cmd=1∨d.cmd=2))
theorem Qk9 (d:Dk) (c:Nat):FN 170 [.agg d.C,.s (.w c)] [] (· =⟨.tup [.agg (QnQ d c),.s (.bool (QvF d))],[],[]⟩):=by
 obtain ⟨O,hO⟩:∃ B,QnQ d c=B:=⟨_,rfl⟩;obtain ⟨B,hB⟩:∃ B,QvF d=B:=⟨_,rfl⟩;rw [hO,hB];unfold QnQ at hO;unfold QvF at hB;obtain ⟨_,_,_,st,cmd⟩:=d;dsimp only [Dk.C] at *
 by_cases h1:st=1
 ·rw [zP h1] at hO
  by_cases h2:cmd=1
  ·rw [zP h2] at hO
   rw [decide_eq_true (by omega)] at hB;subst hO hB h1 h2;refine fnW Tryz.func170 ?_;exact QCk
  rw [zN h2] at hO
  by_cases h3:cmd=2
  ·rw [zP h3] at hO
   rw [decide_eq_true (by omega)] at hB;subst hO hB h1 h3;refine fnW Tryz.func170 ?_;exact QCk
  rw [zN h3] at hO;rw [decide_eq_false (by omega)] at hB;subst hO hB h1;refine fnW Tryz.func170 ?_;exact QCk
 rw [zN h1] at hO;rw [decide_eq_false (by omega)] at hB;subst hO hB;refine fnW Tryz.func170 ?_;exact QDw
end Go.Proofs.YtflelebfmdggkaaGreat
