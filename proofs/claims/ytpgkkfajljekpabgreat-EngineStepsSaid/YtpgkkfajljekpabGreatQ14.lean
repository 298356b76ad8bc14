import Derived.Test.YtpgkkfajljekpabGreatQ13
set_option linter.unusedSimpArgs false
set_option linter.unusedVariables false
set_option maxHeartbeats 0
set_option maxRecDepth 100000
namespace Go.Proofs.YtpgkkfajljekpabGreat
open Go Go.RowKit
def Qbg (M:Mc):Bool :=
 decide (1<=mpg M.m.length/\M.x.getD 0 0=0/\M.c.getD 0 0<=31/\M.c.getD 7 0<=31/\M.c.getD 6 0<=255/\M.c.getD 1 0%4=0/\Qb7 M.ks=true/\Qd7 M.ta M.td M.tf=true/\QbP M.d (mpg M.m.length:Nat)=true/\Qb8 M.n (mpg M.m.length:Nat)=true/\QbZ M.bg (mpg M.m.length:Nat)=true/\M.ct<=1152921504606846976/\¬ (M.wt=true/\M.ht=true))
theorem Qlx (M:Mc) (hM:M.ok):FN 37 [.agg (M.C 0)] [⟨false,1,wsv M.m⟩] (. =⟨.a (.s (.bool (Qbg M))),[],[]⟩):=by
 have hp:=Qck M.m _ (by have:=hM.ml;omega:M.m.length<4294967296);have q1:=QnF M.ks;have q2:=QnS M.ta M.td M.tf;have q3:=QnH M.d hM.dk (mpg M.m.length:Nat);have q4:=QnQ M.n hM.nk (mpg M.m.length:Nat);have q5:=QnE M.bt M.bg hM.dv.2.2.1 (mpg M.m.length:Nat);have gL:=Qaa M.m;have uF:=QaT M.m.length;obtain ⟨B,hB⟩:∃ B,Qbg M=B:=⟨_,rfl⟩;rw [hB];unfold Qbg at hB;generalize Qb7 M.ks=b1,Qd7 M.ta M.td M.tf=b2,QbP M.d (mpg M.m.length:Nat)=b3,Qb8 M.n (mpg M.m.length:Nat)=b4,QbZ M.bg (mpg M.m.length:Nat)=b5 at *;have h1:=Qab hM.cr 1;obtain ⟨hx,hc,hY,gA,_,gB,_,gE,gD,gG⟩:=hM;obtain ⟨_,_,_,m,ks,ta,td,tf,d,n,bt,bg⟩:=M;dsimp only at *;cases QaJ hx;obtain ⟨_,c1,_,_,_,_,_,_,rfl⟩:=QfC hc;cases d;cases n;dsimp only [Mc.C,Mc.D,Dk.C,Nk.C,Dk.ok,Nk.ok] at *;generalize mpg m.length=P at *;generalize m.length=nn,wsv m=XX at *;simp only [List.getD_cons_zero,List.getD_cons_succ] at hB h1;have m1:Int.tmod (c1:Int) 4=((c1%4:Nat):Int):=Qvg;have fM:=gG.2.2.2.1;clear hY gA gE gD gB gG;generalize c1%4=c14 at *;refine fnW Tryz.func37 ?_;(conv=>whnf);(repeat' ((first|exact zi2|refine zj0 fun hb=>?_|(with_reducible refine zv m1 ?_)|(refine QaA hp ?_)|(refine zpu q1 ?_)|(refine zpu q2 ?_)|(refine zpu q3 ?_)|(refine zpu q4 ?_)|(refine zpu q5 ?_)|refine zse ?_|refine zbb ?_ ?_)<;>conv=>whnf))
 all_goals first
  | (refine QcJ ?_ ?_;(focus (exact Qb9));rw [<- hB];symm;first|exact zdf (by omega)|(rw [zbi];simp;done)|(rw [zbi];simp;omega)|(rw [zbi];simp;grind))
def Qb3 (M:Mc):Bool:= !Qbg M||M.ht||Qhk M||decide (1152921504606846976<=M.ct)
theorem QcW (M:Mc) (hM:M.ok):FN 24 [.agg (M.C 0)] [⟨false,1,wsv M.m⟩] (. =⟨.a (.s (.bool (Qb3 M))),[],[]⟩):=by
 have hm:=Qlx M hM;have hi:=QmL M hM;have gL:=Qaa M.m;obtain ⟨B,hB⟩:∃ B,Qb3 M=B:=⟨_,rfl⟩;rw [hB];unfold Qb3 at hB;generalize Qbg M=b1,Qhk M=b2 at *;obtain ⟨hx,hc,hY,gA,_,gB,_,gE,gD,gG⟩:=hM;obtain ⟨_,_,_,m,_,_,_,_,d,n⟩:=M;dsimp only at *;cases QaJ hx;cases zC8 hc;cases d;cases n;dsimp only [Mc.C,Mc.D,Dk.C,Nk.C,Dk.ok,Nk.ok] at *;generalize m.length=nn,wsv m=XX at *;have fM:=gG.2.2.2.1;clear hY gA gE gD gB gG;refine fnW Tryz.func24 ?_;exact QDL
def QGg (l:Nat):Nat:=if l%2=1 then 0 else if l / 2%2=1 then 1 else if l / 4%2=1 then 2 else if l / 8%2=1 then 3 else 4
theorem QqM (l j:Nat) (hj:j<5) (h0:∀ i,i<j->l / 2^i%2=0) (h1:l / 2^j%2=1):QGg l=j:=by
 have e:j=0\/j=1\/j=2\/j=3\/j=4:=by omega
 unfold QGg;rcases e with rfl|rfl|rfl|rfl|rfl
 .rw [zP (by simpa using h1)]
 .have a:=h0 0 (by omega)
  rw [zN (by simp at a;omega),zP (by simpa using h1)]
 .have a:=h0 0 (by omega)
  have b:=h0 1 (by omega);rw [zN (by simp at a;omega),zN (by simp at b;omega),zP (by simpa using h1)]
 .have a:=h0 0 (by omega)
  have b:=h0 1 (by omega);have d:=h0 2 (by omega);rw [zN (by simp at a;omega),zN (by simp at b;omega),zN (by simp at d;omega),zP (by simpa using h1)]
 .have a:=h0 0 (by omega)
  have b:=h0 1 (by omega);have d:=h0 2 (by omega);have e:=h0 3 (by omega);rw [zN (by simp at a;omega),zN (by simp at b;omega),zN (by simp at d;omega),zN (by simp at e;omega)]
theorem QBc (l:Nat) (hl:l<32) (h:∀ i,i<5->l / 2^i%2=0):l=0:=by
 have a:=h 0 (by omega);have b:=h 1 (by omega);have c:=h 2 (by omega);have d:=h 3 (by omega);have e:=h 4 (by omega);simp at a b c d e;omega
theorem QjD (b:Bool) (k:Nat) (hk:k<5):lnN b k<32:=by
 unfold lnN;split
 .exact Nat.lt_of_lt_of_le (Nat.pow_lt_pow_right (by omega:1<2) hk) (by decide)
 .decide
theorem Qpx (M:Mc):QiX M<32:=by
 unfold QiX QfD;exact Nat.lt_of_le_of_lt Nat.and_le_left (or5 (or5 (or5 (or5 (QjD _ 0 (by decide)) (QjD _ 1 (by decide))) (QjD _ 2 (by decide))) (QjD _ 3 (by decide))) (QjD _ 4 (by decide)))
theorem Qhv (a:Nat) (ha:ZU a):bits .and .u32 (a:Int) 2=((a / 2%2*2:Nat):Int):=by
 rw [show ((2:Int))=((2:Nat):Int) from rfl,QcF a 2 ha (by omega)];obtain ⟨h,l,hl,rfl⟩:=QhR a;rw [QgM h l 2 hl (by decide)];have e:∀ l:Nat,l<32->l &&& 2=l / 2%2*2:=by decide
 rw [e l hl];congr 1;omega
def QcY (M:Mc):Bool:=decide (M.c.getD 0 0 / 2%2=1/\QiX M≠0)
def Qde (M:Mc):Nat:=if QcY M=true then M.c.getD 1 0 else M.pc
def Qdd (M:Mc):List Nat:=if QcY M=true then trL M.pc M.c (16+(QGg (QiX M):Nat)) 0 else M.c
theorem Qbw (M:Mc) (hM:M.ok):(Qdd M).length=8:=by unfold Qdd;split;rfl;exact hM.c
theorem Qej (M:Mc) (hM:M.ok):∀ y∈Qdd M,y<4294967296:=by
 unfold Qdd;split
 .exact Qg8 hM.cr _ hM.pr _ _ (by decide)
 .exact hM.cr
theorem Qek (M:Mc) (hM:M.ok):Qde M<4294967296:=by
 unfold Qde;split
 .exact Qab hM.cr 1
 .exact hM.pr
def QtZ (E j:Nat) (MC ZC XX:List SV):St :=
 ⟨[(1,.a (.s (.ptr 1 0))),(2,.a (.s (.ptr 2 0))),(3,.a (.s (.u E))),(4,.a (.s (.i j)))],[(0,some ⟨false,1,XX⟩),(1,some ⟨true,1,MC⟩),(2,some ⟨true,1,ZC⟩)],[0]⟩
theorem QjZ (M:Mc) (hM:M.ok):FN 53 [.agg (M.C 0)] [⟨false,1,wsv M.m⟩] (. =⟨.a (.agg (Qay M.x (Qde M) (Qdd M))),[],[]⟩):=by
 have he:=QgX M hM;have hE:=Qpx M;have gL:=Qaa M.m;have b2:=Qhv (M.c.getD 0 0) (Qab hM.cr 0);unfold Qde Qdd QcY;generalize QiX M=E at *;obtain ⟨hx,hc,hY,gA,_,gB,gI,gE,gD,gG⟩:=hM;obtain ⟨x,pc,c,m,ks,ta,td,tf,d,n,bt,bg,ct,wt,ht⟩:=M;dsimp only at *;obtain ⟨x0,x1,x2,x3,x4,x5,x6,x7,x8,x9,x10,x11,x12,x13,x14,x15,rfl⟩:=Qem hx;obtain ⟨c0,c1,c2,c3,c4,c5,c6,c7,rfl⟩:=QfC hc;obtain ⟨d0,d1,d2,d3,d4,d5,d6,d7⟩:=d;obtain ⟨n0,n1,n2,n3,n4,n5⟩:=n;dsimp only [Mc.C,Mc.D,Dk.C,Nk.C,Dk.ok,Nk.ok] at *;generalize m.length=nn,wsv m=XX at *;simp only [List.getD_cons_zero,List.getD_cons_succ] at b2 |-;have h2:c0 / 2%2<2:=Nat.mod_lt _ (by decide);generalize c0 / 2%2=s2 at *;clear hY gE gD gB gG gI
 by_cases hi:s2=1/\E≠0
 case neg =>
  rw [zdf hi,zN (by decide),zN (by decide)];have e:s2=0\/s2=1:=by omega
  rcases e with rfl|rfl
  .replace b2:bits .and .u32 (c0:Int) 2=0:=b2
   refine fnW Tryz.func53 ?_;exact QEo
  .obtain rfl:E=0:=by omega
   replace b2:bits .and .u32 (c0:Int) 2=2:=b2;refine fnW Tryz.func53 ?_;exact QEo
 obtain ⟨rfl,zV⟩:=hi;rw [zdt ⟨rfl,zV⟩,zP rfl,zP rfl];replace b2:bits .and .u32 (c0:Int) 2=2:=b2;refine fnW Tryz.func53 ?_;(conv=>whnf);(repeat' ((first|exact zi2|refine zj0 fun hb=>?_|(with_reducible refine zv b2 ?_)|(refine QaA he ?_)|refine zse ?_|refine zbb ?_ ?_)<;>conv=>whnf))
 all_goals first|(exfalso;have hb2:=eq_of_beq hb;omega)|skip
 refine Lp.inv (fun mm σ=>∃ j:Nat,mm+j=5/\(∀ i,i<j->E / 2^i%2=0)/\σ=QtZ E j [.u x0,.u x1,.u x2,.u x3,.u x4,.u x5,.u x6,.u x7,.u x8,.u x9,.u x10,.u x11,.u x12,.u x13,.u x14,.u x15,.u pc,.u c0,.u c1,.u c2,.u c3,.u c4,.u c5,.u c6,.u c7,.sl 0 0 nn,.str ks,.bool ta,.u td,.bool tf,.u d0,.u d1,.u d2,.i d3,.i d4,.u d5,.u d6,.str d7,.u n0,.u n1,.bool n2,.u n3,.bool n4,.u n5,.u bt,.u bg,.w ct,.bool wt,.bool ht] (List.replicate 25 (.u 0)) XX) ?_ ?_
 .refine ⟨5,QtZ E 0 [.u x0,.u x1,.u x2,.u x3,.u x4,.u x5,.u x6,.u x7,.u x8,.u x9,.u x10,.u x11,.u x12,.u x13,.u x14,.u x15,.u pc,.u c0,.u c1,.u c2,.u c3,.u c4,.u c5,.u c6,.u c7,.sl 0 0 nn,.str ks,.bool ta,.u td,.bool tf,.u d0,.u d1,.u d2,.i d3,.i d4,.u d5,.u d6,.str d7,.u n0,.u n1,.bool n2,.u n3,.bool n4,.u n5,.u bt,.u bg,.w ct,.bool wt,.bool ht] (List.replicate 25 (.u 0)) XX,?_,0,by omega,fun i h=>by omega,rfl⟩
  (exact zwL [(0,some 0),(1,some _),(2,some _)])
 rintro mm σ ⟨j,yT,fG,rfl⟩;unfold QtZ
 have hj5:j<5:=by
  rcases Nat.lt_or_ge j 5 with h|h
  .exact h
  .exact absurd (QBc E hE (fun i hi=>fG i (by omega))) zV
 have s1:=Qn3 E j (by omega);have s2:=Qi3 (E / 2^j) (Nat.lt_of_le_of_lt (Nat.div_le_self _ _) (by omega));have q2:IntKind.i64.wrap ((j:Int)+1)=((j+1:Nat):Int):=QaS;have hb2:E / 2^j%2<2:=Nat.mod_lt _ (by decide);obtain ⟨_,_⟩:∃ Z,List.replicate 25 (SV.int .u32 0)=Z:=⟨_,rfl⟩
 by_cases wY:E / 2^j%2=1
 .have qJ:=QqM E j hj5 fG wY
  rw [qJ];have fW:=Qc5 [x0,x1,x2,x3,x4,x5,x6,x7,x8,x9,x10,x11,x12,x13,x14,x15] pc [c0,c1,c2,c3,c4,c5,c6,c7] (16+(j:Int)) 0 rfl rfl gA;rw [Qbn] at fW;change Fn _ _ _ _ (. =⟨.a (.agg (Qay _ c1 _)),[],[]⟩) at fW;rw [wY] at s2;generalize w32 (16+(j:Int))=kk,E / 2^j=Ej at *;clear fG qJ hE;(repeat' ((conv=>whnf);first|exact zi2|refine zj0 fun hb=>?_|refine QHq ?_|(refine zpu fW ?_)|refine zse ?_|refine zbb ?_ ?_))
  all_goals exact QfR
 .have yP:E / 2^j%2=0:=by omega
  have vM:∀ i,i<j+1->E / 2^i%2=0:=fun i hi=>by
   by_cases e:i=j
   .subst e;exact yP
   .exact fG i (by omega)
  rw [yP] at s2;generalize E / 2^j=Ej at *;(conv=>whnf);(repeat' ((first|exact zi2|refine zj0 fun hb=>?_|(with_reducible first|refine zv s1 ?_|refine zv s2 ?_|refine zv q2 ?_)|refine zse ?_|refine zbb ?_ ?_)<;>conv=>whnf))
  all_goals first
   | (exfalso;omega)
   | (exfalso;simp at hb;done)
   | (
     refine ⟨mm-1,_,by omega,?_,j+1,by omega,vM,rfl⟩
     try unfold QtZ
     (exact zwL [(0,some 0),(1,some 1),(2,some 2)]))
def Qn7 (f:Bool):Nat:=if f=true then 1 else 0
theorem QrJ (a:Bool) (d:Nat) (f:Bool):FN 104 [.agg [.bool a,.u d,.bool f]] [] (. =⟨.a (.s (.u (Qn7 f:Nat))),[],[]⟩):=by
 cases f
 all_goals
  refine fnW Tryz.func104 ?_;exact QiW
def Qhi (d:Dk) (p:Int):Nat:=if p=4 then d.bl else if p=5 then d.fr else if p=6 then w32 d.st else 0
theorem Qrv (d:Dk) (p:Int):FN 105 [.agg d.C,.s (.i p)] [] (. =⟨.a (.s (.u (Qhi d p:Nat))),[],[]⟩):=by
 have qs:=Qau d.st;obtain ⟨B,hB⟩:∃ B,Qhi d p=B:=⟨_,rfl⟩;rw [hB];unfold Qhi at hB;obtain ⟨_,_,_,st⟩:=d;dsimp only [Dk.C] at *;generalize w32 st=ws at *
 by_cases h4:p=4
 .rw [zP h4] at hB
  subst h4 hB;refine fnW Tryz.func105 ?_;exact Qfv
 rw [zN h4] at hB
 by_cases h5:p=5
 .rw [zP h5] at hB
  subst h5 hB;refine fnW Tryz.func105 ?_;exact Qfv
 rw [zN h5] at hB
 by_cases h6:p=6
 .rw [zP h6] at hB
  subst h6 hB;refine fnW Tryz.func105 ?_;exact QEp
 rw [zN h6] at hB;subst hB;refine fnW Tryz.func105 ?_;exact Qoj
def Qhm (n:Nk) (p:Int):Nat:=if p=7 then n.fr else if p=8 then n.go_ else if p=9 then (if n.po=true then 1 else 0)+(if n.re=true then 2 else 0) else 0
theorem QrD (n:Nk) (p:Int):FN 106 [.agg n.C,.s (.i p)] [] (. =⟨.a (.s (.u (Qhm n p:Nat))),[],[]⟩):=by
 obtain ⟨B,hB⟩:∃ B,Qhm n p=B:=⟨_,rfl⟩;rw [hB];unfold Qhm at hB;obtain ⟨_,_,po,_,re⟩:=n;dsimp only [Nk.C] at *
 by_cases h4:p=7
 .rw [zP h4] at hB
  subst h4 hB;refine fnW Tryz.func106 ?_;exact Qfv
 rw [zN h4] at hB
 by_cases h5:p=8
 .rw [zP h5] at hB
  subst h5 hB;refine fnW Tryz.func106 ?_;exact Qfv
 rw [zN h5] at hB
 by_cases h6:p=9
 .rw [zP h6] at hB
  subst h6 hB;cases po<;>cases re
  all_goals
   refine fnW Tryz.func106 ?_;exact Qfv
 rw [zN h6] at hB;subst hB;refine fnW Tryz.func106 ?_;exact Qoj
def Qgq (bt bg:Nat) (p:Int):Nat:=if p=10 then bt else if p=11 then QbL bg 32 else 0
theorem Qrs (bt bg:Nat) (h2:ZU bg) (p:Int):FN 107 [.agg [.u bt,.u bg],.s (.i p)] [] (. =⟨.a (.s (.u (Qgq bt bg p:Nat))),[],[]⟩):=by
 have hg:=QjY bt bg h2;have jZ:=Qb5 bg 32;obtain ⟨B,hB⟩:∃ B,Qgq bt bg p=B:=⟨_,rfl⟩;rw [hB];unfold Qgq at hB;generalize QbL bg 32=P at *
 by_cases h4:p=10
 .rw [zP h4] at hB
  subst h4 hB;refine fnW Tryz.func107 ?_;exact Qvk
 rw [zN h4] at hB
 by_cases h5:p=11
 .rw [zP h5] at hB
  subst h5 hB;refine fnW Tryz.func107 ?_;exact Qvk
 rw [zN h5] at hB;subst hB;refine fnW Tryz.func107 ?_;exact QDX
def QkV (k:ByteArray) (p:Int):ByteArray:=if p=0 then (if k.size=0 then k else k.extract 1 k.size) else k
def Qoq (k:ByteArray) (p:Int):Nat:=if p=0 then (match k[0]? with|some b=>b.toNat|none=>4294967295) else if p=1 then k.size else 0
theorem Qrt (k:ByteArray) (hk:k.size<=1000000) (p:Int):FN 103 [.agg [.str k],.s (.i p)] [] (. =⟨.tup [.agg [.str (QkV k p)],.s (.u (Qoq k p:Nat))],[],[]⟩):=by
 obtain ⟨_,hA⟩:∃ B,QkV k p=B:=⟨_,rfl⟩;obtain ⟨B,hB⟩:∃ B,Qoq k p=B:=⟨_,rfl⟩;rw [hA,hB];unfold QkV at hA;unfold Qoq at hB
 by_cases h4:p=0
 .rw [zP h4] at hA hB
  subst h4
  by_cases h0:k.size=0
  .rw [zP h0] at hA
   have hn:k[0]?=none:=by simp [h0]
   rw [hn] at hB;subst hA hB;dsimp only;refine fnW Tryz.func103 ?_;exact Qfv
  .rw [zN h0] at hA
   have hn:k[0]?=some k[0]:=by simp
   rw [hn] at hB;have gU:=UInt8.toNat_lt k[0];generalize k[0]=b at *;subst hA hB;dsimp only;refine fnW Tryz.func103 ?_;(repeat' ((conv=>whnf);first|exact zi2|refine zj0 fun hb=>?_|((with_reducible apply Ge.mk (α:=UInt8)); . exact hn)|refine zse ?_|refine zbb ?_ ?_))
   all_goals exact zF_
 rw [zN h4] at hA hB
 by_cases h5:p=1
 .rw [zP h5] at hB
  subst h5 hA hB;refine fnW Tryz.func103 ?_;exact Qfv
 rw [zN h5] at hB;subst hA hB;refine fnW Tryz.func103 ?_;exact Qoj
def QbE (n f:Nat):Bool:=decide ((f:Int)<(mpg n:Nat))
theorem Qgg (xs:List Nat) (n:Nat) (hl:xs.length=n) (hn:ZU n) (f:Nat) (hf:ZU f):FN 135 [.s (.sl 0 0 n),.s (.u f)] [⟨false,1,wsv xs⟩] (. =⟨.a (.s (.bool (QbE n f))),[],[]⟩):=by
 have hp:=Qck xs n (by omega);have gL:=Qaa xs;have uF:=QaT n;unfold QbE;generalize mpg n=P,wsv xs=XX at *;have c1:IntKind.u64.wrap (P:Int)=P:=Ql0;have c2:IntKind.u64.wrap (f:Int)=f:=Ql0;refine fnW Tryz.func135 ?_;exact QzZ
def Qu2 (k:ByteArray) (b:Nat):ByteArray:=if 16<=(k.size:Int) then k else k++strOfNums [b]
theorem QuE (k:ByteArray) (hk:k.size<=1000000) (b:Nat):FN 77 [.agg [.str k],.s (.int .u8 b)] [] (. =⟨.tup [.agg [.str (Qu2 k b)],.s (.bool (decide ((k.size:Int)<16)))],[],[]⟩):=by
 obtain ⟨_,hK⟩:∃ B,Qu2 k b=B:=⟨_,rfl⟩;rw [hK];unfold Qu2 at hK
 by_cases h:16<=(k.size:Int)
 .rw [zP h] at hK
  rw [zdf (by omega)];subst hK;refine fnW Tryz.func77 ?_;exact QiW
 .rw [zN h] at hK
  rw [zdt (by omega)];have fD:(strOfNums [(b:Int)]).size=1:=rfl;refine fnW Tryz.func77 ?_;(repeat' ((conv=>whnf);first|exact zi2|refine zj0 fun hb=>?_|refine QHn ?_|((with_reducible apply Vl.mk (α:=ByteArray)); . with_reducible exact hK)|refine zse ?_|refine zbb ?_ ?_))
  all_goals exact QiV
def QAo (d:Nat):List SV:=if (d:Int)=0 then [.bool false,.u 0,.bool false] else [.bool true,.u d,.bool false]
theorem Qyy (d:Nat):FN 108 [.s (.u d)] [] (. =⟨.a (.agg (QAo d)),[],[]⟩):=by
 unfold QAo
 by_cases h:(d:Int)=0
 .rw [zP h]
  refine fnW Tryz.func108 ?_;exact QiW
 .rw [zN h]
  refine fnW Tryz.func108 ?_;exact QiW
def QnL (d:Dk) (c:Nat):List SV:=if d.st=1 then (if d.cmd=1 then [.i 3,.w c,.u d.ob,.str ⟨#[]⟩] else if d.cmd=2 then [.i 4,.w c,.u d.ob,.str d.od] else [.i 0,.w 0,.u 0,.str ⟨#[]⟩]) else [.i 0,.w 0,.u 0,.str ⟨#[]⟩]
def Qv9 (d:Dk):Bool:=decide (d.st=1/\(d.cmd=1\/d.cmd=2))
theorem Qlz (d:Dk) (c:Nat):FN 179 [.agg d.C,.s (.w c)] [] (. =⟨.tup [.agg (QnL d c),.s (.bool (Qv9 d))],[],[]⟩):=by
 obtain ⟨_,hO⟩:∃ B,QnL d c=B:=⟨_,rfl⟩;obtain ⟨B,hB⟩:∃ B,Qv9 d=B:=⟨_,rfl⟩;rw [hO,hB];unfold QnL at hO;unfold Qv9 at hB;obtain ⟨_,_,_,st,cmd⟩:=d;dsimp only [Dk.C] at *
 by_cases h1:st=1
 .rw [zP h1] at hO
  by_cases h2:cmd=1
  .rw [zP h2] at hO
   rw [zdt (by omega)] at hB;subst hO hB h1 h2;refine fnW Tryz.func179 ?_;exact Qoo
  rw [zN h2] at hO
  by_cases h3:cmd=2
  .rw [zP h3] at hO
   rw [zdt (by omega)] at hB;subst hO hB h1 h3;refine fnW Tryz.func179 ?_;exact Qoo
  rw [zN h3] at hO;rw [zdf (by omega)] at hB;subst hO hB h1;refine fnW Tryz.func179 ?_;exact Qoo
 rw [zN h1] at hO;rw [zdf (by omega)] at hB;subst hO hB;refine fnW Tryz.func179 ?_;exact QDU
end Go.Proofs.YtpgkkfajljekpabGreat
