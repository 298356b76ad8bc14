import Derived.Test.YtflelebfmdggkaaGreatP62
import Derived.Test.YtflelebfmdggkaaGreatP65
set_option linter.unusedSimpArgs false
set_option linter.unusedVariables false
set_option maxHeartbeats 100000000
set_option maxRecDepth 100000
namespace Go.Proofs.YtflelebfmdggkaaGreat
open Go Go.RowKit
structure Dk where
 (bs bl fr:Nat) (st cmd:Int) (ob of_:Nat) (od:ByteArray)
structure Nk where
 (fr ln:Nat) (po:Bool) (bu:Nat) (re:Bool) (go_:Nat)
structure Mc where
 (x:List Nat) (pc:Nat) (c:List Nat) (m:List Nat) (ks:ByteArray) (ta:Bool) (td:Nat) (tf:Bool) (d:Dk) (n:Nk) (bt bg ct:Nat) (wt ht:Bool)
def Dk.C (d:Dk):List SV:= [.u d.bs,.u d.bl,.u d.fr,.i d.st,.i d.cmd,.u d.ob,.u d.of_,.str d.od]
def Nk.C (n:Nk):List SV:= [.u n.fr,.u n.ln,.bool n.po,.u n.bu,.bool n.re,.u n.go_]
def Mc.D (M:Mc):List SV:= .str M.ks:: .bool M.ta:: .u M.td:: .bool M.tf::(M.d.C++(M.n.C++ [.u M.bt,.u M.bg,.w M.ct,.bool M.wt,.bool M.ht]))
def Mc.C (M:Mc) (k:Nat):List SV:=Qay M.x M.pc M.c++(.sl k 0 M.m.length::M.D)
def Dk.ok (d:Dk):Prop:=d.bs<4294967296∧d.bl<4294967296∧d.fr<4294967296∧d.ob<4294967296∧d.of_<4294967296∧d.od.size≤1000000∧(Lit.int .i64 d.st).wf=true∧(Lit.int .i64 d.cmd).wf=true
def Nk.ok (n:Nk):Prop:=n.fr<4294967296∧n.ln<4294967296∧n.bu<4294967296∧n.go_<4294967296
structure Mc.ok (M:Mc):Prop where
 (x:M.x.length=16) (c:M.c.length=8) (xr:∀ y∈M.x,y<4294967296) (cr:∀ y∈M.c,y<4294967296) (pr:M.pc<4294967296) (mr:∀ y∈M.m,y<4294967296) (ml:M.m.length≤1000000) (dk:M.d.ok) (nk:M.n.ok) (dv:M.td<4294967296∧M.bt<4294967296∧M.bg<4294967296∧M.ct<18446744073709551616∧M.ks.size≤1000000)
theorem QvR (M:Mc) (hM:M.ok):FN 19 [.agg (M.C 0)] [⟨false,1,wsv M.m⟩] (· =⟨.a (.agg (M.C 1)),[],[⟨true,1,wsv M.m⟩]⟩):=by
 have hco:=QsY M.m _ rfl (by have:=hM.ml;omega);have gL:=Qaa M.m;obtain ⟨hx,hc⟩:=hM;obtain ⟨x,pc,c,m,ks,ta,td,tf,⟨d0,d1,d2,d3,d4,d5,d6,d7⟩,⟨n0,n1,n2,n3,n4,n5⟩,bt,bg,ct,wt,ht⟩:=M;dsimp only at *;obtain ⟨_,_,_,_,_,_,_,_,_,_,_,_,_,_,_,_,rfl⟩:=Qav hx;obtain ⟨_,_,_,_,_,_,_,_,rfl⟩:=QaM hc;generalize hn:m.length=n,wsv m=XX at *;dsimp only [Mc.C,Mc.D,Dk.C,Nk.C];rw [hn];refine fnW Tryz.func19 ?_;(repeat' ((conv=>whnf);first|exact zi0|(refine zj0 ?_;intro hb)|(refine QaD hco ?_)|refine zst ?_|refine zbb ?_ ?_))
 all_goals exact QbA
def Qc4 (k:ByteArray):Bool:=decide ((k.size:Int)≤16)
def Qd0 (a:Bool) (d:Nat) (f:Bool):Bool:=decide (¬ (a=true∧f=true)∧(a=true→d≠0)∧(a=false→f=false→d=0))
def QbU (s:Int):Bool:=decide (s=2∨s=3)
def noD (b:ByteArray):Bool:=b.toList==(⟨#[]⟩:ByteArray).toList
def QbO (d:Dk) (p:Int):Bool:=decide (d.bs≤64∧0≤d.st∧d.st≤3∧(d.st≠1→d.cmd=0∧d.ob=0∧d.of_=0∧noD d.od=true)∧(d.st=1→d.ob<d.bs∧(d.of_:Int)<p∧(d.cmd=1∧noD d.od=true∨d.cmd=2∧d.od.size=128)))
def Qb7 (n:Nk) (p:Int):Bool:=decide ((n.po=true→n.re=false∧(n.bu:Int)<p)∧(n.po=false→n.bu=0)∧(n.re=true→1≤n.go_∧n.go_≤128)∧(n.re=false→n.go_=0))
theorem QcP {H:List Row} {v w:Bool} {σ:St} (h:Fin H (· =⟨.a (.s (.bool v)),[],[]⟩) σ (.a (.s (.bool v)))) (e:w=v):Fin H (· =⟨.a (.s (.bool v)),[],[]⟩) σ (.a (.s (.bool w))):=by subst e;exact h
theorem QnK (k:ByteArray):FN 67 [.agg [.str k]] [] (· =⟨.a (.s (.bool (Qc4 k))),[],[]⟩):=by
 unfold Qc4;refine fnW Tryz.func67 ?_;exact Qle
theorem QnG (a:Bool) (d:Nat) (f:Bool):FN 68 [.agg [.bool a,.u d,.bool f]] [] (· =⟨.a (.s (.bool (Qd0 a d f))),[],[]⟩):=by
 cases a<;>cases f
 all_goals
  refine fnW Tryz.func68 ?_;exact QAy
theorem QnP (d:Dk) (hd:d.ok) (p:Int):FN 69 [.agg d.C,.s (.i p)] [] (· =⟨.a (.s (.bool (QbO d p))),[],[]⟩):=by
 obtain ⟨_,_,_,_,_,_,_,_⟩:=hd;obtain ⟨bs,bl,fr,st,cmd,ob,of_,od⟩:=d;dsimp only at *;dsimp only [Dk.C];generalize hB:QbO ⟨bs,bl,fr,st,cmd,ob,of_,od⟩ p=B;unfold QbO at hB;dsimp only at hB;have qH:(od.toList==(⟨#[]⟩:ByteArray).toList)=noD od:=rfl;generalize noD od=nd at *;refine fnW Tryz.func69 ?_;exact QAB
theorem QnV (n:Nk) (hn:n.ok) (p:Int):FN 70 [.agg n.C,.s (.i p)] [] (· =⟨.a (.s (.bool (Qb7 n p))),[],[]⟩):=by
 obtain ⟨r1,r2,r3,r4⟩:=hn;obtain ⟨fr,ln,po,bu,re,go_⟩:=n;dsimp only at *;dsimp only [Nk.C];generalize hB:Qb7 ⟨fr,ln,po,bu,re,go_⟩ p=B;unfold Qb7 at hB;dsimp only at hB;cases po<;>cases re
 all_goals
  refine fnW Tryz.func70 ?_;exact QBT
def QbL (b:Nat):Nat→Nat
 | 0=>0
 | j+1=>QbL b j+b / 2^j%2
theorem Qb6 (b:Nat):∀ j,QbL b j≤j
 | 0=>Nat.le_refl _
 | j+1=>by have:=Qb6 b j;unfold QbL;omega
theorem Qj4 (a:Nat) (ha:a<4294967296):bits .and .u32 (a:Int) 1=((a%2:Nat):Int):=Qbm a 1 ha (by omega)
theorem Qnd (b j:Nat) (hj:j<32):(b:Int) / 2^min (((j:Nat):Int)).toNat IntKind.u32.bits=((b / 2^j:Nat):Int):=by
 rw [show min (((j:Nat):Int)).toNat IntKind.u32.bits=j by show min j 32=j;omega,Int.natCast_ediv,Int.natCast_pow];rfl
def QEw (p j:Nat) (bt bg:Nat):St :=
 ⟨[(1,.a (.s (.ptr 0 0))),(3,.a (.s (.i p))),(4,.a (.s (.i j)))],[(0,some ⟨true,1,[.u bt,.u bg]⟩)],[0]⟩
theorem Qjy (bt bg:Nat) (h2:bg<4294967296):FN 168 [.agg [.u bt,.u bg]] [] (· =⟨.a (.s (.i (QbL bg 32:Nat))),[],[]⟩):=by
 refine fnW Tryz.func168 ?_;(repeat' ((conv=>whnf);first|exact zi0|(refine zj0 ?_;intro hb)|refine zst ?_|refine zbb ?_ ?_));all_goals (conv=>whnf)
 refine Lp.inv (fun mm σ=>∃ j:Nat,mm+j=32∧σ=QEw (QbL bg j) j bt bg) ?_ ?_
 ·refine ⟨32,QEw 0 0 bt bg,?_,0,by omega,rfl⟩
  (exact zwL [(0,some _)])
 rintro mm σ ⟨j,yP,rfl⟩;unfold QEw
 by_cases hj:j<32
 ·have vF:=Qb6 bg j
  have s1:=Qnd bg j hj;have s2:=Qj4 (bg / 2^j) (Nat.lt_of_le_of_lt (Nat.div_le_self _ _) h2)
  have s4:IntKind.i64.wrap (((QbL bg j:Nat):Int)+((bg / 2^j%2:Nat):Int))=((QbL bg (j+1):Nat):Int):=by
   rw [Qb4 (by omega) (by omega),show QbL bg (j+1)=QbL bg j+bg / 2^j%2 from rfl];omega
  have q2:IntKind.i64.wrap ((j:Int)+1)=((j+1:Nat):Int):=QbP;have hb2:bg / 2^j%2<2:=Nat.mod_lt _ (by decide);obtain ⟨P1,VP⟩:∃ P1,QbL bg (j+1)=P1:=⟨_,rfl⟩;rw [VP] at s4;generalize QbL bg j=P0,bg / 2^j=bj at *;generalize bj%2=bb at *;(repeat' ((conv=>whnf);first|exact zi2|(refine zj0 ?_;intro hb)|(with_reducible first|refine zv s1 ?_|refine zv s2 ?_|refine zv s4 ?_|refine zv q2 ?_)|refine zse ?_|refine zbb ?_ ?_));all_goals (conv=>whnf)
  all_goals first
   | (
     refine ⟨mm-1,QEw P1 (j+1) bt bg,by omega,?_,j+1,by omega,by rw [VP];rfl⟩
     (exact zwL [(0,some 0)]))
 ·obtain rfl:j=32:=by omega
  generalize QbL bg 32=P at *;exact QCP
def Qb0 (b:Nat) (p:Int):Bool:=decide (∀ i:Nat,i<32→b / 2^i%2=1→(i:Int)<p)
def QEO (j:Nat) (bt bg:Nat) (p:Int):St :=
 ⟨[(1,.a (.s (.i p))),(2,.a (.s (.ptr 0 0))),(5,.a (.s (.i j)))],[(0,some ⟨true,1,[.u bt,.u bg]⟩)],[0]⟩
theorem QnN (bt bg:Nat) (h2:bg<4294967296) (p:Int):FN 71 [.agg [.u bt,.u bg],.s (.i p)] [] (· =⟨.a (.s (.bool (Qb0 bg p))),[],[]⟩):=by
 obtain ⟨B,hB⟩:∃ B,Qb0 bg p=B:=⟨_,rfl⟩;rw [hB];unfold Qb0 at hB;refine fnW Tryz.func71 ?_;(repeat' ((conv=>whnf);first|exact zi0|(refine zj0 ?_;intro hb)|refine zst ?_|refine zbb ?_ ?_));all_goals (conv=>whnf)
 refine Lp.inv (fun mm σ=>∃ j:Nat,mm+j=32∧(∀ i:Nat,i<j→bg / 2^i%2=1→(i:Int)<p)∧σ=QEO j bt bg p) ?_ ?_
 ·refine ⟨32,QEO 0 bt bg p,?_,0,by omega,fun i h=>by omega,rfl⟩
  (exact zwL [(0,some _)])
 rintro mm σ ⟨j,yP,fE,rfl⟩;unfold QEO
 by_cases hj:j<32
 ·have s1:=Qnd bg j hj
  have s2:=Qj4 (bg / 2^j) (Nat.lt_of_le_of_lt (Nat.div_le_self _ _) h2);have q2:IntKind.i64.wrap ((j:Int)+1)=((j+1:Nat):Int):=QbP
  by_cases hbad:bg / 2^j%2=1∧p≤(j:Int)
  ·obtain rfl:B=false:=by
    rw [← hB];refine decide_eq_false (fun h=>?_);have:=h j hj hbad.1;omega
   rw [hbad.1] at s2;have h3:=hbad.2;clear hB fE hbad;generalize bg / 2^j=bj at *;(repeat' ((conv=>whnf);first|exact zi2|(refine zj0 ?_;intro hb)|refine QFU ?_|refine zse ?_|refine zbb ?_ ?_))
   all_goals exact zF_
  ·have vM:∀ i:Nat,i<j+1→bg / 2^i%2=1→(i:Int)<p:=fun i hi h=>by
    by_cases e:i=j
    ·subst e;exact Int.lt_of_not_ge (fun h2=>hbad ⟨h,h2⟩)
    ·exact fE i (by omega) h
   have h3:bg / 2^j%2=1→(j:Int)<p:=vM j (by omega);have hb2:bg / 2^j%2<2:=Nat.mod_lt _ (by decide);clear hB fE hbad;generalize bg / 2^j=bj at *;generalize bj%2=bb at *;have e:bb=0∨bb=1:=by omega
   rcases e with rfl|rfl
   all_goals
    (repeat' ((conv=>whnf);first|exact zi2|(refine zj0 ?_;intro hb)|(with_reducible first|refine zv s1 ?_|refine zv s2 ?_|refine zv q2 ?_)|refine zse ?_|refine zbb ?_ ?_));all_goals (conv=>whnf)
    all_goals first
     | (exfalso;omega)
     | (exfalso;simp at hb;done)
     | (
       refine ⟨mm-1,QEO (j+1) bt bg p,by omega,?_,j+1,by omega,vM,rfl⟩
       (exact zwL [(0,some 0)]))
 ·obtain rfl:j=32:=by omega
  obtain rfl:B=true:=by rw [← hB];exact decide_eq_true fE
  exact QCP
def Qc3 (bt bg:Nat):Bool:=(((QbL bg 32:Nat):Int) !=((bt:Nat):Int))
theorem Qk8 (bt bg:Nat) (h1:bt<4294967296) (h2:bg<4294967296):FN 195 [.agg [.u bt,.u bg]] [] (· =⟨.a (.s (.bool (Qc3 bt bg))),[],[]⟩):=by
 have hg:=Qjy bt bg h2;have vF:=Qb6 bg 32;unfold Qc3;generalize QbL bg 32=P at *;refine fnW Tryz.func195 ?_;exact QCO
theorem QkJ (a:Bool) (d:Nat) (f:Bool):FN 191 [.agg [.bool a,.u d,.bool f]] [] (· =⟨.a (.s (.bool f)),[],[]⟩):=by
 refine fnW Tryz.func191 ?_;exact Qle
def Qcs (k:ByteArray):Bool:=decide ((0:Int)<(k.size:Int))
theorem Qk4 (k:ByteArray):FN 192 [.agg [.str k]] [] (· =⟨.a (.s (.bool (Qcs k))),[],[]⟩):=by
 unfold Qcs;refine fnW Tryz.func192 ?_;exact Qle
theorem Qly (d:Dk):FN 193 [.agg d.C] [] (· =⟨.a (.s (.bool (QbU d.st))),[],[]⟩):=by
 obtain ⟨_,_,_,st⟩:=d;dsimp only [Dk.C];obtain ⟨B,hB⟩:∃ B,QbU st=B:=⟨_,rfl⟩;rw [hB];unfold QbU at hB;refine fnW Tryz.func193 ?_;exact QDJ
theorem Qlo (n:Nk):FN 194 [.agg n.C] [] (· =⟨.a (.s (.bool n.re)),[],[]⟩):=by
 obtain ⟨_,_,_,_,re⟩:=n;dsimp only [Nk.C];refine fnW Tryz.func194 ?_;exact Qle
def lnN (b:Bool) (k:Nat):Nat:=if b=true then 2^k else 0
theorem QdZ (b:Bool) (k:Nat) (hk:k<32):lnN b k<4294967296:=by
 unfold lnN;split
 ·exact Nat.lt_of_lt_of_le (Nat.pow_lt_pow_right (by decide) hk) (by decide)
 ·decide
theorem QeA (b:Bool) (k:Nat) (hk:k<5):FN 190 [.s (.bool b),.s (.i k)] [] (· =⟨.a (.s (.u (lnN b k:Nat))),[],[]⟩):=by
 have e:k=0∨k=1∨k=2∨k=3∨k=4:=by omega
 cases b<;>rcases e with rfl|rfl|rfl|rfl|rfl
 all_goals
  refine fnW Tryz.func190 ?_;exact QKi
def Qft (M:Mc):Nat:=(((lnN M.tf 0 ||| lnN (Qcs M.ks) 1) ||| lnN (QbU M.d.st) 2) ||| lnN M.n.re 3) ||| lnN (Qc3 M.bt M.bg) 4
def ld1 (n a:Nat):Bool:=decide (a+1≤mpg n*128)
theorem QhC {n a:Nat} (h:ld1 n a=true):a / 4<n:=by
 unfold ld1 mpg at h;simp at h;split at h<;>omega
theorem Qfe (xs:List Nat) (n a:Nat) (hn:n<4294967296) (ha:a<4294967296):FN 178 [.s (.sl 0 0 n),.s (.u a),.s (.i 1)] [⟨false,1,wsv xs⟩] (· =⟨.a (.s (.bool (ld1 n a))),[],[]⟩):=by
 have hm:=QaU n;refine fnW Tryz.func178 ?_;(repeat' ((conv=>whnf);first|exact zi0|(refine zj0 ?_;intro hb)|(refine Qae (f:=57) (QbI xs n hn) [⟨0,0⟩] [(0,⟨false,1,wsv xs⟩)] (by first|exact rfl|simp [Qc1,QcJ,Qc5]) ⟨rfl,trivial⟩ (⟨rfl,Qar (Qaa _),trivial⟩) ⟨rfl,Qbq⟩ ?_)|refine zs0 ?_|refine zbb ?_ ?_));all_goals (conv=>whnf)
 all_goals
  refine QbV rfl (Qaa _) rfl ?_;simp only [Qbc];congr 3;have hy:decide ((a:Int)+1≤(mpg n:Nat)*128)=decide (a+1≤mpg n*128):=by congr 1;apply propext;omega
  unfold ld1;rw [← hy]
def byN (w a:Nat):Nat:=w / 2^(a%4*8)%2^8
theorem QHv (a:Nat):((a:Int).tmod 4)=((a%4:Nat):Int):=by rw [QfI (by omega)];omega
theorem QJ7 (a:Nat):IntKind.i64.wrap ((a%4:Nat):Int)=((a%4:Nat):Int):=Qb4 (by omega) (by omega)
theorem QI9 (a:Nat):IntKind.i64.wrap (((a%4:Nat):Int)*8)=((a%4*8:Nat):Int):=by rw [Qb4 (by omega) (by omega)];omega
theorem QA8 {xs:List Nat} (h:∀ x∈xs,x<4294967296) (j:Nat):xs.getD j 0<4294967296:=by
 exact QxZ
theorem Qme (xs:List Nat) (n a:Nat) (hl:xs.length=n) (hx:∀ x∈xs,x<4294967296) (hn:n<4294967296) (ha:a<4294967296) (qY:ld1 n a=true):FN 115 [.s (.sl 0 0 n),.s (.u a),.s (.i 1)] [⟨false,1,wsv xs⟩] (· =⟨.tup [.s (.u (byN (xs.getD (a / 4) 0) a:Nat)),.s (.bool true)],[],[]⟩):=by
 have hw:=Qfe xs n a hn ha;rw [qY] at hw;have yU:=QhC qY;have hf:=QdP (xs.getD (a / 4) 0) (a%4*8) 8 (QA8 hx _) (by omega) (by omega) (by omega);have hg:=Qa0 xs (a / 4) (by omega);generalize xs.getD (a / 4) 0=W at *;change Fn _ _ _ _ (· =⟨.a (.s (.u ((byN W a:Nat):Int))),_,_⟩) at hf;generalize byN W a=B at *;refine fnW Tryz.func115 ?_;(repeat' ((conv=>whnf);first|exact zi0|(refine zj0 ?_;intro hb)|(refine Qae (f:=178) (hw) [⟨0,0⟩] [(0,⟨false,1,wsv xs⟩)] (by first|exact rfl|simp [Qc1,QcJ,Qc5]) ⟨rfl,trivial⟩ (⟨rfl,Qar (Qaa _),trivial⟩) ⟨rfl,Qbq⟩ ?_)|refine Qeo ?_|refine QvS ?_|refine Qz8 ?_|refine QIh ?_|(refine Qac (f:=179) (hf) rfl ?_)|refine zs0 ?_|refine zbb ?_ ?_));all_goals (conv=>whnf)
 all_goals exact QbV rfl (Qaa _) rfl rfl
def sfI (w l v:Nat):Int:=bits .or .u32 (bits .andNot .u32 (w:Int) (IntKind.u32.wrap (255*2^min ((l:Nat):Int).toNat IntKind.u32.bits))) (IntKind.u32.wrap (bits .and .u32 (v:Int) 255*2^min ((l:Nat):Int).toNat IntKind.u32.bits))
theorem Qv4 (op:BinOp) (a b:Int):0≤bits op .u32 a b∧bits op .u32 a b<4294967296:=by
 unfold bits;rw [Qcf];omega
def sfN (w l v:Nat):Nat:=(sfI w l v).toNat
theorem QD2 (w l v:Nat):sfN w l v<4294967296:=by
 have:0≤sfI w l v∧sfI w l v<4294967296:=Qv4 _ _ _;unfold sfN;omega
theorem Qf0 (w l v:Nat):((sfN w l v:Nat):Int)=sfI w l v:=by
 have:0≤sfI w l v∧sfI w l v<4294967296:=Qv4 _ _ _;unfold sfN;omega
theorem Qlj (w l v:Nat) (hl:l≤31):FN 254 [.s (.u w),.s (.i l),.s (.i 8),.s (.u v)] [] (· =⟨.a (.s (.u (sfN w l v:Nat))),[],[]⟩):=by
 have hm:FN 230 [.s (.i 8)] [] (· =⟨.a (.s (.u 255)),[],[]⟩):=Qrg 8 (by omega);have e1:IntKind.u32.wrap (255*2^min ((l:Nat):Int).toNat IntKind.u32.bits)=IntKind.u32.wrap (255*2^min ((l:Nat):Int).toNat IntKind.u32.bits):=rfl;have e2:IntKind.u32.wrap (bits .and .u32 (v:Int) 255*2^min ((l:Nat):Int).toNat IntKind.u32.bits)=IntKind.u32.wrap (bits .and .u32 (v:Int) 255*2^min ((l:Nat):Int).toNat IntKind.u32.bits):=rfl;rw [Qf0];refine fnW Tryz.func254 ?_;(repeat' ((conv=>whnf);first|exact zi0|(refine zj0 ?_;intro hb)|(refine Qac (f:=230) (hm) rfl ?_)|(with_reducible first|refine zv e1 ?_|refine zv e2 ?_)|refine zs0 ?_|refine zbb ?_ ?_));all_goals (conv=>whnf)
 all_goals exact Qam rfl rfl
def Qnv (xs:List Nat) (a v:Nat):List Nat:=xs.set (a / 4) (sfN (xs.getD (a / 4) 0) (a%4*8) v)
theorem QqK (xs:List Nat) (n a v:Nat) (hl:xs.length=n) (hn:n<4294967296) (ha:a<4294967296) (qY:ld1 n a=true):FN 235 [.s (.sl 0 0 n),.s (.u a),.s (.i 1),.s (.u v)] [⟨false,1,wsv xs⟩] (· =⟨.tup [.s (.sl 1 0 n),.s (.bool true)],[],[⟨true,1,wsv (Qnv xs a v)⟩]⟩):=by
 have hw:=Qfe xs n a hn ha;rw [qY] at hw;have yU:=QhC qY;have gK:=QbH xs n hl (by omega);have hg:=Qa0 xs (a / 4) (by omega);have GM:=Qlj (xs.getD (a / 4) 0) (a%4*8) v (by omega);have fC:=QbB xs (a / 4) (sfN (xs.getD (a / 4) 0) (a%4*8) v) (by omega);have uP:(wsv xs).length=n:=by simp [hl]
 have fM:Qau (wsv xs)=true:=Qaa xs;have KU:Qau (wsv (Qnv xs a v))=true:=Qaa _;change QaC _ _ _=wsv (Qnv xs a v) at fC;generalize sfN (xs.getD (a / 4) 0) (a%4*8) v=V,wsv (Qnv xs a v)=X2 at *;generalize xs.getD (a / 4) 0=W,wsv xs=X at *;refine fnW Tryz.func235 ?_;(repeat' ((conv=>whnf);first|exact zi0|(refine zj0 ?_;intro hb)|(refine Qae (f:=178) hw [⟨0,0⟩] [(0,⟨false,1,X⟩)] rfl ⟨rfl,trivial⟩ ⟨rfl,Qar fM,trivial⟩ ⟨rfl,Qbq⟩ ?_)|(refine Qae (f:=39) gK [⟨0,0⟩] [(0,⟨false,1,X⟩)] rfl ⟨rfl,trivial⟩ ⟨rfl,Qar fM,trivial⟩ ⟨rfl,Qbq⟩ ?_)|(refine Qac (f:=254) (GM) rfl ?_)|refine Qeo ?_|(apply Sd.mk; · refine ⟨rfl,rfl,rfl,?_⟩;show _≤X.length;simp;omega)|refine QvS ?_|refine Qz8 ?_|refine QIh ?_|refine zq7 ?_|refine zs0 ?_|refine zbb ?_ ?_));all_goals (conv=>whnf)
 all_goals (exact QbA)
def acB (s:Int) (n a:Nat):Bool:=if s=4 then ld4 n a else ld1 n a
def Qdc (s:Nat):Bool:=decide (s%2=0∧s / 4%2=1)
def szB (sz:Int):Bool:=decide (sz=1∨sz=4)
def rsO (xs:List Nat) (n s r va:Nat) (sz ac:Int):Bool:=QdQ ac&&szB sz&&decide ((va:Int)%sz=0)&&(if Qdc s=true then Qbp xs n r va ac else acB sz n va)
def rsA (xs:List Nat) (n s r va:Nat) (sz ac:Int):Nat:=if rsO xs n s r va sz ac=true then (if Qdc s=true then frW (QaT xs r va)*128+va%128 else va) else 0
def rsM (xs:List Nat) (n s r va:Nat) (sz ac:Int):List Nat:=if rsO xs n s r va sz ac=true∧Qdc s=true then xs.set (Qba r va / 4) (QbK (xs.getD (Qba r va / 4) 0) ac) else xs
def rsK (xs:List Nat) (n s r va:Nat) (sz ac:Int):Int:=if rsO xs n s r va sz ac=true then 0 else if QdQ ac=false∨szB sz=false then 5 else if (va:Int)%sz=0 then Qcw ac else 3
theorem Qbl (xs:List Nat) (n s r va:Nat) (sz ac:Int):(rsM xs n s r va sz ac).length=xs.length:=by unfold rsM;split<;>simp
theorem Qc6 (xs:List Nat) (n s r va:Nat) (sz ac:Int) (h:∀ y∈xs,y<4294967296):∀ y∈rsM xs n s r va sz ac,y<4294967296:=by
 unfold rsM;split
 ·intro y hy
  rcases List.mem_or_eq_of_mem_set hy with h1|h1
  ·exact h y h1
  ·rw [h1];exact QkN _ _ (Qab h _)
 ·exact h
theorem Qos (ac:Int):FN 253 [.s (.i ac)] [] (· =⟨.tup [.s (.i (Qcw ac)),.s (.bool (QdQ ac))],[],[]⟩):=by
 refine fnW Tryz.func253 ?_;exact QBb
theorem QmI (a:Nat) (ha:a<4294967296):bits .and .u32 (a:Int) 1=((a%2:Nat):Int):=Qbm a 1 ha (by omega)
theorem Qu3 (a:Nat) (ha:a<4294967296):bits .and .u32 (a:Int) 4=((a / 4%2*4:Nat):Int):=by
 rw [show ((4:Int))=((4:Nat):Int) from rfl,QcI a 4 ha (by omega)];congr 1;apply Nat.eq_of_testBit_eq;intro i;rw [Nat.testBit_and,show a / 4%2*4=2^2*(a / 4%2) by omega,Nat.testBit_two_pow_mul]
 by_cases h:i=2
 ·subst h
  rw [show Nat.testBit 4 2=true by decide,Bool.and_true];simp only [Nat.testBit,Nat.shiftRight_eq_div_pow,Nat.one_and_eq_mod_two];simp
 ·have h4:Nat.testBit 4 i=false:=by
   rw [show (4:Nat)=2^2 by rfl,Nat.testBit_two_pow];exact decide_eq_false (fun e=>h e.symm)
  rw [h4,Bool.and_false]
  by_cases h2:2≤i
  ·rw [decide_eq_true h2,Bool.true_and]
   have:a / 4%2<2^(i-2):=Nat.lt_of_lt_of_le (Nat.mod_lt _ (by decide)) (by
    calc 2=2^1:=rfl
     _≤2^(i-2):=Nat.pow_le_pow_right (by decide) (by omega))
   exact (Nat.testBit_lt_two_pow this).symm
  ·rw [decide_eq_false h2,Bool.false_and]
theorem QjI (x:List Nat) (pc:Nat) (c:List Nat) (hx:x.length=16) (hc:c.length=8) (h0:c.getD 0 0<4294967296):FN 198 [.agg (Qay x pc c)] [] (· =⟨.a (.s (.bool (((c.getD 0 0%2:Nat):Int) !=0))),[],[]⟩):=by
 obtain ⟨_,_,_,_,_,_,_,_,_,_,_,_,_,_,_,_,rfl⟩:=Qav hx;obtain ⟨c0,_,_,_,_,_,_,_,rfl⟩:=QaM hc;have e:=QmI c0 h0;refine fnW Tryz.func198 ?_;(repeat' ((conv=>whnf);first|exact zi0|(refine zj0 ?_;intro hb)|(with_reducible refine zv e ?_)|refine zs0 ?_|refine zbb ?_ ?_));all_goals (conv=>whnf)
 all_goals exact Qam rfl rfl
theorem Qtq (xs:List Nat) (n a:Nat) (sz:Int) (fZ:sz=1∨sz=4) (hl:xs.length=n) (hY:∀ y∈xs,y<4294967296) (hn:n<4294967296) (ha:a<4294967296):∃ V:Nat,
  FN 115 [.s (.sl 0 0 n),.s (.u a),.s (.i sz)] [⟨false,1,wsv xs⟩] (· =⟨.tup [.s (.u V),.s (.bool (acB sz n a))],[],[]⟩):=by
 rcases fZ with rfl|rfl
 ·cases h:ld1 n a with
  | true =>
   rw [show acB 1 n a=true from h];exact ⟨_,Qme xs n a hl hY hn ha h⟩
  | false =>
   refine ⟨0,?_⟩;rw [show acB 1 n a=false from h];have hw:=Qfe xs n a hn ha;rw [h] at hw;have hs:=Qaa xs;generalize wsv xs=XX at *;refine fnW Tryz.func115 ?_;(repeat' ((conv=>whnf);first|exact zi2|(refine zj0 ?_;intro hb)|(refine QaD hw ?_)|refine zse ?_|refine zbb ?_ ?_))
   all_goals exact Qb8
 ·exact ⟨_,QfN xs n a hl hn ha⟩
theorem Qap (x:List Nat) (pc:Nat) (c:List Nat) (hx:x.length=16) (hc:c.length=8):(Qay x pc c).length=25:=by
 unfold Qay wsv;simp [hx,hc]
theorem QiS {l l':List SV} (h:Qas l=true) (h':Qas l'=true):Qas (l++l')=true:=by
 induction l with
 | nil=>exact h'
 | cons a l ih =>
  cases a<;>first|exact ih h|cases h
theorem Qag (x:List Nat) (pc:Nat) (c:List Nat):Qas (Qay x pc c)=true:=QiS (QbF x) (QbF c)
theorem Qaw (x:List Nat) (pc:Nat) (c:List Nat) (A:Nat) (hx:x.length=16) (hA:A<16):(Qay x pc c)[A]?=some (.u (x.getD A 0:Nat)):=by
 unfold Qay;rw [List.getElem?_append_left (by rw [wsv_length];omega)];exact Qa0 x A (by omega)
theorem QaB (x:List Nat) (pc:Nat) (c:List Nat) (hx:x.length=16):(Qay x pc c)[16]?=some (.u (pc:Nat)):=by
 unfold Qay;rw [List.getElem?_append_right (by rw [wsv_length];omega),wsv_length,hx];rfl
theorem Qdu (x:List Nat) (pc:Nat) (c:List Nat) (m:Nat) (hx:x.length=16) (hc:c.length=8) (hm:m<8):(Qay x pc c)[17+m]?=some (.u (c.getD m 0:Nat)):=by
 unfold Qay;rw [List.getElem?_append_right (by rw [wsv_length];omega),wsv_length,hx,show 17+m-16=m+1 by omega,List.getElem?_cons_succ];exact Qa0 c m (by omega)
theorem Qch {c l:List SV} (h:c.length=l.length):QaC c 0 l=l:=Qju (by rw [h];exact Nat.beq_refl _)
theorem Qh3 (x:List Nat) (pc:Nat) (c:List Nat) (A v:Nat) (hx:x.length=16) (hA:A<16):QaC (Qay x pc c) A [.u (v:Nat)]=Qay (x.set A v) pc c:=by
 show (Qay x pc c).set A _=_;unfold Qay;rw [List.set_append_left _ _ (by rw [wsv_length];omega)];congr 1;exact QbB x A v (by omega)
theorem QaR (x:List Nat) (pc:Nat) (c:List Nat) (v:Nat) (hx:x.length=16):QaC (Qay x pc c) 16 [.u (v:Nat)]=Qay x v c:=by
 show (Qay x pc c).set 16 _=_;unfold Qay;rw [List.set_append_right _ _ (by rw [wsv_length];omega),wsv_length,hx];rfl
theorem QvW {xs:List Nat} {n r va:Nat} {ac:Int} (h:Qbp xs n r va ac=true) (hn:n<4294967296):ld4 n (Qba r va)=true∧Qba r va<4294967296∧r<32:=by
 unfold Qbp at h;simp only [Bool.and_eq_true,decide_eq_true_eq] at h;have:=QaU n;unfold ld4 Qba;simp only [Bool.and_eq_true,decide_eq_true_eq];omega
theorem Qei (x:List Nat) (pc:Nat) (c:List Nat) (xs:List Nat) (n va:Nat) (sz ac:Int) (hx:x.length=16) (hc:c.length=8) (gK:∀ y∈c,y<4294967296) (hl:xs.length=n) (hY:∀ y∈xs,y<4294967296) (hn:n<4294967296) (gX:va<4294967296) :
  FN 232 [.agg (Qay x pc c),.s (.sl 0 0 n),.s (.u va),.s (.i sz),.s (.i ac)] [⟨false,1,wsv xs⟩]
   (· =⟨.tup [.s (.u (rsA xs n (c.getD 0 0) (c.getD 6 0) va sz ac:Nat)),.s (.sl 1 0 n),.s (.i (rsK xs n (c.getD 0 0) (c.getD 6 0) va sz ac))],[],[⟨true,1,wsv (rsM xs n (c.getD 0 0) (c.getD 6 0) va sz ac)⟩]⟩):=by
 have hs:=Qab gK 0;have hr:=Qab gK 6;have hk:=QjI x pc c hx hc hs;have g0:=Qdu x pc c 0 hx hc (by decide);have g6:=Qdu x pc c 6 hx hc (by decide);have UK:=Qap x pc c hx hc;have hCs:=Qal x pc c;have hCk:=Qag x pc c;have zK:=Qos ac;have vK:=QbH xs n hl (by omega);have b4:=Qu3 (c.getD 0 0) hs;generalize c.getD 0 0=S,c.getD 6 0=R,Qay x pc c=C at *;have hw:=Qh9 xs n R va ac hl hn hY hr gX;have gL:=Qaa xs;clear gK hx hc
 by_cases wD:QdQ ac=true∧szB sz=true
 case neg =>
  have e1:rsO xs n S R va sz ac=false:=by
   unfold rsO
   cases h:QdQ ac with
   | false=>rfl
   | true =>
    cases h2:szB sz with
    | false=>rfl
    | true=>exact absurd ⟨h,h2⟩ wD
  have e2:QdQ ac=false∨szB sz=false:=by
   cases h:QdQ ac with
   | false=>exact .inl rfl
   | true =>
    cases h2:szB sz with
    | false=>exact .inr rfl
    | true=>exact absurd ⟨h,h2⟩ wD
  rw [show rsA xs n S R va sz ac=0 by unfold rsA;rw [e1];rfl,show rsM xs n S R va sz ac=xs by unfold rsM;rw [e1];exact zN (fun h=>by cases h.1),show rsK xs n S R va sz ac=5 by unfold rsK;rw [e1,zN (by decide),zP e2]];have hz:szB sz=false→sz≠1∧sz≠4:=fun h=>by unfold szB at h;simpa using h
  generalize QdQ ac=kb,wsv xs=XX at *
  cases kb with
  | false =>
   clear hw hz;refine fnW Tryz.func232 ?_;(repeat' ((conv=>whnf);first|exact zi2|(refine zj0 ?_;intro hb)|(refine zpu zK ?_)|(refine QaD vK ?_)|refine zse ?_|refine zbb ?_ ?_));all_goals (conv=>whnf)
   all_goals first|(exact QbA)
  | true =>
   obtain ⟨z1,z2⟩:=hz (by rcases e2 with h|h;cases h;exact h);clear hw;refine fnW Tryz.func232 ?_;(repeat' ((conv=>whnf);first|exact zi2|(refine zj0 ?_;intro hb)|(refine zpu zK ?_)|(refine QaD vK ?_)|refine zse ?_|refine zbb ?_ ?_))
   all_goals exact QfE
 obtain ⟨k1,k2⟩:=wD;rw [k1] at zK;have fZ:sz=1∨sz=4:=by unfold szB at k2;simpa using k2
 by_cases gZ:(va:Int)%sz=0
 case neg =>
  have e1:rsO xs n S R va sz ac=false:=by unfold rsO;rw [decide_eq_false gZ,Bool.and_false];rfl
  rw [show rsA xs n S R va sz ac=0 by unfold rsA;rw [e1];rfl,show rsM xs n S R va sz ac=xs by unfold rsM;rw [e1];exact zN (fun h=>by cases h.1),show rsK xs n S R va sz ac=3 by unfold rsK;rw [e1,zN (by decide),zN (by rw [k1,k2];simp),zN gZ]];obtain rfl:sz=4:=by rcases fZ with rfl|rfl;omega;rfl
  have m1:Int.tmod (va:Int) 4=((va%4:Nat):Int):=QuW;have m2:va%4≠0:=by omega
  generalize va%4=va4,wsv xs=XX at *;clear hw;refine fnW Tryz.func232 ?_;(repeat' ((conv=>whnf);first|exact zi2|(refine zj0 ?_;intro hb)|(with_reducible refine zv m1 ?_)|(refine zpu zK ?_)|(refine QaD vK ?_)|refine zse ?_|refine zbb ?_ ?_))
  all_goals exact QfE
 obtain ⟨V,qJ⟩:=Qtq xs n va sz fZ hl hY hn gX;have m0:Int.tmod (va:Int) sz=0:=by rw [Int.tmod_eq_emod_of_nonneg (by omega)];exact gZ
 cases qF:Qdc S with
 | true =>
  obtain ⟨p1,p2⟩:S%2=0∧S / 4%2=1:=by unfold Qdc at qF;simpa using qF
  rw [p1] at hk;replace b4:bits .and .u32 (S:Int) 4=4:=b4.trans (by rw [p2];rfl)
  cases hok:Qbp xs n R va ac with
  | false =>
   have e1:rsO xs n S R va sz ac=false:=by unfold rsO;rw [qF,hok];simp
   rw [show rsA xs n S R va sz ac=0 by unfold rsA;rw [e1];rfl,show rsM xs n S R va sz ac=xs by unfold rsM;rw [e1];exact zN (fun h=>by cases h.1),show rsK xs n S R va sz ac=Qcw ac by unfold rsK;rw [e1,zN (by decide),zN (by rw [k1,k2];simp),zP gZ]];unfold Qfw at hw;rw [hok,zN (by decide)] at hw;have KP:Qcw ac≠0:=by unfold Qcw;split;omega;split<;>omega
   generalize Qcw ac=cz,wsv xs=XX at *;rcases fZ with rfl|rfl
   all_goals
    refine fnW Tryz.func232 ?_;(repeat' ((conv=>whnf);first|exact zi2|(refine zj0 ?_;intro hb)|refine QE4 ?_|((with_reducible apply Ge.mk (α:=SV)); · first|exact g0|exact g6)|refine Qz3 ?_|(refine zpu zK ?_)|(refine zpu hk ?_)|(refine QaD hw ?_)|(refine QaD vK ?_)|refine zse ?_|refine zbb ?_ ?_));all_goals (conv=>whnf)
    all_goals first|(exact QbA)
  | true =>
   have e1:rsO xs n S R va sz ac=true:=by unfold rsO;rw [qF,hok,k1,k2,decide_eq_true gZ];rfl
   obtain ⟨l1,l2,l3⟩:=QvW hok hn;have UG:=QjO xs n (Qba R va) ac hl hn hY l2 l1;rw [show rsA xs n S R va sz ac=frW (QaT xs R va)*128+va%128 by unfold rsA;rw [e1,zP rfl,qF,zP rfl],show rsM xs n S R va sz ac=xs.set (Qba R va / 4) (QbK (xs.getD (Qba R va / 4) 0) ac) by unfold rsM;rw [e1,qF];exact zP ⟨rfl,rfl⟩,show rsK xs n S R va sz ac=0 by unfold rsK;rw [e1,zP rfl]];unfold Qfw at hw;rw [hok,zP rfl] at hw;have gY:=Qaa (xs.set (Qba R va / 4) (QbK (xs.getD (Qba R va / 4) 0) ac));generalize wsv (xs.set (Qba R va / 4) (QbK (xs.getD (Qba R va / 4) 0) ac))=X2 at *;generalize Qba R va=E,frW (QaT xs R va)*128+va%128=AA,Qcw ac=cz,wsv xs=XX at *;rcases fZ with rfl|rfl
   all_goals
    refine fnW Tryz.func232 ?_;(repeat' ((conv=>whnf);first|exact zi2|(refine zj0 ?_;intro hb)|refine QE4 ?_|((with_reducible apply Ge.mk (α:=SV)); · first|exact g0|exact g6)|refine Qz3 ?_|(refine zpu zK ?_)|(refine zpu hk ?_)|(refine QaD hw ?_)|(refine QaD UG ?_)|refine zse ?_|refine zbb ?_ ?_));all_goals (conv=>whnf)
    all_goals first|(exact QbA)
 | false =>
  have ZK:S%2=1∨(S%2=0∧S / 4%2=0):=by unfold Qdc at qF;simp at qF;omega
  have eM:rsM xs n S R va sz ac=xs:=by unfold rsM;rw [qF];exact zN (fun h=>by cases h.2)
  have eO:rsO xs n S R va sz ac=acB sz n va:=by unfold rsO;rw [qF,k1,k2,decide_eq_true gZ];simp
  have eA:rsA xs n S R va sz ac=if acB sz n va=true then va else 0:=by unfold rsA;rw [eO,qF];simp
  have eK:rsK xs n S R va sz ac=if acB sz n va=true then 0 else Qcw ac:=QDa
  rw [eM,eA,eK];clear eM eO eA eK hw;generalize Qcw ac=cz,acB sz n va=ok,wsv xs=XX at *;cases ok<;>rcases ZK with p1|⟨p1,p2⟩<;>rcases fZ with rfl|rfl
  all_goals
   rw [p1] at hk
   try (replace b4:bits .and .u32 (S:Int) 4=0:=b4.trans (by rw [p2];rfl))
   refine fnW Tryz.func232 ?_;(repeat' ((conv=>whnf);first|exact zi2|(refine zj0 ?_;intro hb)|refine QE4 ?_|refine QlY ?_|refine Qz3 ?_|(refine zpu zK ?_)|(refine zpu hk ?_)|(refine QaD qJ ?_)|(refine QaD vK ?_)|refine zse ?_|refine zbb ?_ ?_))
   all_goals exact QfE
theorem Qe7 (M:Mc):Qft M<4294967296:=by
 unfold Qft;exact (QkU _ _ (QkU _ _ (QkU _ _ (QkU _ _ (QdZ _ 0 (by decide)) (QdZ _ 1 (by decide))).2 (QdZ _ 2 (by decide))).2 (QdZ _ 3 (by decide))).2 (QdZ _ 4 (by decide))).2
theorem Qri (M:Mc) (hM:M.ok):FN 130 [.agg (M.C 0)] [⟨false,1,wsv M.m⟩] (· =⟨.a (.s (.u (Qft M:Nat))),[],[]⟩):=by
 have p1:=QkJ M.ta M.td M.tf;have p2:=Qk4 M.ks;have p3:=Qly M.d;have p4:=Qlo M.n;have p5:=Qk8 M.bt M.bg hM.dv.2.1 hM.dv.2.2.1;have k1:=QeA M.tf 0 (by decide);have k2:=QeA (Qcs M.ks) 1 (by decide);have k3:=QeA (QbU M.d.st) 2 (by decide);have k4:=QeA M.n.re 3 (by decide);have k5:=QeA (Qc3 M.bt M.bg) 4 (by decide);have o1:=QkU _ _ (QdZ M.tf 0 (by decide)) (QdZ (Qcs M.ks) 1 (by decide));have o2:=QkU _ _ o1.2 (QdZ (QbU M.d.st) 2 (by decide));have o3:=QkU _ _ o2.2 (QdZ M.n.re 3 (by decide));have o4:=QkU _ _ o3.2 (QdZ (Qc3 M.bt M.bg) 4 (by decide));replace o1:=o1.1;replace o2:=o2.1;replace o3:=o3.1;replace o4:=o4.1;have gL:=Qaa M.m;unfold Qft;generalize Qcs M.ks=b2,QbU M.d.st=b3,Qc3 M.bt M.bg=b5 at *;generalize (((lnN M.tf 0 ||| lnN b2 1) ||| lnN b3 2) ||| lnN M.n.re 3) ||| lnN b5 4=L4 at *;generalize ((lnN M.tf 0 ||| lnN b2 1) ||| lnN b3 2) ||| lnN M.n.re 3=L3 at *;generalize (lnN M.tf 0 ||| lnN b2 1) ||| lnN b3 2=L2 at *;generalize lnN M.tf 0 ||| lnN b2 1=L1 at *;generalize lnN M.tf 0=l0,lnN b2 1=l1,lnN b3 2=l2,lnN M.n.re 3=l3,lnN b5 4=l4 at *;obtain ⟨hx,hc,hY,gA,_,gB,_,gE,gD,_⟩:=hM;obtain ⟨_,_,_,m,ks,ta,td,tf,d,n,bt,bg⟩:=M;dsimp only at *;obtain ⟨_,_,_,_,_,_,_,_,_,_,_,_,_,_,_,_,rfl⟩:=Qav hx;obtain ⟨_,_,_,_,_,_,_,_,rfl⟩:=QaM hc;cases d;cases n;dsimp only [Mc.C,Mc.D,Dk.C,Nk.C,Dk.ok,Nk.ok] at *;generalize m.length=nn,wsv m=XX at *;clear hY gA gE gD gB;refine fnW Tryz.func130 ?_;(repeat' ((conv=>whnf);first|exact zi0|(refine zj0 ?_;intro hb)|(with_reducible first|refine zv o1 ?_|refine zv o2 ?_|refine zv o3 ?_|refine zv o4 ?_)|(refine zpu p1 ?_)|(refine zpu p2 ?_)|(refine zpu p3 ?_)|(refine zpu p4 ?_)|(refine zpu p5 ?_)|(refine zpu k1 ?_)|(refine zpu k2 ?_)|(refine zpu k3 ?_)|(refine zpu k4 ?_)|(refine zpu k5 ?_)|refine zst ?_|refine zbb ?_ ?_))
 all_goals exact Qb8
def Qiz (M:Mc):Nat:=Qft M &&& M.c.getD 7 0
theorem Qga (M:Mc) (hM:M.ok):FN 76 [.agg (M.C 0)] [⟨false,1,wsv M.m⟩] (· =⟨.a (.s (.u (Qiz M:Nat))),[],[]⟩):=by
 have hl:=Qri M hM;have ha:=QcI (Qft M) (M.c.getD 7 0) (Qe7 M) (Qab hM.cr 7);have gL:=Qaa M.m;unfold Qiz;obtain ⟨E,hE⟩:∃ E,Qft M &&& M.c.getD 7 0=E:=⟨_,rfl⟩;rw [hE] at ha ⊢;clear hE;generalize Qft M=L at *;obtain ⟨hx,hc,hY,gA,_,gB,_,gE,gD,_⟩:=hM;obtain ⟨_,_,c,m,_,_,_,_,d,n⟩:=M;dsimp only at *;obtain ⟨_,_,_,_,_,_,_,_,_,_,_,_,_,_,_,_,rfl⟩:=Qav hx;obtain ⟨_,_,_,_,_,_,_,c7,rfl⟩:=QaM hc;cases d;cases n;dsimp only [Mc.C,Mc.D,Dk.C,Nk.C,Dk.ok,Nk.ok] at *;generalize m.length=nn,wsv m=XX at *;change bits .and .u32 (L:Int) (c7:Int)=(E:Int) at ha;clear hY gA gE gD gB;refine fnW Tryz.func76 ?_;exact QDf
def QkV (M:Mc):Bool:=M.wt&&decide (Qiz M=0)
theorem QlP (M:Mc) (hM:M.ok):FN 37 [.agg (M.C 0)] [⟨false,1,wsv M.m⟩] (· =⟨.a (.s (.bool (QkV M))),[],[]⟩):=by
 have hl:=Qga M hM;have gL:=Qaa M.m;unfold QkV;generalize Qiz M=E at *;obtain ⟨B,hB⟩:∃ B,(M.wt&&decide (E=0))=B:=⟨_,rfl⟩;rw [hB];obtain ⟨hx,hc,hY,gA,_,gB,_,gE,gD,_⟩:=hM;obtain ⟨_,_,_,m,_,_,_,_,d,n,_,_,_,wt⟩:=M;dsimp only at *;obtain ⟨_,_,_,_,_,_,_,_,_,_,_,_,_,_,_,_,rfl⟩:=Qav hx;obtain ⟨_,_,_,_,_,_,_,_,rfl⟩:=QaM hc;cases d;cases n;dsimp only [Mc.C,Mc.D,Dk.C,Nk.C,Dk.ok,Nk.ok] at *;generalize m.length=nn,wsv m=XX at *;clear hY gA gE gD gB;cases wt
 all_goals
  refine fnW Tryz.func37 ?_;(repeat' ((conv=>whnf);first|exact zi2|(refine zj0 ?_;intro hb)|(refine QaD hl ?_)|refine zse ?_|refine zbb ?_ ?_));all_goals (conv=>whnf)
  all_goals first
   | (refine QcP ?_ ?_;(focus (exact Qb8));rw [← hB,Bool.eq_iff_iff];simp;done)
   | (refine QcP ?_ ?_;(focus (exact Qb8));rw [← hB,Bool.eq_iff_iff];simp;omega)
   | (exfalso;simp at hb;done)
def w32 (z:Int):Nat:=(z%4294967296).toNat
theorem Qat (z:Int):IntKind.u32.wrap z=((w32 z:Nat):Int):=QG0 z
theorem QaH (z:Int):w32 z<4294967296:=by unfold w32;omega
def QaE (x:List Nat) (r v:Nat):List Nat:=if r=0 then x else x.set r v
theorem Qaz (x:List Nat) (r v:Nat):(QaE x r v).length=x.length:=by unfold QaE;split<;>simp
theorem Qge {xs:List Nat} (h:∀ y∈xs,y<4294967296) (j w:Nat) (hw:w<4294967296):∀ y∈xs.set j w,y<4294967296:=fun y hy=>by
 rcases List.mem_or_eq_of_mem_set hy with h1|h1
 ·grind
 ·omega
theorem QdB {x:List Nat} (h:∀ y∈x,y<4294967296) (r v:Nat) (hv:v<4294967296):∀ y∈QaE x r v,y<4294967296:=by grind [QaE,Qge]
def wrL (c:List Nat) (csr:Int) (v:Nat):List Nat :=
 if csr=0 then c.set 0 (v%32) else if csr=7 then c.set 7 (v%32) else if csr=6 then c.set 6 (v%256)
 else if csr=1 then c.set 1 (v &&& (4294967295-3)) else if csr=2 then c.set 2 (v &&& (4294967295-3))
 else if csr=3 then c.set 3 v else if csr=4 then c.set 4 v else if csr=5 then c.set 5 v else c
theorem Qvh (x:List Nat) (pc:Nat) (c:List Nat) (csr:Int) (v:Nat):wrC x pc c csr v=Qay x pc (wrL c csr v):=by
 unfold wrC wrL
 repeat' split
 all_goals rfl
theorem QgE (c:List Nat) (csr:Int) (v:Nat):(wrL c csr v).length=c.length:=by
 unfold wrL
 repeat' split
 all_goals simp
theorem QAZ {c:List Nat} (h:∀ y∈c,y<4294967296) (csr:Int) (v:Nat) (hv:v<4294967296):∀ y∈wrL c csr v,y<4294967296:=by
 have:=Nat.and_le_left (n:=v) (m:=4294967295-3);unfold wrL
 repeat' split
 all_goals first|exact h|exact Qge h _ _ (by omega)
def trL (pc:Nat) (c:List Nat) (cause:Int) (bad:Nat):List Nat:= [Qfd (c.getD 0 0),c.getD 1 0,pc,w32 cause,bad,c.getD 5 0,c.getD 6 0,c.getD 7 0]
theorem Qbo (x:List Nat) (pc:Nat) (c:List Nat) (cause:Int) (bad:Nat):QyB x pc c cause bad=Qay x (c.getD 1 0) (trL pc c cause bad):=rfl
theorem Qgu {c:List Nat} (h:∀ y∈c,y<4294967296) (pc:Nat) (gQ:pc<4294967296) (cause:Int) (bad:Nat) (hb:bad<4294967296):∀ y∈trL pc c cause bad,y<4294967296:=fun y hy=>by
 have g:=Qab h;have:=Qta _ (g 0);have:=QaH cause;have:=g 1;have:=g 5;have:=g 6;have:=g 7;simp only [trL,List.mem_cons,List.not_mem_nil,or_false] at hy;omega
def Qde (o:Int) (a b:Nat):Bool :=
 if o=40 then decide (a=b) else if o=41 then decide (a≠b) else if o=42 then decide (sgn a<sgn b) else if o=43 then decide (sgn b≤sgn a) else if o=44 then decide (a<b) else decide (b≤a)
def exX (x:List Nat) (pc:Nat) (c:List Nat) (o:Int) (A B C:Nat) (m:Int):List Nat :=
 if 1≤o∧o≤13 then QaE x A (Qbv o (x.getD B 0) (x.getD C 0))
 else if 16≤o∧o≤23 then QaE x A (Qbv o (x.getD B 0) (w32 m))
 else if o=24 then QaE x A (w32 ((w32 m:Nat)*65536))
 else if o=48∨o=49 then QaE x A (w32 ((pc:Int)+4))
 else if o=58 then QaE x A (c.getD m.toNat 0)
 else x
def exP (x:List Nat) (pc:Nat) (c:List Nat) (o:Int) (A B:Nat) (m:Int):Nat :=
 if 40≤o∧o≤45 then (if Qde o (x.getD A 0) (x.getD B 0)=true then w32 ((pc:Int)+w32 (4*(w32 m:Nat))) else w32 ((pc:Int)+4))
 else if o=48 then w32 ((pc:Int)+w32 (4*(w32 m:Nat)))
 else if o=49 then w32 ((x.getD B 0:Nat)+(w32 m:Nat))
 else if o=56 then c.getD 1 0 else if o=57 then c.getD 2 0 else w32 ((pc:Int)+4)
def exC (x:List Nat) (pc:Nat) (c:List Nat) (o:Int) (A:Nat) (m:Int):List Nat :=
 if o=56 then trL pc c 7 0 else if o=57 then c.set 0 (QgC (c.getD 0 0)) else if o=59 then wrL c m (x.getD A 0) else c
def exE (x:List Nat) (o:Int) (A:Nat) (m:Int):List SV :=
 if o=60 then [.i 1,.i m,.i (A:Nat),.u (0:Nat)]
 else if o=61 then [.i 2,.i m,.i 0,.u (x.getD A 0:Nat)]
 else if o=62 then [.i 3,.i 0,.i 0,.u (0:Nat)]
 else if o=63 then [.i 5,.i 0,.i 0,.u (0:Nat)]
 else if o=64 then [.i 4,.i 0,.i 0,.u (0:Nat)]
 else [.i 0,.i 0,.i 0,.u (0:Nat)]
theorem QAR (A:Nat):0+0+((A:Nat):Int).toNat * ty24.size=A:=by show 0+0+((A:Nat):Int).toNat * 1=A;omega
end Go.Proofs.YtflelebfmdggkaaGreat
