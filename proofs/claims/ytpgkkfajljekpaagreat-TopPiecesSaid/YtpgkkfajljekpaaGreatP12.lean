import Derived.Test.YtpgkkfajljekpaaGreatP7
set_option linter.unusedSimpArgs false
set_option linter.unusedVariables false
set_option maxHeartbeats 0
set_option maxRecDepth 100000
namespace Go.Proofs.YtpgkkfajljekpaaGreat
open Go Go.RowKit
def Qct (ac:Int):Int:=if ac=1 then 4 else if ac=3 then 6 else 5
def QdM (ac:Int):Bool:=decide (1<=ac/\ac<=3)
theorem QcP (ac:Int):FN 245 [.s (.i ac)] [] (. =⟨.tup [.s (.i (Qct ac)),.s (.bool (QdM ac))],[],[]⟩):=by
 refine fnW Tryz.func245 ?_;exact QzS
theorem Qci (xs:List Nat) (n f:Nat) (hn:n<4294967296) (hf:f<4294967296):FN 246 [.s (.sl 0 0 n),.s (.u f)] [⟨false,1,wsv xs⟩] (. =⟨.a (.s (.bool (decide (f<mpg n)))),[],[]⟩):=by
 have hm:=QaS n;have hp:=QbF xs n hn;generalize mpg n=P at *;refine fnW Tryz.func246 ?_;(repeat' ((conv=>whnf);first|exact zi0|(refine zj0 ?_;intro hb)|(refine Qag (f:=36) (hp) [⟨0,0⟩] [(0,⟨false,1,wsv xs⟩)] (by first|exact rfl|simp [QcZ,QcM,Qc5]) ⟨rfl,trivial⟩ (⟨rfl,Qas (Qaa _),trivial⟩) ⟨rfl,Qbn⟩ ?_)|refine zs0 ?_|refine zbb ?_ ?_));all_goals (conv=>whnf)
 all_goals
  refine QbQ rfl (Qaa _) rfl ?_;simp only [Qbc];congr 3;rw [zbi,zde,zde];omega
def frW (p:Nat):Nat:=p / 2^8%2^8
theorem Qhx (p:Nat):frW p<256:=Nat.mod_lt _ (by decide)
theorem Qjm (p:Nat) (hp:p<4294967296):FN 248 [.s (.u p)] [] (. =⟨.a (.s (.u (frW p:Nat))),[],[]⟩):=by
 have h:FN 116 [.s (.u p),.s (.i 8),.s (.i 8)] [] (. =⟨.a (.s (.u ((frW p:Nat):Int))),[],[]⟩):=QdJ p 8 8 hp (by omega) (by omega) (by omega);generalize frW p=F at *;refine fnW Tryz.func248 ?_;(repeat' ((conv=>whnf);first|exact zi0|(refine zj0 ?_;intro hb)|(refine Qac (f:=116) (h) rfl ?_)|refine zs0 ?_|refine zbb ?_ ?_));all_goals (conv=>whnf)
 all_goals exact Qan rfl rfl
def pmW (p:Nat) (ac:Int):Bool:=decide (p &&& 1≠0/\(ac=3->p &&& 2≠0)/\(ac=1->p &&& 4≠0))
theorem QcB (p k:Nat) (hp:p<4294967296) (hk:k<4294967296):bits .and .u32 (p:Int) (k:Int)=((p &&& k:Nat):Int):=u32_and_nat p k hp hk
theorem Qep (p:Nat) (ac:Int) (hp:p<4294967296):FN 247 [.s (.u p),.s (.i ac)] [] (. =⟨.a (.s (.bool (pmW p ac))),[],[]⟩):=by
 have h1:bits .and .u32 (p:Int) 1=((p &&& 1:Nat):Int):=QcB p 1 hp (by omega);have h2:bits .and .u32 (p:Int) 2=((p &&& 2:Nat):Int):=QcB p 2 hp (by omega);have h4:bits .and .u32 (p:Int) 4=((p &&& 4:Nat):Int):=QcB p 4 hp (by omega);unfold pmW;generalize p &&& 1=a1,p &&& 2=a2,p &&& 4=a4 at *;refine fnW Tryz.func247 ?_;(repeat' ((conv=>whnf);first|exact zi0|(refine zj0 ?_;intro hb)|(with_reducible first|refine zv h1 ?_|refine zv h2 ?_|refine zv h4 ?_)|refine zs0 ?_|refine zbb ?_ ?_));all_goals (conv=>whnf)
 all_goals
  apply Qan
  (focus rfl)
  simp only [Qbc];congr 3
  first
   | exact (zdf (by omega)).symm
   | exact (zdt (by omega)).symm
   | (rw [zbi,zde];simp only [bne_iff_ne,ne_eq];omega)
def QaQ (xs:List Nat) (r va:Nat):Nat:=xs.getD (r*32+va / 128) 0
def Qa8 (r va:Nat):Nat:=r*128+4*(va / 128)
def Qbm (xs:List Nat) (n r va:Nat) (ac:Int):Bool:=QdM ac&&decide (va<4096)&&decide (r<mpg n)&&pmW (QaQ xs r va) ac&&decide (frW (QaQ xs r va)<mpg n)
def QfH (xs:List Nat) (n r va:Nat) (ac:Int):List SV:=if Qbm xs n r va ac=true then [.u (frW (QaQ xs r va)*128+va%128:Nat),.u (Qa8 r va:Nat),.i 0] else [.u 0,.u 0,.i (Qct ac)]
theorem QdC {xs:List Nat} {n r va:Nat} {ac:Int} (h:¬ (QdM ac=true/\va<4096/\r<mpg n/\pmW (QaQ xs r va) ac=true/\frW (QaQ xs r va)<mpg n)):QfH xs n r va ac= [.u 0,.u 0,.i (Qct ac)]:=by
 unfold QfH;rw [zN];intro hq;unfold Qbm at hq;simp only [zba,zde] at hq;exact h ⟨hq.1.1.1.1,hq.1.1.1.2,hq.1.1.2,hq.1.2,hq.2⟩
theorem QlC {xs:List Nat} {n r va:Nat} {ac:Int} (h1:QdM ac=true) (h2:va<4096) (h3:r<mpg n) (h4:pmW (QaQ xs r va) ac=true) (h5:frW (QaQ xs r va)<mpg n):QfH xs n r va ac= [.u (frW (QaQ xs r va)*128+va%128:Nat),.u (Qa8 r va:Nat),.i 0]:=by
 unfold QfH Qbm;rw [h1,h4,zdt h2,zdt h3,zdt h5];rfl
theorem Qcj (xs:List Nat) (n:Nat) (hn:n<4294967296):FN 99 [.s (.sl 0 0 n)] [⟨false,1,wsv xs⟩] (. =⟨.a (.s (.i (mpg n:Nat))),[],[]⟩):=by
 refine fnW Tryz.func99 ?_;exact QDK
theorem Qab {xs:List Nat} (h:ZL xs) (j:Nat):xs.getD j 0<4294967296:=by
 exact QDE
theorem Qq3 (xs:List Nat) (n r va:Nat) (ac:Int) (hl:xs.length=n) (hn:n<4294967296) (hY:ZL xs) (hr:r<4294967296) (gX:va<4294967296) (h:QdM ac=false) :
  FN 180 [.s (.sl 0 0 n),.s (.u r),.s (.u va),.s (.i ac)] [⟨false,1,wsv xs⟩] (. =⟨.a (.agg (QfH xs n r va ac)),[],[]⟩):=by
 have gL:=Qaa xs;have hm:=QaS n;have hmn:mpg n*32<=n:=QsC;have cc:=QcP ac;rw [QdC (by rw [h];simp)];rw [h] at cc;exact QDJ
theorem Qq1 (xs:List Nat) (n r va:Nat) (ac:Int) (hl:xs.length=n) (hn:n<4294967296) (hY:ZL xs) (hr:r<4294967296) (gX:va<4294967296) (h0:QdM ac=true) (h:4096<=va) :
  FN 180 [.s (.sl 0 0 n),.s (.u r),.s (.u va),.s (.i ac)] [⟨false,1,wsv xs⟩] (. =⟨.a (.agg (QfH xs n r va ac)),[],[]⟩):=by
 have gL:=Qaa xs;have hm:=QaS n;have hmn:mpg n*32<=n:=QsC;have cc:=QcP ac;rw [QdC (by omega)];rw [h0] at cc;exact QDJ
theorem Qnr (xs:List Nat) (n r va:Nat) (ac:Int) (hl:xs.length=n) (hn:n<4294967296) (hY:ZL xs) (hr:r<4294967296) (gX:va<4294967296) (h0:QdM ac=true) (h1:va<4096) (h:¬ r<mpg n) :
  FN 180 [.s (.sl 0 0 n),.s (.u r),.s (.u va),.s (.i ac)] [⟨false,1,wsv xs⟩] (. =⟨.a (.agg (QfH xs n r va ac)),[],[]⟩):=by
 have gL:=Qaa xs;have hm:=QaS n;have hmn:mpg n*32<=n:=QsC;have cc:=QcP ac;rw [QdC (by omega)];rw [h0] at cc;have ci:=Qci xs n r hn hr;rw [zdf h] at ci;generalize Qct ac=C,wsv xs=XX at *;refine fnW Tryz.func180 ?_;(repeat' ((conv=>whnf);first|exact zi0|(refine zj0 ?_;intro hb)|(refine Qac (f:=245) (cc) rfl ?_)|(refine Qag (f:=246) ci [⟨_,0⟩] [(_,⟨false,1,XX⟩)] rfl ⟨rfl,trivial⟩ ⟨rfl,Qas gL,trivial⟩ ⟨rfl,Qbn⟩ ?_)|refine zs0 ?_|refine zbb ?_ ?_))
 all_goals exact QHw
theorem Qnq (xs:List Nat) (n r va:Nat) (ac:Int) (hl:xs.length=n) (hn:n<4294967296) (hY:ZL xs) (hr:r<4294967296) (gX:va<4294967296) (h0:QdM ac=true) (h1:va<4096) (h2:r<mpg n) (h:pmW (QaQ xs r va) ac=false) :
  FN 180 [.s (.sl 0 0 n),.s (.u r),.s (.u va),.s (.i ac)] [⟨false,1,wsv xs⟩] (. =⟨.a (.agg (QfH xs n r va ac)),[],[]⟩):=by
 have gL:=Qaa xs;have hm:=QaS n;have hmn:mpg n*32<=n:=QsC;have cc:=QcP ac;rw [h0] at cc;have ci:=Qci xs n r hn hr;rw [zdt h2] at ci;rw [QdC (by rw [h];simp)]
 have he:Qa8 r va<4294967296/\Qa8 r va / 4=r*32+va / 128/\ld4 n (Qa8 r va)=true:=by
  unfold Qa8;refine ⟨by omega,by omega,?_⟩;unfold ld4;rw [zdt (by omega),zdt (by omega)];rfl
 have qK:=Qb8 xs n (Qa8 r va) hl hn he.1 he.2.2
 have HM:(wsv xs)[Qa8 r va / 4]?=some (.u (QaQ xs r va:Nat)):=by
  rw [he.2.1];exact QaY xs _ (by omega)
 rw [he.2.1] at qK;change Fn _ _ _ _ (. =⟨.tup [.s (.u (QaQ xs r va:Nat)),.s (.bool true)],[],[]⟩) at qK;have hp:=Qab hY (r*32+va / 128);change QaQ xs r va<4294967296 at hp;have e1:IntKind.u32.wrap ((va:Int).tdiv 128)=((va / 128:Nat):Int):=Qz0;have e1':(va:Int) / 128=((va / 128:Nat):Int):=by omega
 have e2:IntKind.u32.wrap (4*((va / 128:Nat):Int))=((4*(va / 128):Nat):Int):=QHt;have e0:IntKind.u32.wrap ((r:Int)*128)=((r*128:Nat):Int):=QHt;have e3:IntKind.u32.wrap (((r*128:Nat):Int)+((4*(va / 128):Nat):Int))=((Qa8 r va:Nat):Int):=Qu5;have yI:Qa8 r va / 4<n:=by rw [he.2.1];omega
 have x1:0+(((Qa8 r va:Nat):Int) / 4).toNat * ty24.size=Qa8 r va / 4:=QD5;generalize Qa8 r va=E at *;have uJ:=Qhx (QaQ xs r va);have cpm:=Qep (QaQ xs r va) ac hp;rw [h] at cpm;generalize QaQ xs r va=pte,Qct ac=C,wsv xs=XX at *;refine fnW Tryz.func180 ?_;(repeat' ((conv=>whnf);first|exact zi0|(refine zj0 ?_;intro hb)|refine QIo ?_|(refine Qac (f:=245) (cc) rfl ?_)|(refine Qag (f:=246) ci [⟨_,0⟩] [(_,⟨false,1,XX⟩)] rfl ⟨rfl,trivial⟩ ⟨rfl,Qas gL,trivial⟩ ⟨rfl,Qbn⟩ ?_)|(refine Qag (f:=115) qK [⟨_,0⟩] [(_,⟨false,1,XX⟩)] rfl ⟨rfl,trivial⟩ ⟨rfl,Qas gL,trivial⟩ ⟨rfl,Qbn⟩ ?_)|(refine Qac (f:=247) (cpm) rfl ?_)|refine zs0 ?_|refine zbb ?_ ?_))
 all_goals exact QHw
theorem Qq2 (xs:List Nat) (n r va:Nat) (ac:Int) (hl:xs.length=n) (hn:n<4294967296) (hY:ZL xs) (hr:r<4294967296) (gX:va<4294967296) (h0:QdM ac=true) (h1:va<4096) (h2:r<mpg n) (h3:pmW (QaQ xs r va) ac=true) (h:¬ frW (QaQ xs r va)<mpg n) :
  FN 180 [.s (.sl 0 0 n),.s (.u r),.s (.u va),.s (.i ac)] [⟨false,1,wsv xs⟩] (. =⟨.a (.agg (QfH xs n r va ac)),[],[]⟩):=by
 have gL:=Qaa xs;have hm:=QaS n;have hmn:mpg n*32<=n:=QsC;have cc:=QcP ac;rw [h0] at cc;have ci:=Qci xs n r hn hr;rw [zdt h2] at ci;rw [QdC (by omega)]
 have he:Qa8 r va<4294967296/\Qa8 r va / 4=r*32+va / 128/\ld4 n (Qa8 r va)=true:=by
  unfold Qa8;refine ⟨by omega,by omega,?_⟩;unfold ld4;rw [zdt (by omega),zdt (by omega)];rfl
 have qK:=Qb8 xs n (Qa8 r va) hl hn he.1 he.2.2
 have HM:(wsv xs)[Qa8 r va / 4]?=some (.u (QaQ xs r va:Nat)):=by
  rw [he.2.1];exact QaY xs _ (by omega)
 rw [he.2.1] at qK;change Fn _ _ _ _ (. =⟨.tup [.s (.u (QaQ xs r va:Nat)),.s (.bool true)],[],[]⟩) at qK;have hp:=Qab hY (r*32+va / 128);change QaQ xs r va<4294967296 at hp;have e1:IntKind.u32.wrap ((va:Int).tdiv 128)=((va / 128:Nat):Int):=Qz0;have e1':(va:Int) / 128=((va / 128:Nat):Int):=by omega
 have e2:IntKind.u32.wrap (4*((va / 128:Nat):Int))=((4*(va / 128):Nat):Int):=QHt;have e0:IntKind.u32.wrap ((r:Int)*128)=((r*128:Nat):Int):=QHt;have e3:IntKind.u32.wrap (((r*128:Nat):Int)+((4*(va / 128):Nat):Int))=((Qa8 r va:Nat):Int):=Qu5;have yI:Qa8 r va / 4<n:=by rw [he.2.1];omega
 have x1:0+(((Qa8 r va:Nat):Int) / 4).toNat * ty24.size=Qa8 r va / 4:=QD5;generalize Qa8 r va=E at *;have uJ:=Qhx (QaQ xs r va);have cpm:=Qep (QaQ xs r va) ac hp;rw [h3] at cpm;have cfr:=Qjm (QaQ xs r va) hp;have cif:=Qci xs n (frW (QaQ xs r va)) hn (by omega);rw [zdf h] at cif;generalize frW (QaQ xs r va)=F at *;generalize QaQ xs r va=pte,Qct ac=C,wsv xs=XX at *;refine fnW Tryz.func180 ?_;(repeat' ((conv=>whnf);first|exact zi0|(refine zj0 ?_;intro hb)|refine QIo ?_|(refine Qac (f:=245) (cc) rfl ?_)|(refine Qag (f:=246) ci [⟨_,0⟩] [(_,⟨false,1,XX⟩)] rfl ⟨rfl,trivial⟩ ⟨rfl,Qas gL,trivial⟩ ⟨rfl,Qbn⟩ ?_)|(refine Qag (f:=115) qK [⟨_,0⟩] [(_,⟨false,1,XX⟩)] rfl ⟨rfl,trivial⟩ ⟨rfl,Qas gL,trivial⟩ ⟨rfl,Qbn⟩ ?_)|(refine Qac (f:=247) (cpm) rfl ?_)|(refine Qac (f:=248) (cfr) rfl ?_)|(refine Qag (f:=246) cif [⟨_,0⟩] [(_,⟨false,1,XX⟩)] rfl ⟨rfl,trivial⟩ ⟨rfl,Qas gL,trivial⟩ ⟨rfl,Qbn⟩ ?_)|refine zs0 ?_|refine zbb ?_ ?_))
 all_goals exact QHw
theorem Qt4 (xs:List Nat) (n r va:Nat) (ac:Int) (hl:xs.length=n) (hn:n<4294967296) (hY:ZL xs) (hr:r<4294967296) (gX:va<4294967296) (h0:QdM ac=true) (h1:va<4096) (h2:r<mpg n) (h3:pmW (QaQ xs r va) ac=true) (h:frW (QaQ xs r va)<mpg n) :
  FN 180 [.s (.sl 0 0 n),.s (.u r),.s (.u va),.s (.i ac)] [⟨false,1,wsv xs⟩] (. =⟨.a (.agg (QfH xs n r va ac)),[],[]⟩):=by
 have gL:=Qaa xs;have hm:=QaS n;have hmn:mpg n*32<=n:=QsC;have cc:=QcP ac;rw [h0] at cc;have ci:=Qci xs n r hn hr;rw [zdt h2] at ci;rw [QlC h0 h1 h2 h3 h]
 have he:Qa8 r va<4294967296/\Qa8 r va / 4=r*32+va / 128/\ld4 n (Qa8 r va)=true:=by
  unfold Qa8;refine ⟨by omega,by omega,?_⟩;unfold ld4;rw [zdt (by omega),zdt (by omega)];rfl
 have qK:=Qb8 xs n (Qa8 r va) hl hn he.1 he.2.2
 have HM:(wsv xs)[Qa8 r va / 4]?=some (.u (QaQ xs r va:Nat)):=by
  rw [he.2.1];exact QaY xs _ (by omega)
 rw [he.2.1] at qK;change Fn _ _ _ _ (. =⟨.tup [.s (.u (QaQ xs r va:Nat)),.s (.bool true)],[],[]⟩) at qK;have hp:=Qab hY (r*32+va / 128);change QaQ xs r va<4294967296 at hp;have e1:IntKind.u32.wrap ((va:Int).tdiv 128)=((va / 128:Nat):Int):=Qz0;have e1':(va:Int) / 128=((va / 128:Nat):Int):=by omega
 have e2:IntKind.u32.wrap (4*((va / 128:Nat):Int))=((4*(va / 128):Nat):Int):=QHt;have e0:IntKind.u32.wrap ((r:Int)*128)=((r*128:Nat):Int):=QHt;have e3:IntKind.u32.wrap (((r*128:Nat):Int)+((4*(va / 128):Nat):Int))=((Qa8 r va:Nat):Int):=Qu5;have yI:Qa8 r va / 4<n:=by rw [he.2.1];omega
 have x1:0+(((Qa8 r va:Nat):Int) / 4).toNat * ty24.size=Qa8 r va / 4:=QD5;generalize Qa8 r va=E at *;have uJ:=Qhx (QaQ xs r va);have cpm:=Qep (QaQ xs r va) ac hp;rw [h3] at cpm;have cfr:=Qjm (QaQ xs r va) hp;have cif:=Qci xs n (frW (QaQ xs r va)) hn (by omega);rw [zdt h] at cif;generalize frW (QaQ xs r va)=F at *;have e4:IntKind.u32.wrap ((F:Int)*128)=((F*128:Nat):Int):=QHt;have e5:(va:Int).tmod 128=((va%128:Nat):Int):=by rw [Qge (by omega)];omega
 have e6:IntKind.u32.wrap (((F*128:Nat):Int)+((va%128:Nat):Int))=((F*128+va%128:Nat):Int):=QHt;generalize QaQ xs r va=pte,Qct ac=C,wsv xs=XX at *;refine fnW Tryz.func180 ?_;(repeat' ((conv=>whnf);first|exact zi0|(refine zj0 ?_;intro hb)|(with_reducible first|refine zv e0 ?_|refine zv e1 ?_|refine zv e2 ?_|refine zv e3 ?_|refine zv e4 ?_|refine zv e5 ?_|refine zv e6 ?_)|(refine Qac (f:=245) (cc) rfl ?_)|(refine Qag (f:=246) ci [⟨_,0⟩] [(_,⟨false,1,XX⟩)] rfl ⟨rfl,trivial⟩ ⟨rfl,Qas gL,trivial⟩ ⟨rfl,Qbn⟩ ?_)|(refine Qag (f:=115) qK [⟨_,0⟩] [(_,⟨false,1,XX⟩)] rfl ⟨rfl,trivial⟩ ⟨rfl,Qas gL,trivial⟩ ⟨rfl,Qbn⟩ ?_)|(refine Qac (f:=247) (cpm) rfl ?_)|(refine Qac (f:=248) (cfr) rfl ?_)|(refine Qag (f:=246) cif [⟨_,0⟩] [(_,⟨false,1,XX⟩)] rfl ⟨rfl,trivial⟩ ⟨rfl,Qas gL,trivial⟩ ⟨rfl,Qbn⟩ ?_)|refine zs0 ?_|refine zbb ?_ ?_))
 all_goals exact QHw
theorem QiJ (xs:List Nat) (n r va:Nat) (ac:Int) (hl:xs.length=n) (hn:n<4294967296) (hY:ZL xs) (hr:r<4294967296) (gX:va<4294967296) :
  FN 180 [.s (.sl 0 0 n),.s (.u r),.s (.u va),.s (.i ac)] [⟨false,1,wsv xs⟩] (. =⟨.a (.agg (QfH xs n r va ac)),[],[]⟩):=by
 cases h0:QdM ac with
 | false=>exact Qq3 xs n r va ac hl hn hY hr gX h0
 | true =>
  by_cases h1:va<4096
  .by_cases h2:r<mpg n
   .cases h3:pmW (QaQ xs r va) ac with
    | false=>exact Qnq xs n r va ac hl hn hY hr gX h0 h1 h2 h3
    | true =>
     by_cases h4:frW (QaQ xs r va)<mpg n
     .exact Qt4 xs n r va ac hl hn hY hr gX h0 h1 h2 h3 h4
     .exact Qq2 xs n r va ac hl hn hY hr gX h0 h1 h2 h3 h4
   .exact Qnr xs n r va ac hl hn hY hr gX h0 h1 h2
  .exact Qq1 xs n r va ac hl hn hY hr gX h0 (by omega)
theorem Qbt (xs:List Nat) (n:Nat) (hl:xs.length=n) (hn:n<=4294967296):FN 19 [.s (.sl 0 0 n)] [⟨false,1,wsv xs⟩] (. =⟨.a (.s (.sl 1 0 n)),[],[⟨true,1,wsv xs⟩]⟩):=by
 refine fnW Tryz.func19 ?_;(repeat' ((conv=>whnf);first|exact zi0|(refine zj0 ?_;intro hb)|(refine Ns.any rfl ?_;intro bn gM)|(apply Sk.mk; . exact Qc8 (wsv xs) (by show (wsv xs).length=n*1;simp [hl]) (QbD xs))|(apply Sd.mk; . refine ⟨rfl,rfl,rfl,?_,?_⟩<;>first|omega|(show (0+n)*4<=_;omega))|((with_reducible apply Vl.mk (α:=Nat)); . exact Nat.zero_add n)|((with_reducible apply Vl.mk (α:=List SV)); . exact zna (wsv xs))|refine zs0 ?_|refine zbb ?_ ?_));all_goals (conv=>whnf)
 .obtain rfl:n=0:=gM hb
  obtain rfl:=List.eq_nil_of_length_eq_zero hl
  (exact Qn6)
 ·(exact QbG)
theorem Qbx (xs:List Nat) (j w:Nat) (hj:j<xs.length):QaC (wsv xs) j [.u w]=wsv (xs.set j w):=by
 apply List.ext_getElem?;intro i;rw [Qbg _ _ _ _ (by simp;omega)];unfold wsv;simp only [zgm,List.length_cons,List.length_nil,Nat.zero_add,List.getElem?_set]
 by_cases hi:i=j
 .subst hi
  rw [zP (by omega),zP rfl,zP hj];simp
 .rw [zN (by omega),zN (by omega)]
theorem Qj3 (xs:List Nat) (n a v:Nat) (hl:xs.length=n) (hn:n<4294967296) (ha:a<4294967296) (qZ:ld4 n a=true):FN 122 [.s (.sl 0 0 n),.s (.u a),.s (.i 4),.s (.u v)] [⟨false,1,wsv xs⟩] (. =⟨.tup [.s (.sl 1 0 n),.s (.bool true)],[],[⟨true,1,wsv (xs.set (a / 4) v)⟩]⟩):=by
 have hw:=QhP xs n a hn ha;rw [qZ] at hw;have zE:=Qeo qZ;have gK:=Qbt xs n hl (by omega);have gZ:=Qbx xs (a / 4) v (by omega);have uW:(wsv xs).length=n:=by simp [hl]
 have fM:Qad (wsv xs)=true:=Qaa xs;have VJ:Qad (wsv (xs.set (a / 4) v))=true:=Qaa _;generalize wsv (xs.set (a / 4) v)=X2,wsv xs=X at *;refine fnW Tryz.func122 ?_;(repeat' ((conv=>whnf);first|exact zi0|(refine zj0 ?_;intro hb)|(refine Qag (f:=182) hw [⟨0,0⟩] [(0,⟨false,1,X⟩)] rfl ⟨rfl,trivial⟩ ⟨rfl,Qas fM,trivial⟩ ⟨rfl,Qbn⟩ ?_)|(refine Qag (f:=19) gK [⟨0,0⟩] [(0,⟨false,1,X⟩)] rfl ⟨rfl,trivial⟩ ⟨rfl,Qas fM,trivial⟩ ⟨rfl,Qbn⟩ ?_)|refine Qex ?_|(apply Sd.mk; . refine ⟨rfl,rfl,rfl,?_⟩;show _<=X.length;simp;omega)|refine QsL ?_|refine zq7 ?_|refine zs0 ?_|refine zbb ?_ ?_));all_goals (conv=>whnf)
 all_goals (exact QbG)
theorem Qk6 (a b:Nat) (ha:a<4294967296) (hb:b<4294967296):bits .or .u32 (a:Int) (b:Int)=((a ||| b:Nat):Int)/\a ||| b<4294967296:=by
 have h:a ||| b<2^32:=Nat.or_lt_two_pow (by simpa using ha) (by simpa using hb)
 have e:∀ c:Nat,c<4294967296->(BitVec.ofInt 32 (c:Int)).toNat=c:=fun c hc=>by
  rw [BitVec.toNat_ofInt];simp;omega
 refine ⟨?_,by simpa using h⟩;show IntKind.u32.wrap (((BitVec.ofInt 32 (a:Int)) ||| (BitVec.ofInt 32 (b:Int))).toNat:Int)=_;rw [BitVec.toNat_or,e a ha,e b hb,Qcf];simp only [Nat.reducePow] at h;omega
def QbI (p:Nat) (ac:Int):Nat:=if ac=3 then (p ||| 8) ||| 16 else p ||| 8
theorem Qls (p:Nat) (ac:Int) (hp:p<4294967296):QbI p ac<4294967296:=by
 have h1:=(Qk6 p 8 hp (by omega)).2;have h2:=(Qk6 (p ||| 8) 16 h1 (by omega)).2;unfold QbI;split<;>assumption
theorem Qj6 (xs:List Nat) (n E:Nat) (ac:Int) (hl:xs.length=n) (hn:n<4294967296) (hY:ZL xs) (hE:E<4294967296) (qZ:ld4 n E=true) :
  FN 181 [.s (.sl 0 0 n),.s (.u E),.s (.i ac)] [⟨false,1,wsv xs⟩] (. =⟨.a (.s (.sl 1 0 n)),[],[⟨true,1,wsv (xs.set (E / 4) (QbI (xs.getD (E / 4) 0) ac))⟩]⟩):=by
 have qK:=Qb8 xs n E hl hn hE qZ;have gN:=Qj3 xs n E (QbI (xs.getD (E / 4) 0) ac) hl hn hE qZ;have hp:=Qab hY (E / 4);have gL:=Qaa xs;have gY:=Qaa (xs.set (E / 4) (QbI (xs.getD (E / 4) 0) ac));generalize wsv (xs.set (E / 4) (QbI (xs.getD (E / 4) 0) ac))=X2 at *;generalize xs.getD (E / 4) 0=p at *;have o1:=Qk6 p 8 hp (by omega);have o2:=Qk6 (p ||| 8) 16 o1.2 (by omega);have k1:bits .or .u32 (p:Int) 8=((p ||| 8:Nat):Int):=o1.1;have k2:bits .or .u32 ((p ||| 8:Nat):Int) 16=(((p ||| 8) ||| 16:Nat):Int):=o2.1;have t3:ac=3->QbI p ac=(p ||| 8) ||| 16:=fun h=>zP h
 have t0:ac≠3->QbI p ac=p ||| 8:=fun h=>zN h
 clear o1 o2;generalize (p ||| 8) ||| 16=p2 at *;generalize p ||| 8=p1,wsv xs=XX at *
 by_cases h3:ac=3
 .rw [t3 h3] at gN
  subst h3;refine fnW Tryz.func181 ?_;(repeat' ((conv=>whnf);first|exact zi0|(refine zj0 ?_;intro hb)|(with_reducible first|refine zv k1 ?_|refine zv k2 ?_)|(refine Qag (f:=115) qK [⟨_,0⟩] [(_,⟨false,1,XX⟩)] rfl ⟨rfl,trivial⟩ ⟨rfl,Qas gL,trivial⟩ ⟨rfl,Qbn⟩ ?_)|(refine Qag (f:=122) gN [⟨_,0⟩] [(_,⟨false,1,XX⟩)] rfl ⟨rfl,trivial⟩ ⟨rfl,Qas gL,trivial⟩ ⟨rfl,Qbn⟩ ?_)|refine zs0 ?_|refine zbb ?_ ?_))
  all_goals exact QbG
 .rw [t0 h3] at gN
  refine fnW Tryz.func181 ?_;(repeat' ((conv=>whnf);first|exact zi0|(refine zj0 ?_;intro hb)|(with_reducible refine zv k1 ?_)|(refine Qag (f:=115) qK [⟨_,0⟩] [(_,⟨false,1,XX⟩)] rfl ⟨rfl,trivial⟩ ⟨rfl,Qas gL,trivial⟩ ⟨rfl,Qbn⟩ ?_)|(refine Qag (f:=122) gN [⟨_,0⟩] [(_,⟨false,1,XX⟩)] rfl ⟨rfl,trivial⟩ ⟨rfl,Qas gL,trivial⟩ ⟨rfl,Qbn⟩ ?_)|refine zs0 ?_|refine zbb ?_ ?_))
  all_goals exact QbG
def QbJ (b:Nat):Nat->Nat
 | 0=>0
 | j+1=>QbJ b j+b / 2^j%2
theorem Qb2 (b:Nat):∀ j,QbJ b j<=j
 | 0=>Nat.le_refl _
 | j+1=>by have:=Qb2 b j;unfold QbJ;omega
theorem QiW (a:Nat) (ha:a<4294967296):bits .and .u32 (a:Int) 1=((a%2:Nat):Int):=Qbi a 1 ha (by omega)
theorem QnQ (b j:Nat) (hj:j<32):(b:Int) / 2^min (((j:Nat):Int)).toNat IntKind.u32.bits=((b / 2^j:Nat):Int):=by
 rw [show min (((j:Nat):Int)).toNat IntKind.u32.bits=j by show min j 32=j;omega,Int.natCast_ediv,Int.natCast_pow];rfl
def QEN (p j:Nat) (bt bg:Nat):St :=
 ⟨[(1,.a (.s (.ptr 0 0))),(3,.a (.s (.i p))),(4,.a (.s (.i j)))],[(0,some ⟨true,1,[.u bt,.u bg]⟩)],[0]⟩
theorem QjN (bt bg:Nat) (h2:bg<4294967296):FN 231 [.agg [.u bt,.u bg]] [] (. =⟨.a (.s (.i (QbJ bg 32:Nat))),[],[]⟩):=by
 refine fnW Tryz.func231 ?_;(repeat' ((conv=>whnf);first|exact zi0|(refine zj0 ?_;intro hb)|refine zst ?_|refine zbb ?_ ?_));all_goals (conv=>whnf)
 refine Lp.inv (fun mm σ=>∃ j:Nat,mm+j=32/\σ=QEN (QbJ bg j) j bt bg) ?_ ?_
 .refine ⟨32,QEN 0 0 bt bg,?_,0,by omega,rfl⟩
  (exact zwL [(0,some _)])
 rintro mm σ ⟨j,yY,rfl⟩;unfold QEN
 by_cases hj:j<32
 .have jY:=Qb2 bg j
  have s1:=QnQ bg j hj;have s2:=QiW (bg / 2^j) (Nat.lt_of_le_of_lt (Nat.div_le_self _ _) h2)
  have s4:IntKind.i64.wrap (((QbJ bg j:Nat):Int)+((bg / 2^j%2:Nat):Int))=((QbJ bg (j+1):Nat):Int):=by
   rw [Qb1 (by omega) (by omega),show QbJ bg (j+1)=QbJ bg j+bg / 2^j%2 from rfl];omega
  have q2:IntKind.i64.wrap ((j:Int)+1)=((j+1:Nat):Int):=QaR;have hb2:bg / 2^j%2<2:=Nat.mod_lt _ (by decide);obtain ⟨P1,hP1⟩:∃ P1,QbJ bg (j+1)=P1:=⟨_,rfl⟩;rw [hP1] at s4;generalize QbJ bg j=P0,bg / 2^j=bj at *;generalize bj%2=bb at *;(repeat' ((conv=>whnf);first|exact zi2|(refine zj0 ?_;intro hb)|(with_reducible first|refine zv s1 ?_|refine zv s2 ?_|refine zv s4 ?_|refine zv q2 ?_)|refine zse ?_|refine zbb ?_ ?_));all_goals (conv=>whnf)
  all_goals first
   | (
     refine ⟨mm-1,QEN P1 (j+1) bt bg,by omega,?_,j+1,by omega,by rw [hP1];rfl⟩
     (exact zwL [(0,some 0)]))
 .obtain rfl:j=32:=by omega
  generalize QbJ bg 32=P at *;exact QEr
def QbX (b:Nat) (p:Int):Bool:=decide (∀ i:Nat,i<32->b / 2^i%2=1->(i:Int)<p)
def QED (j:Nat) (bt bg:Nat) (p:Int):St :=
 ⟨[(1,.a (.s (.i p))),(2,.a (.s (.ptr 0 0))),(5,.a (.s (.i j)))],[(0,some ⟨true,1,[.u bt,.u bg]⟩)],[0]⟩
theorem Qnt (bt bg:Nat) (h2:bg<4294967296) (p:Int):FN 104 [.agg [.u bt,.u bg],.s (.i p)] [] (. =⟨.a (.s (.bool (QbX bg p))),[],[]⟩):=by
 obtain ⟨B,hB⟩:∃ B,QbX bg p=B:=⟨_,rfl⟩;rw [hB];unfold QbX at hB;refine fnW Tryz.func104 ?_;(repeat' ((conv=>whnf);first|exact zi0|(refine zj0 ?_;intro hb)|refine zst ?_|refine zbb ?_ ?_));all_goals (conv=>whnf)
 refine Lp.inv (fun mm σ=>∃ j:Nat,mm+j=32/\(∀ i:Nat,i<j->bg / 2^i%2=1->(i:Int)<p)/\σ=QED j bt bg p) ?_ ?_
 .refine ⟨32,QED 0 bt bg p,?_,0,by omega,fun i h=>by omega,rfl⟩
  (exact zwL [(0,some _)])
 rintro mm σ ⟨j,yY,fD,rfl⟩;unfold QED
 by_cases hj:j<32
 .have s1:=QnQ bg j hj
  have s2:=QiW (bg / 2^j) (Nat.lt_of_le_of_lt (Nat.div_le_self _ _) h2);have q2:IntKind.i64.wrap ((j:Int)+1)=((j+1:Nat):Int):=QaR
  by_cases hbad:bg / 2^j%2=1/\p<=(j:Int)
  .obtain rfl:B=false:=by
    rw [<- hB];refine zdf (fun h=>?_);have:=h j hj hbad.1;omega
   rw [hbad.1] at s2;have h3:=hbad.2;clear hB fD hbad;generalize bg / 2^j=bj at *;(repeat' ((conv=>whnf);first|exact zi2|(refine zj0 ?_;intro hb)|refine QHn ?_|refine zse ?_|refine zbb ?_ ?_))
   all_goals exact zF_
  .have vS:∀ i:Nat,i<j+1->bg / 2^i%2=1->(i:Int)<p:=fun i hi h=>by
    by_cases e:i=j
    .subst e;exact Int.lt_of_not_ge (fun h2=>hbad ⟨h,h2⟩)
    .exact fD i (by omega) h
   have h3:bg / 2^j%2=1->(j:Int)<p:=vS j (by omega);have hb2:bg / 2^j%2<2:=Nat.mod_lt _ (by decide);clear hB fD hbad;generalize bg / 2^j=bj at *;generalize bj%2=bb at *;have e:bb=0\/bb=1:=by omega
   rcases e with rfl|rfl
   all_goals
    (repeat' ((conv=>whnf);first|exact zi2|(refine zj0 ?_;intro hb)|(with_reducible first|refine zv s1 ?_|refine zv s2 ?_|refine zv q2 ?_)|refine zse ?_|refine zbb ?_ ?_));all_goals (conv=>whnf)
    all_goals first
     | (exfalso;omega)
     | (exfalso;simp at hb;done)
     | (
       refine ⟨mm-1,QED (j+1) bt bg p,by omega,?_,j+1,by omega,vS,rfl⟩
       (exact zwL [(0,some 0)]))
 .obtain rfl:j=32:=by omega
  obtain rfl:B=true:=by rw [<- hB];exact zdt fD
  exact QEr
def QcV (bt bg:Nat):Bool:=(((QbJ bg 32:Nat):Int) !=((bt:Nat):Int))
theorem Qk9 (bt bg:Nat) (h1:bt<4294967296) (h2:bg<4294967296):FN 244 [.agg [.u bt,.u bg]] [] (. =⟨.a (.s (.bool (QcV bt bg))),[],[]⟩):=by
 have hg:=QjN bt bg h2;have jY:=Qb2 bg 32;unfold QcV;generalize QbJ bg 32=P at *;refine fnW Tryz.func244 ?_;exact QzT
theorem Qlj (a:Bool) (d:Nat) (f:Bool):FN 240 [.agg [.bool a,.u d,.bool f]] [] (. =⟨.a (.s (.bool f)),[],[]⟩):=by
 refine fnW Tryz.func240 ?_;exact QDs
def Qcl (k:ByteArray):Bool:=decide ((0:Int)<(k.size:Int))
theorem Qla (k:ByteArray):FN 241 [.agg [.str k]] [] (. =⟨.a (.s (.bool (Qcl k))),[],[]⟩):=by
 unfold Qcl;refine fnW Tryz.func241 ?_;exact QDs
theorem Qld (d:Dk):FN 242 [.agg d.C] [] (. =⟨.a (.s (.bool (QbP d.st))),[],[]⟩):=by
 obtain ⟨_,_,_,st⟩:=d;dsimp only [Dk.C];obtain ⟨B,hB⟩:∃ B,QbP st=B:=⟨_,rfl⟩;rw [hB];unfold QbP at hB;refine fnW Tryz.func242 ?_;exact QzU
theorem Qlh (n:Nk):FN 243 [.agg n.C] [] (. =⟨.a (.s (.bool n.re)),[],[]⟩):=by
 obtain ⟨_,_,_,_,re⟩:=n;dsimp only [Nk.C];refine fnW Tryz.func243 ?_;exact QDs
def lnN (b:Bool) (k:Nat):Nat:=if b=true then 2^k else 0
theorem Qd3 (b:Bool) (k:Nat) (hk:k<32):lnN b k<4294967296:=by
 unfold lnN;split
 .exact Nat.lt_of_lt_of_le (Nat.pow_lt_pow_right (by decide) hk) (by decide)
 .decide
theorem QeU (b:Bool) (k:Nat) (hk:k<5):FN 239 [.s (.bool b),.s (.i k)] [] (. =⟨.a (.s (.u (lnN b k:Nat))),[],[]⟩):=by
 have e:k=0\/k=1\/k=2\/k=3\/k=4:=by omega
 cases b<;>rcases e with rfl|rfl|rfl|rfl|rfl
 all_goals
  refine fnW Tryz.func239 ?_;exact Qob
def Qfx (M:Mc):Nat:=(((lnN M.tf 0 ||| lnN (Qcl M.ks) 1) ||| lnN (QbP M.d.st) 2) ||| lnN M.n.re 3) ||| lnN (QcV M.bt M.bg) 4
def ld1 (n a:Nat):Bool:=decide (a+1<=mpg n*128)
theorem Qif {n a:Nat} (h:ld1 n a=true):a / 4<n:=by
 unfold ld1 mpg at h;simp at h;split at h<;>omega
theorem Qfn (xs:List Nat) (n a:Nat) (hn:n<4294967296) (ha:a<4294967296):FN 182 [.s (.sl 0 0 n),.s (.u a),.s (.i 1)] [⟨false,1,wsv xs⟩] (. =⟨.a (.s (.bool (ld1 n a))),[],[]⟩):=by
 have hm:=QaS n;refine fnW Tryz.func182 ?_;(repeat' ((conv=>whnf);first|exact zi0|(refine zj0 ?_;intro hb)|(refine Qag (f:=36) (QbF xs n hn) [⟨0,0⟩] [(0,⟨false,1,wsv xs⟩)] (by first|exact rfl|simp [QcZ,QcM,Qc5]) ⟨rfl,trivial⟩ (⟨rfl,Qas (Qaa _),trivial⟩) ⟨rfl,Qbn⟩ ?_)|refine zs0 ?_|refine zbb ?_ ?_));all_goals (conv=>whnf)
 all_goals
  refine QbQ rfl (Qaa _) rfl ?_;simp only [Qbc];congr 3;have hy:decide ((a:Int)+1<=(mpg n:Nat)*128)=decide (a+1<=mpg n*128):=by congr 1;apply propext;omega
  unfold ld1;rw [<- hy]
def byN (w a:Nat):Nat:=w / 2^(a%4*8)%2^8
theorem QFq (a:Nat):((a:Int).tmod 4)=((a%4:Nat):Int):=by rw [Qge (by omega)];omega
theorem QID (a:Nat):IntKind.i64.wrap ((a%4:Nat):Int)=((a%4:Nat):Int):=Qb1 (by omega) (by omega)
theorem QIE (a:Nat):IntKind.i64.wrap (((a%4:Nat):Int)*8)=((a%4*8:Nat):Int):=by rw [Qb1 (by omega) (by omega)];omega
theorem QDd {xs:List Nat} (h:ZL xs) (j:Nat):xs.getD j 0<4294967296:=by
 exact QDE
theorem Qmh (xs:List Nat) (n a:Nat) (hl:xs.length=n) (hx:ZL xs) (hn:n<4294967296) (ha:a<4294967296) (qZ:ld1 n a=true):FN 115 [.s (.sl 0 0 n),.s (.u a),.s (.i 1)] [⟨false,1,wsv xs⟩] (. =⟨.tup [.s (.u (byN (xs.getD (a / 4) 0) a:Nat)),.s (.bool true)],[],[]⟩):=by
 have hw:=Qfn xs n a hn ha;rw [qZ] at hw;have zE:=Qif qZ;have hf:=QdJ (xs.getD (a / 4) 0) (a%4*8) 8 (QDd hx _) (by omega) (by omega) (by omega);have hg:=QaY xs (a / 4) (by omega);generalize xs.getD (a / 4) 0=W at *;change Fn _ _ _ _ (. =⟨.a (.s (.u ((byN W a:Nat):Int))),_,_⟩) at hf;generalize byN W a=B at *;refine fnW Tryz.func115 ?_;(repeat' ((conv=>whnf);first|exact zi0|(refine zj0 ?_;intro hb)|(refine Qag (f:=182) (hw) [⟨0,0⟩] [(0,⟨false,1,wsv xs⟩)] (by first|exact rfl|simp [QcZ,QcM,Qc5]) ⟨rfl,trivial⟩ (⟨rfl,Qas (Qaa _),trivial⟩) ⟨rfl,Qbn⟩ ?_)|refine Qex ?_|refine QsL ?_|refine QAI ?_|refine QIp ?_|(refine Qac (f:=116) (hf) rfl ?_)|refine zs0 ?_|refine zbb ?_ ?_));all_goals (conv=>whnf)
 all_goals exact QbQ rfl (Qaa _) rfl rfl
def sfI (w l v:Nat):Int:=bits .or .u32 (bits .andNot .u32 (w:Int) (IntKind.u32.wrap (255*2^min ((l:Nat):Int).toNat IntKind.u32.bits))) (IntKind.u32.wrap (bits .and .u32 (v:Int) 255*2^min ((l:Nat):Int).toNat IntKind.u32.bits))
theorem Qvj (op:BinOp) (a b:Int):0<=bits op .u32 a b/\bits op .u32 a b<4294967296:=by
 unfold bits;rw [Qcf];omega
def sfN (w l v:Nat):Nat:=(sfI w l v).toNat
theorem QCI (w l v:Nat):sfN w l v<4294967296:=by
 have:0<=sfI w l v/\sfI w l v<4294967296:=Qvj _ _ _;unfold sfN;omega
theorem Qgc (w l v:Nat):((sfN w l v:Nat):Int)=sfI w l v:=by
 have:0<=sfI w l v/\sfI w l v<4294967296:=Qvj _ _ _;unfold sfN;omega
theorem Qlq (w l v:Nat) (hl:l<=31):FN 185 [.s (.u w),.s (.i l),.s (.i 8),.s (.u v)] [] (. =⟨.a (.s (.u (sfN w l v:Nat))),[],[]⟩):=by
 have hm:FN 183 [.s (.i 8)] [] (. =⟨.a (.s (.u 255)),[],[]⟩):=QqD 8 (by omega);have e1:IntKind.u32.wrap (255*2^min ((l:Nat):Int).toNat IntKind.u32.bits)=IntKind.u32.wrap (255*2^min ((l:Nat):Int).toNat IntKind.u32.bits):=rfl;have e2:IntKind.u32.wrap (bits .and .u32 (v:Int) 255*2^min ((l:Nat):Int).toNat IntKind.u32.bits)=IntKind.u32.wrap (bits .and .u32 (v:Int) 255*2^min ((l:Nat):Int).toNat IntKind.u32.bits):=rfl;rw [Qgc];refine fnW Tryz.func185 ?_;(repeat' ((conv=>whnf);first|exact zi0|(refine zj0 ?_;intro hb)|(refine Qac (f:=183) (hm) rfl ?_)|(with_reducible first|refine zv e1 ?_|refine zv e2 ?_)|refine zs0 ?_|refine zbb ?_ ?_));all_goals (conv=>whnf)
 all_goals exact Qan rfl rfl
def Qns (xs:List Nat) (a v:Nat):List Nat:=xs.set (a / 4) (sfN (xs.getD (a / 4) 0) (a%4*8) v)
theorem Qr1 (xs:List Nat) (n a v:Nat) (hl:xs.length=n) (hn:n<4294967296) (ha:a<4294967296) (qZ:ld1 n a=true):FN 122 [.s (.sl 0 0 n),.s (.u a),.s (.i 1),.s (.u v)] [⟨false,1,wsv xs⟩] (. =⟨.tup [.s (.sl 1 0 n),.s (.bool true)],[],[⟨true,1,wsv (Qns xs a v)⟩]⟩):=by
 have hw:=Qfn xs n a hn ha;rw [qZ] at hw;have zE:=Qif qZ;have gK:=Qbt xs n hl (by omega);have hg:=QaY xs (a / 4) (by omega);have FQ:=Qlq (xs.getD (a / 4) 0) (a%4*8) v (by omega);have gZ:=Qbx xs (a / 4) (sfN (xs.getD (a / 4) 0) (a%4*8) v) (by omega);have uW:(wsv xs).length=n:=by simp [hl]
 have fM:Qad (wsv xs)=true:=Qaa xs;have VJ:Qad (wsv (Qns xs a v))=true:=Qaa _;change QaC _ _ _=wsv (Qns xs a v) at gZ;generalize sfN (xs.getD (a / 4) 0) (a%4*8) v=V,wsv (Qns xs a v)=X2 at *;generalize xs.getD (a / 4) 0=W,wsv xs=X at *;refine fnW Tryz.func122 ?_;(repeat' ((conv=>whnf);first|exact zi0|(refine zj0 ?_;intro hb)|(refine Qag (f:=182) hw [⟨0,0⟩] [(0,⟨false,1,X⟩)] rfl ⟨rfl,trivial⟩ ⟨rfl,Qas fM,trivial⟩ ⟨rfl,Qbn⟩ ?_)|(refine Qag (f:=19) gK [⟨0,0⟩] [(0,⟨false,1,X⟩)] rfl ⟨rfl,trivial⟩ ⟨rfl,Qas fM,trivial⟩ ⟨rfl,Qbn⟩ ?_)|(refine Qac (f:=185) (FQ) rfl ?_)|refine Qex ?_|(apply Sd.mk; . refine ⟨rfl,rfl,rfl,?_⟩;show _<=X.length;simp;omega)|refine QsL ?_|refine QAI ?_|refine QIp ?_|refine zq7 ?_|refine zs0 ?_|refine zbb ?_ ?_));all_goals (conv=>whnf)
 all_goals (exact QbG)
def acB (s:Int) (n a:Nat):Bool:=if s=4 then ld4 n a else ld1 n a
def Qdb (s:Nat):Bool:=decide (s%2=0/\s / 4%2=1)
def szB (sz:Int):Bool:=decide (sz=1\/sz=4)
def rsO (xs:List Nat) (n s r va:Nat) (sz ac:Int):Bool:=QdM ac&&szB sz&&decide ((va:Int)%sz=0)&&(if Qdb s=true then Qbm xs n r va ac else acB sz n va)
def rsA (xs:List Nat) (n s r va:Nat) (sz ac:Int):Nat:=if rsO xs n s r va sz ac=true then (if Qdb s=true then frW (QaQ xs r va)*128+va%128 else va) else 0
def rsM (xs:List Nat) (n s r va:Nat) (sz ac:Int):List Nat:=if rsO xs n s r va sz ac=true/\Qdb s=true then xs.set (Qa8 r va / 4) (QbI (xs.getD (Qa8 r va / 4) 0) ac) else xs
def rsK (xs:List Nat) (n s r va:Nat) (sz ac:Int):Int:=if rsO xs n s r va sz ac=true then 0 else if QdM ac=false\/szB sz=false then 5 else if (va:Int)%sz=0 then Qct ac else 3
theorem Qbh (xs:List Nat) (n s r va:Nat) (sz ac:Int):(rsM xs n s r va sz ac).length=xs.length:=by unfold rsM;split<;>simp
theorem Qc6 (xs:List Nat) (n s r va:Nat) (sz ac:Int) (h:ZL xs):∀ y∈rsM xs n s r va sz ac,y<4294967296:=by
 unfold rsM;split
 .intro y hy
  rcases List.mem_or_eq_of_mem_set hy with h1|h1
  .exact h y h1
  .rw [h1];exact Qls _ _ (Qab h _)
 .exact h
theorem QoP (ac:Int):FN 179 [.s (.i ac)] [] (. =⟨.tup [.s (.i (Qct ac)),.s (.bool (QdM ac))],[],[]⟩):=by
 refine fnW Tryz.func179 ?_;exact QzS
theorem QlM (a:Nat) (ha:a<4294967296):bits .and .u32 (a:Int) 1=((a%2:Nat):Int):=Qbi a 1 ha (by omega)
theorem Qvg (a:Nat) (ha:a<4294967296):bits .and .u32 (a:Int) 4=((a / 4%2*4:Nat):Int):=by
 rw [show ((4:Int))=((4:Nat):Int) from rfl,QcB a 4 ha (by omega)];congr 1;apply Nat.eq_of_testBit_eq;intro i;rw [Nat.testBit_and,show a / 4%2*4=2^2*(a / 4%2) by omega,Nat.testBit_two_pow_mul]
 by_cases h:i=2
 .subst h
  rw [show Nat.testBit 4 2=true by decide,Bool.and_true];simp only [Nat.testBit,Nat.shiftRight_eq_div_pow,Nat.one_and_eq_mod_two];simp
 .have h4:Nat.testBit 4 i=false:=by
   rw [show (4:Nat)=2^2 by rfl,Nat.testBit_two_pow];exact zdf (fun e=>h e.symm)
  rw [h4,Bool.and_false]
  by_cases h2:2<=i
  .rw [zdt h2,Bool.true_and]
   have:a / 4%2<2^(i-2):=Nat.lt_of_lt_of_le (Nat.mod_lt _ (by decide)) (by
    calc 2=2^1:=rfl
     _<=2^(i-2):=Nat.pow_le_pow_right (by decide) (by omega))
   exact (Nat.testBit_lt_two_pow this).symm
  .rw [zdf h2,zbf]
theorem Qjq (x:List Nat) (pc:Nat) (c:List Nat) (hx:x.length=16) (hc:c.length=8) (h0:c.getD 0 0<4294967296):FN 55 [.agg (Qax x pc c)] [] (. =⟨.a (.s (.bool (((c.getD 0 0%2:Nat):Int) !=0))),[],[]⟩):=by
 cases QJP hx;obtain ⟨c0,_,_,_,_,_,_,_,rfl⟩:=Qek hc;have e:=QlM c0 h0;refine fnW Tryz.func55 ?_;(repeat' ((conv=>whnf);first|exact zi0|(refine zj0 ?_;intro hb)|(with_reducible refine zv e ?_)|refine zs0 ?_|refine zbb ?_ ?_));all_goals (conv=>whnf)
 all_goals exact Qan rfl rfl
theorem QtR (xs:List Nat) (n a:Nat) (sz:Int) (fZ:sz=1\/sz=4) (hl:xs.length=n) (hY:ZL xs) (hn:n<4294967296) (ha:a<4294967296):∃ V:Nat,
  FN 115 [.s (.sl 0 0 n),.s (.u a),.s (.i sz)] [⟨false,1,wsv xs⟩] (. =⟨.tup [.s (.u V),.s (.bool (acB sz n a))],[],[]⟩):=by
 rcases fZ with rfl|rfl
 .cases h:ld1 n a with
  | true =>
   rw [show acB 1 n a=true from h];exact ⟨_,Qmh xs n a hl hY hn ha h⟩
  | false =>
   refine ⟨0,?_⟩;rw [show acB 1 n a=false from h];have hw:=Qfn xs n a hn ha;rw [h] at hw;have hs:=Qaa xs;generalize wsv xs=XX at *;refine fnW Tryz.func115 ?_;(repeat' ((conv=>whnf);first|exact zi2|(refine zj0 ?_;intro hb)|(refine Qaz hw ?_)|refine zse ?_|refine zbb ?_ ?_))
   all_goals exact Qb5
 .exact ⟨_,Qf3 xs n a hl hn ha⟩
theorem Qaq (x:List Nat) (pc:Nat) (c:List Nat) (hx:x.length=16) (hc:c.length=8):(Qax x pc c).length=25:=by
 unfold Qax wsv;simp [hx,hc]
theorem QiU {l l':List SV} (h:Qat l=true) (h':Qat l'=true):Qat (l++l')=true:=by
 induction l with
 | nil=>exact h'
 | cons a l ih =>
  cases a<;>first|exact ih h|cases h
theorem Qai (x:List Nat) (pc:Nat) (c:List Nat):Qat (Qax x pc c)=true:=QiU (QbD x) (QbD c)
theorem Qav (x:List Nat) (pc:Nat) (c:List Nat) (A:Nat) (hx:x.length=16) (hA:A<16):(Qax x pc c)[A]?=some (.u (x.getD A 0:Nat)):=by
 unfold Qax;rw [zgl (by rw [wsv_length];omega)];exact QaY x A (by omega)
theorem QaB (x:List Nat) (pc:Nat) (c:List Nat) (hx:x.length=16):(Qax x pc c)[16]?=some (.u (pc:Nat)):=by
 unfold Qax;rw [zgr (by rw [wsv_length];omega),wsv_length,hx];rfl
theorem Qdn (x:List Nat) (pc:Nat) (c:List Nat) (m:Nat) (hx:x.length=16) (hc:c.length=8) (hm:m<8):(Qax x pc c)[17+m]?=some (.u (c.getD m 0:Nat)):=by
 unfold Qax;rw [zgr (by rw [wsv_length];omega),wsv_length,hx,show 17+m-16=m+1 by omega,List.getElem?_cons_succ];exact QaY c m (by omega)
theorem Qcc {c l:List SV} (h:c.length=l.length):QaC c 0 l=l:=Qj0 (by rw [h];exact Nat.beq_refl _)
theorem Qh3 (x:List Nat) (pc:Nat) (c:List Nat) (A v:Nat) (hx:x.length=16) (hA:A<16):QaC (Qax x pc c) A [.u (v:Nat)]=Qax (x.set A v) pc c:=by
 show (Qax x pc c).set A _=_;unfold Qax;rw [List.set_append_left _ _ (by rw [wsv_length];omega)];congr 1;exact Qbx x A v (by omega)
theorem QaN (x:List Nat) (pc:Nat) (c:List Nat) (v:Nat) (hx:x.length=16):QaC (Qax x pc c) 16 [.u (v:Nat)]=Qax x v c:=by
 show (Qax x pc c).set 16 _=_;unfold Qax;rw [List.set_append_right _ _ (by rw [wsv_length];omega),wsv_length,hx];rfl
theorem Qwe {xs:List Nat} {n r va:Nat} {ac:Int} (h:Qbm xs n r va ac=true) (hn:n<4294967296):ld4 n (Qa8 r va)=true/\Qa8 r va<4294967296/\r<32:=by
 unfold Qbm at h;simp only [zba,zde] at h;have:=QaS n;unfold ld4 Qa8;simp only [zba,zde];omega
theorem Qea (x:List Nat) (pc:Nat) (c:List Nat) (xs:List Nat) (n va:Nat) (sz ac:Int) (hx:x.length=16) (hc:c.length=8) (gK:ZL c) (hl:xs.length=n) (hY:ZL xs) (hn:n<4294967296) (gX:va<4294967296) :
  FN 114 [.agg (Qax x pc c),.s (.sl 0 0 n),.s (.u va),.s (.i sz),.s (.i ac)] [⟨false,1,wsv xs⟩]
   (. =⟨.tup [.s (.u (rsA xs n (c.getD 0 0) (c.getD 6 0) va sz ac:Nat)),.s (.sl 1 0 n),.s (.i (rsK xs n (c.getD 0 0) (c.getD 6 0) va sz ac))],[],[⟨true,1,wsv (rsM xs n (c.getD 0 0) (c.getD 6 0) va sz ac)⟩]⟩):=by
 have hs:=Qab gK 0;have hr:=Qab gK 6;have hk:=Qjq x pc c hx hc hs;have g0:=Qdn x pc c 0 hx hc (by decide);have g6:=Qdn x pc c 6 hx hc (by decide);have UQ:=Qaq x pc c hx hc;have hCs:=Qam x pc c;have hCk:=Qai x pc c;have zM:=QoP ac;have vL:=Qbt xs n hl (by omega);have b4:=Qvg (c.getD 0 0) hs;generalize c.getD 0 0=S,c.getD 6 0=R,Qax x pc c=C at *;have hw:=QiJ xs n R va ac hl hn hY hr gX;have gL:=Qaa xs;clear gK hx hc
 by_cases wY:QdM ac=true/\szB sz=true
 case neg =>
  have e1:rsO xs n S R va sz ac=false:=by
   unfold rsO
   cases h:QdM ac with
   | false=>rfl
   | true =>
    cases h2:szB sz with
    | false=>rfl
    | true=>exact absurd ⟨h,h2⟩ wY
  have e2:QdM ac=false\/szB sz=false:=by
   cases h:QdM ac with
   | false=>exact .inl rfl
   | true =>
    cases h2:szB sz with
    | false=>exact .inr rfl
    | true=>exact absurd ⟨h,h2⟩ wY
  rw [show rsA xs n S R va sz ac=0 by unfold rsA;rw [e1];rfl,show rsM xs n S R va sz ac=xs by unfold rsM;rw [e1];exact zN (fun h=>by cases h.1),show rsK xs n S R va sz ac=5 by unfold rsK;rw [e1,zN (by decide),zP e2]];have hz:szB sz=false->sz≠1/\sz≠4:=fun h=>by unfold szB at h;simpa using h
  generalize QdM ac=kb,wsv xs=XX at *
  cases kb with
  | false =>
   clear hw hz;refine fnW Tryz.func114 ?_;(repeat' ((conv=>whnf);first|exact zi2|(refine zj0 ?_;intro hb)|(refine zpu zM ?_)|(refine Qaz vL ?_)|refine zse ?_|refine zbb ?_ ?_));all_goals (conv=>whnf)
   all_goals first|(exact QbG)
  | true =>
   obtain ⟨_,_⟩:=hz (by rcases e2 with h|h;cases h;exact h);clear hw;refine fnW Tryz.func114 ?_;(repeat' ((conv=>whnf);first|exact zi2|(refine zj0 ?_;intro hb)|(refine zpu zM ?_)|(refine Qaz vL ?_)|refine zse ?_|refine zbb ?_ ?_))
   all_goals exact Qcv
 obtain ⟨k1,k2⟩:=wY;rw [k1] at zM;have fZ:sz=1\/sz=4:=by unfold szB at k2;simpa using k2
 by_cases gW:(va:Int)%sz=0
 case neg =>
  have e1:rsO xs n S R va sz ac=false:=by unfold rsO;rw [zdf gW,Bool.and_false];rfl
  rw [show rsA xs n S R va sz ac=0 by unfold rsA;rw [e1];rfl,show rsM xs n S R va sz ac=xs by unfold rsM;rw [e1];exact zN (fun h=>by cases h.1),show rsK xs n S R va sz ac=3 by unfold rsK;rw [e1,zN (by decide),zN (by rw [k1,k2];simp),zN gW]];obtain rfl:sz=4:=by rcases fZ with rfl|rfl;omega;rfl
  have m1:Int.tmod (va:Int) 4=((va%4:Nat):Int):=Qu8;have m2:va%4≠0:=by omega
  generalize va%4=va4,wsv xs=XX at *;clear hw;refine fnW Tryz.func114 ?_;(repeat' ((conv=>whnf);first|exact zi2|(refine zj0 ?_;intro hb)|(with_reducible refine zv m1 ?_)|(refine zpu zM ?_)|(refine Qaz vL ?_)|refine zse ?_|refine zbb ?_ ?_))
  all_goals exact Qcv
 obtain ⟨_,qK⟩:=QtR xs n va sz fZ hl hY hn gX;have m0:Int.tmod (va:Int) sz=0:=by rw [Int.tmod_eq_emod_of_nonneg (by omega)];exact gW
 cases qC:Qdb S with
 | true =>
  obtain ⟨p1,p2⟩:S%2=0/\S / 4%2=1:=by unfold Qdb at qC;simpa using qC
  rw [p1] at hk;replace b4:bits .and .u32 (S:Int) 4=4:=b4.trans (by rw [p2];rfl)
  cases hok:Qbm xs n R va ac with
  | false =>
   have e1:rsO xs n S R va sz ac=false:=by unfold rsO;rw [qC,hok];simp
   rw [show rsA xs n S R va sz ac=0 by unfold rsA;rw [e1];rfl,show rsM xs n S R va sz ac=xs by unfold rsM;rw [e1];exact zN (fun h=>by cases h.1),show rsK xs n S R va sz ac=Qct ac by unfold rsK;rw [e1,zN (by decide),zN (by rw [k1,k2];simp),zP gW]];unfold QfH at hw;rw [hok,zN (by decide)] at hw;have YR:Qct ac≠0:=by unfold Qct;split;omega;split<;>omega
   generalize Qct ac=cz,wsv xs=XX at *;rcases fZ with rfl|rfl
   all_goals
    refine fnW Tryz.func114 ?_;(repeat' ((conv=>whnf);first|exact zi2|(refine zj0 ?_;intro hb)|refine QHo ?_|((with_reducible apply Ge.mk (α:=SV)); . first|exact g0|exact g6)|refine QAK ?_|(refine zpu zM ?_)|(refine zpu hk ?_)|(refine Qaz hw ?_)|(refine Qaz vL ?_)|refine zse ?_|refine zbb ?_ ?_));all_goals (conv=>whnf)
    all_goals first|(exact QbG)
  | true =>
   have e1:rsO xs n S R va sz ac=true:=by unfold rsO;rw [qC,hok,k1,k2,zdt gW];rfl
   obtain ⟨l1,l2,_⟩:=Qwe hok hn;have htc:=Qj6 xs n (Qa8 R va) ac hl hn hY l2 l1;rw [show rsA xs n S R va sz ac=frW (QaQ xs R va)*128+va%128 by unfold rsA;rw [e1,zP rfl,qC,zP rfl],show rsM xs n S R va sz ac=xs.set (Qa8 R va / 4) (QbI (xs.getD (Qa8 R va / 4) 0) ac) by unfold rsM;rw [e1,qC];exact zP ⟨rfl,rfl⟩,show rsK xs n S R va sz ac=0 by unfold rsK;rw [e1,zP rfl]];unfold QfH at hw;rw [hok,zP rfl] at hw;have gY:=Qaa (xs.set (Qa8 R va / 4) (QbI (xs.getD (Qa8 R va / 4) 0) ac));generalize wsv (xs.set (Qa8 R va / 4) (QbI (xs.getD (Qa8 R va / 4) 0) ac))=X2 at *;generalize Qa8 R va=E,frW (QaQ xs R va)*128+va%128=AA,Qct ac=cz,wsv xs=XX at *;rcases fZ with rfl|rfl
   all_goals
    refine fnW Tryz.func114 ?_;(repeat' ((conv=>whnf);first|exact zi2|(refine zj0 ?_;intro hb)|refine QHo ?_|((with_reducible apply Ge.mk (α:=SV)); . first|exact g0|exact g6)|refine QAK ?_|(refine zpu zM ?_)|(refine zpu hk ?_)|(refine Qaz hw ?_)|(refine Qaz htc ?_)|refine zse ?_|refine zbb ?_ ?_));all_goals (conv=>whnf)
    all_goals first|(exact QbG)
 | false =>
  have WR:S%2=1\/(S%2=0/\S / 4%2=0):=by unfold Qdb at qC;simp at qC;omega
  have eM:rsM xs n S R va sz ac=xs:=by unfold rsM;rw [qC];exact zN (fun h=>by cases h.2)
  have eO:rsO xs n S R va sz ac=acB sz n va:=by unfold rsO;rw [qC,k1,k2,zdt gW];simp
  have eA:rsA xs n S R va sz ac=if acB sz n va=true then va else 0:=by unfold rsA;rw [eO,qC];simp
  have eK:rsK xs n S R va sz ac=if acB sz n va=true then 0 else Qct ac:=QHz
  rw [eM,eA,eK];clear eM eO eA eK hw;generalize Qct ac=cz,acB sz n va=ok,wsv xs=XX at *;cases ok<;>rcases WR with p1|⟨p1,p2⟩<;>rcases fZ with rfl|rfl
  all_goals
   rw [p1] at hk
   try (replace b4:bits .and .u32 (S:Int) 4=0:=b4.trans (by rw [p2];rfl))
   refine fnW Tryz.func114 ?_;(repeat' ((conv=>whnf);first|exact zi2|(refine zj0 ?_;intro hb)|refine QHo ?_|refine QmU ?_|refine QAK ?_|(refine zpu zM ?_)|(refine zpu hk ?_)|(refine Qaz qK ?_)|(refine Qaz vL ?_)|refine zse ?_|refine zbb ?_ ?_))
   all_goals exact Qcv
theorem Qe8 (M:Mc):Qfx M<4294967296:=by
 unfold Qfx;exact (Qk6 _ _ (Qk6 _ _ (Qk6 _ _ (Qk6 _ _ (Qd3 _ 0 (by decide)) (Qd3 _ 1 (by decide))).2 (Qd3 _ 2 (by decide))).2 (Qd3 _ 3 (by decide))).2 (Qd3 _ 4 (by decide))).2
theorem Qrn (M:Mc) (hM:M.ok):FN 173 [.agg (M.C 0)] [⟨false,1,wsv M.m⟩] (. =⟨.a (.s (.u (Qfx M:Nat))),[],[]⟩):=by
 have p1:=Qlj M.ta M.td M.tf;have p2:=Qla M.ks;have p3:=Qld M.d;have p4:=Qlh M.n;have p5:=Qk9 M.bt M.bg hM.dv.2.1 hM.dv.2.2.1;have k1:=QeU M.tf 0 (by decide);have k2:=QeU (Qcl M.ks) 1 (by decide);have k3:=QeU (QbP M.d.st) 2 (by decide);have k4:=QeU M.n.re 3 (by decide);have k5:=QeU (QcV M.bt M.bg) 4 (by decide);have o1:=Qk6 _ _ (Qd3 M.tf 0 (by decide)) (Qd3 (Qcl M.ks) 1 (by decide));have o2:=Qk6 _ _ o1.2 (Qd3 (QbP M.d.st) 2 (by decide));have o3:=Qk6 _ _ o2.2 (Qd3 M.n.re 3 (by decide));have o4:=Qk6 _ _ o3.2 (Qd3 (QcV M.bt M.bg) 4 (by decide));replace o1:=o1.1;replace o2:=o2.1;replace o3:=o3.1;replace o4:=o4.1;have gL:=Qaa M.m;unfold Qfx;generalize Qcl M.ks=b2,QbP M.d.st=b3,QcV M.bt M.bg=b5 at *;generalize (((lnN M.tf 0 ||| lnN b2 1) ||| lnN b3 2) ||| lnN M.n.re 3) ||| lnN b5 4=L4 at *;generalize ((lnN M.tf 0 ||| lnN b2 1) ||| lnN b3 2) ||| lnN M.n.re 3=L3 at *;generalize (lnN M.tf 0 ||| lnN b2 1) ||| lnN b3 2=L2 at *;generalize lnN M.tf 0 ||| lnN b2 1=L1 at *;generalize lnN M.tf 0=l0,lnN b2 1=l1,lnN b3 2=l2,lnN M.n.re 3=l3,lnN b5 4=l4 at *;obtain ⟨hx,hc,hY,gA,_,gB,_,gD,gE,_⟩:=hM;obtain ⟨_,_,_,m,ks,ta,td,tf,d,n,bt,bg⟩:=M;dsimp only at *;cases QJP hx;cases zC8 hc;cases d;cases n;dsimp only [Mc.C,Mc.D,Dk.C,Nk.C,Dk.ok,Nk.ok] at *;generalize m.length=nn,wsv m=XX at *;clear hY gA gD gE gB;refine fnW Tryz.func173 ?_;(repeat' ((conv=>whnf);first|exact zi0|(refine zj0 ?_;intro hb)|(with_reducible first|refine zv o1 ?_|refine zv o2 ?_|refine zv o3 ?_|refine zv o4 ?_)|(refine zpu p1 ?_)|(refine zpu p2 ?_)|(refine zpu p3 ?_)|(refine zpu p4 ?_)|(refine zpu p5 ?_)|(refine zpu k1 ?_)|(refine zpu k2 ?_)|(refine zpu k3 ?_)|(refine zpu k4 ?_)|(refine zpu k5 ?_)|refine zst ?_|refine zbb ?_ ?_))
 all_goals exact Qb5
def QiO (M:Mc):Nat:=Qfx M &&& M.c.getD 7 0
theorem QgQ (M:Mc) (hM:M.ok):FN 109 [.agg (M.C 0)] [⟨false,1,wsv M.m⟩] (. =⟨.a (.s (.u (QiO M:Nat))),[],[]⟩):=by
 have hl:=Qrn M hM;have ha:=QcB (Qfx M) (M.c.getD 7 0) (Qe8 M) (Qab hM.cr 7);have gL:=Qaa M.m;unfold QiO;obtain ⟨E,hE⟩:∃ E,Qfx M &&& M.c.getD 7 0=E:=⟨_,rfl⟩;rw [hE] at ha |-;clear hE;generalize Qfx M=L at *;obtain ⟨hx,hc,hY,gA,_,gB,_,gD,gE,_⟩:=hM;obtain ⟨_,_,c,m,_,_,_,_,d,n⟩:=M;dsimp only at *;cases QJP hx;obtain ⟨_,_,_,_,_,_,_,c7,rfl⟩:=Qek hc;cases d;cases n;dsimp only [Mc.C,Mc.D,Dk.C,Nk.C,Dk.ok,Nk.ok] at *;generalize m.length=nn,wsv m=XX at *;change bits .and .u32 (L:Int) (c7:Int)=(E:Int) at ha;clear hY gA gD gE gB;refine fnW Tryz.func109 ?_;exact QDM
def Qhy (M:Mc):Bool:=M.wt&&decide (QiO M=0)
theorem Qmy (M:Mc) (hM:M.ok):FN 48 [.agg (M.C 0)] [⟨false,1,wsv M.m⟩] (. =⟨.a (.s (.bool (Qhy M))),[],[]⟩):=by
 have hl:=QgQ M hM;have gL:=Qaa M.m;unfold Qhy;generalize QiO M=E at *;obtain ⟨B,hB⟩:∃ B,(M.wt&&decide (E=0))=B:=⟨_,rfl⟩;rw [hB];obtain ⟨hx,hc,hY,gA,_,gB,_,gD,gE,_⟩:=hM;obtain ⟨_,_,_,m,_,_,_,_,d,n,_,_,_,wt⟩:=M;dsimp only at *;cases QJP hx;cases zC8 hc;cases d;cases n;dsimp only [Mc.C,Mc.D,Dk.C,Nk.C,Dk.ok,Nk.ok] at *;generalize m.length=nn,wsv m=XX at *;clear hY gA gD gE gB;cases wt
 all_goals
  refine fnW Tryz.func48 ?_;(repeat' ((conv=>whnf);first|exact zi2|(refine zj0 ?_;intro hb)|(refine Qaz hl ?_)|refine zse ?_|refine zbb ?_ ?_));all_goals (conv=>whnf)
  all_goals first
   | (refine QcF ?_ ?_;(focus (exact Qb5));rw [<- hB,zbi];simp;done)
   | (refine QcF ?_ ?_;(focus (exact Qb5));rw [<- hB,zbi];simp;omega)
   | (exfalso;simp at hb;done)
def w32 (z:Int):Nat:=(z%4294967296).toNat
theorem Qau (z:Int):IntKind.u32.wrap z=((w32 z:Nat):Int):=QG3 z
theorem QaF (z:Int):w32 z<4294967296:=by unfold w32;omega
def QaD (x:List Nat) (r v:Nat):List Nat:=if r=0 then x else x.set r v
theorem Qay (x:List Nat) (r v:Nat):(QaD x r v).length=x.length:=by unfold QaD;split<;>simp
theorem Qg0 {xs:List Nat} (h:ZL xs) (j w:Nat) (hw:w<4294967296):∀ y∈xs.set j w,y<4294967296:=fun y hy=>by
 rcases List.mem_or_eq_of_mem_set hy with h1|h1
 .grind
 .omega
theorem Qdy {x:List Nat} (h:ZL x) (r v:Nat) (hv:v<4294967296):∀ y∈QaD x r v,y<4294967296:=by grind [QaD,Qg0]
def wrL (c:List Nat) (csr:Int) (v:Nat):List Nat :=
 if csr=0 then c.set 0 (v%32) else if csr=7 then c.set 7 (v%32) else if csr=6 then c.set 6 (v%256)
 else if csr=1 then c.set 1 (v &&& (4294967295-3)) else if csr=2 then c.set 2 (v &&& (4294967295-3))
 else if csr=3 then c.set 3 v else if csr=4 then c.set 4 v else if csr=5 then c.set 5 v else c
theorem Qwf (x:List Nat) (pc:Nat) (c:List Nat) (csr:Int) (v:Nat):wrC x pc c csr v=Qax x pc (wrL c csr v):=by
 unfold wrC wrL
 repeat' split
 all_goals rfl
theorem Qg8 (c:List Nat) (csr:Int) (v:Nat):(wrL c csr v).length=c.length:=by
 unfold wrL
 repeat' split
 all_goals simp
theorem QC9 {c:List Nat} (h:ZL c) (csr:Int) (v:Nat) (hv:v<4294967296):∀ y∈wrL c csr v,y<4294967296:=by
 have:=Nat.and_le_left (n:=v) (m:=4294967295-3);unfold wrL
 repeat' split
 all_goals first|exact h|exact Qg0 h _ _ (by omega)
def trL (pc:Nat) (c:List Nat) (cause:Int) (bad:Nat):List Nat:= [Qfl (c.getD 0 0),c.getD 1 0,pc,w32 cause,bad,c.getD 5 0,c.getD 6 0,c.getD 7 0]
theorem Qbl (x:List Nat) (pc:Nat) (c:List Nat) (cause:Int) (bad:Nat):QzB x pc c cause bad=Qax x (c.getD 1 0) (trL pc c cause bad):=rfl
theorem Qg3 {c:List Nat} (h:ZL c) (pc:Nat) (gQ:pc<4294967296) (cause:Int) (bad:Nat) (hb:bad<4294967296):∀ y∈trL pc c cause bad,y<4294967296:=fun y hy=>by
 have g:=Qab h;have:=QuO _ (g 0);have:=QaF cause;have:=g 1;have:=g 5;have:=g 6;have:=g 7;simp only [trL,List.mem_cons,List.not_mem_nil,or_false] at hy;omega
def Qdf (o:Int) (a b:Nat):Bool :=
 if o=40 then decide (a=b) else if o=41 then decide (a≠b) else if o=42 then decide (sgn a<sgn b) else if o=43 then decide (sgn b<=sgn a) else if o=44 then decide (a<b) else decide (b<=a)
def exX (x:List Nat) (pc:Nat) (c:List Nat) (o:Int) (A B C:Nat) (m:Int):List Nat :=
 if 1<=o/\o<=13 then QaD x A (Qbs o (x.getD B 0) (x.getD C 0))
 else if 16<=o/\o<=23 then QaD x A (Qbs o (x.getD B 0) (w32 m))
 else if o=24 then QaD x A (w32 ((w32 m:Nat)*65536))
 else if o=48\/o=49 then QaD x A (w32 ((pc:Int)+4))
 else if o=58 then QaD x A (c.getD m.toNat 0)
 else x
def exP (x:List Nat) (pc:Nat) (c:List Nat) (o:Int) (A B:Nat) (m:Int):Nat :=
 if 40<=o/\o<=45 then (if Qdf o (x.getD A 0) (x.getD B 0)=true then w32 ((pc:Int)+w32 (4*(w32 m:Nat))) else w32 ((pc:Int)+4))
 else if o=48 then w32 ((pc:Int)+w32 (4*(w32 m:Nat)))
 else if o=49 then w32 ((x.getD B 0:Nat)+(w32 m:Nat))
 else if o=56 then c.getD 1 0 else if o=57 then c.getD 2 0 else w32 ((pc:Int)+4)
def exC (x:List Nat) (pc:Nat) (c:List Nat) (o:Int) (A:Nat) (m:Int):List Nat :=
 if o=56 then trL pc c 7 0 else if o=57 then c.set 0 (QgR (c.getD 0 0)) else if o=59 then wrL c m (x.getD A 0) else c
def exE (x:List Nat) (o:Int) (A:Nat) (m:Int):List SV :=
 if o=60 then [.i 1,.i m,.i (A:Nat),.u (0:Nat)]
 else if o=61 then [.i 2,.i m,.i 0,.u (x.getD A 0:Nat)]
 else if o=62 then [.i 3,.i 0,.i 0,.u (0:Nat)]
 else if o=63 then [.i 5,.i 0,.i 0,.u (0:Nat)]
 else if o=64 then [.i 4,.i 0,.i 0,.u (0:Nat)]
 else [.i 0,.i 0,.i 0,.u (0:Nat)]
theorem QDa (A:Nat):0+0+((A:Nat):Int).toNat * ty24.size=A:=by show 0+0+((A:Nat):Int).toNat * 1=A;omega
end Go.Proofs.YtpgkkfajljekpaaGreat
