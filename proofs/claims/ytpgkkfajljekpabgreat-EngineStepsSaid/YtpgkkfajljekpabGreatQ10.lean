import Derived.Test.YtpgkkfajljekpabGreatQ7
set_option linter.unusedSimpArgs false
set_option linter.unusedVariables false
set_option maxHeartbeats 0
set_option maxRecDepth 100000
namespace Go.Proofs.YtpgkkfajljekpabGreat
open Go Go.RowKit
def Qcv (ac:Int):Int:=if ac=1 then 4 else if ac=3 then 6 else 5
def QdP (ac:Int):Bool:=decide (1<=ac/\ac<=3)
theorem QcT (ac:Int):FN 257 [.s (.i ac)] [] (. =⟨.tup [.s (.i (Qcv ac)),.s (.bool (QdP ac))],[],[]⟩):=by
 refine fnW Tryz.func257 ?_;exact QDM
theorem Qcj (xs:List Nat) (n f:Nat) (hn:ZU n) (hf:ZU f):FN 258 [.s (.sl 0 0 n),.s (.u f)] [⟨false,1,wsv xs⟩] (. =⟨.a (.s (.bool (decide (f<mpg n)))),[],[]⟩):=by
 have hm:=QaT n;have hp:=QbI xs n hn;generalize mpg n=P at *;refine fnW Tryz.func258 ?_;(conv=>whnf);(repeat' ((first|exact zi0|refine zj0 fun hb=>?_|(refine Qag (f:=58) (hp) [⟨0,0⟩] [(0,⟨false,1,wsv xs⟩)] (by first|exact rfl|simp [QcZ,QcQ,Qc7]) ⟨rfl,trivial⟩ (⟨rfl,Qap (Qaa _),trivial⟩) ⟨rfl,Qbp⟩ ?_)|refine zs0 ?_|refine zbb ?_ ?_)<;>conv=>whnf))
 all_goals
  refine QbT rfl (Qaa _) rfl ?_;simp only [Qbc];congr 3;rw [zbi,zde,zde];omega
def frW (p:Nat):Nat:=p / 2^8%2^8
theorem QhE (p:Nat):frW p<256:=Nat.mod_lt _ (by decide)
theorem Qjw (p:Nat) (hp:ZU p):FN 260 [.s (.u p)] [] (. =⟨.a (.s (.u (frW p:Nat))),[],[]⟩):=by
 have h:FN 183 [.s (.u p),.s (.i 8),.s (.i 8)] [] (. =⟨.a (.s (.u ((frW p:Nat):Int))),[],[]⟩):=QdM p 8 8 hp (by omega) (by omega) (by omega);generalize frW p=F at *;refine fnW Tryz.func260 ?_;(conv=>whnf);(repeat' ((first|exact zi0|refine zj0 fun hb=>?_|(refine Qad (f:=183) (h) rfl ?_)|refine zs0 ?_|refine zbb ?_ ?_)<;>conv=>whnf))
 all_goals exact Qam rfl rfl
def pmW (p:Nat) (ac:Int):Bool:=decide (p &&& 1≠0/\(ac=3->p &&& 2≠0)/\(ac=1->p &&& 4≠0))
theorem QcF (p k:Nat) (hp:ZU p) (hk:ZU k):bits .and .u32 (p:Int) (k:Int)=((p &&& k:Nat):Int):=u32_and_nat p k hp hk
theorem Qep (p:Nat) (ac:Int) (hp:ZU p):FN 259 [.s (.u p),.s (.i ac)] [] (. =⟨.a (.s (.bool (pmW p ac))),[],[]⟩):=by
 have h1:bits .and .u32 (p:Int) 1=((p &&& 1:Nat):Int):=QcF p 1 hp (by omega);have h2:bits .and .u32 (p:Int) 2=((p &&& 2:Nat):Int):=QcF p 2 hp (by omega);have h4:bits .and .u32 (p:Int) 4=((p &&& 4:Nat):Int):=QcF p 4 hp (by omega);unfold pmW;generalize p &&& 1=a1,p &&& 2=a2,p &&& 4=a4 at *;refine fnW Tryz.func259 ?_;(conv=>whnf);(repeat' ((first|exact zi0|refine zj0 fun hb=>?_|(with_reducible first|refine zv h1 ?_|refine zv h2 ?_|refine zv h4 ?_)|refine zs0 ?_|refine zbb ?_ ?_)<;>conv=>whnf))
 all_goals
  apply Qam
  (focus rfl)
  simp only [Qbc];congr 3
  first
   | exact (zdf (by omega)).symm
   | exact (zdt (by omega)).symm
   | (rw [zbi,zde];simp only [bne_iff_ne,ne_eq];omega)
def QaR (xs:List Nat) (r va:Nat):Nat:=xs.getD (r*32+va / 128) 0
def Qa9 (r va:Nat):Nat:=r*128+4*(va / 128)
def Qbo (xs:List Nat) (n r va:Nat) (ac:Int):Bool:=QdP ac&&decide (va<4096)&&decide (r<mpg n)&&pmW (QaR xs r va) ac&&decide (frW (QaR xs r va)<mpg n)
def QfK (xs:List Nat) (n r va:Nat) (ac:Int):List SV:=if Qbo xs n r va ac=true then [.u (frW (QaR xs r va)*128+va%128:Nat),.u (Qa9 r va:Nat),.i 0] else [.u 0,.u 0,.i (Qcv ac)]
theorem QdI {xs:List Nat} {n r va:Nat} {ac:Int} (h:¬ (QdP ac=true/\va<4096/\r<mpg n/\pmW (QaR xs r va) ac=true/\frW (QaR xs r va)<mpg n)):QfK xs n r va ac= [.u 0,.u 0,.i (Qcv ac)]:=by
 unfold QfK;rw [zN];intro hq;unfold Qbo at hq;simp only [zba,zde] at hq;exact h ⟨hq.1.1.1.1,hq.1.1.1.2,hq.1.1.2,hq.1.2,hq.2⟩
theorem QlT {xs:List Nat} {n r va:Nat} {ac:Int} (h1:QdP ac=true) (h2:va<4096) (h3:r<mpg n) (h4:pmW (QaR xs r va) ac=true) (h5:frW (QaR xs r va)<mpg n):QfK xs n r va ac= [.u (frW (QaR xs r va)*128+va%128:Nat),.u (Qa9 r va:Nat),.i 0]:=by
 unfold QfK Qbo;rw [h1,h4,zdt h2,zdt h3,zdt h5];rfl
theorem Qck (xs:List Nat) (n:Nat) (hn:ZU n):FN 70 [.s (.sl 0 0 n)] [⟨false,1,wsv xs⟩] (. =⟨.a (.s (.i (mpg n:Nat))),[],[]⟩):=by
 refine fnW Tryz.func70 ?_;exact QDT
theorem Qab {xs:List Nat} (h:ZL xs) (j:Nat):xs.getD j 0<4294967296:=by
 exact Qz0
theorem Qrh (xs:List Nat) (n r va:Nat) (ac:Int) (hl:xs.length=n) (hn:ZU n) (hY:ZL xs) (hr:ZU r) (gX:ZU va) (h:QdP ac=false) :
  FN 220 [.s (.sl 0 0 n),.s (.u r),.s (.u va),.s (.i ac)] [⟨false,1,wsv xs⟩] (. =⟨.a (.agg (QfK xs n r va ac)),[],[]⟩):=by
 have gL:=Qaa xs;have hm:=QaT n;have hmn:mpg n*32<=n:=Qeu;have cc:=QcT ac;rw [QdI (by rw [h];simp)];rw [h] at cc;exact QDR
theorem Qrf (xs:List Nat) (n r va:Nat) (ac:Int) (hl:xs.length=n) (hn:ZU n) (hY:ZL xs) (hr:ZU r) (gX:ZU va) (h0:QdP ac=true) (h:4096<=va) :
  FN 220 [.s (.sl 0 0 n),.s (.u r),.s (.u va),.s (.i ac)] [⟨false,1,wsv xs⟩] (. =⟨.a (.agg (QfK xs n r va ac)),[],[]⟩):=by
 have gL:=Qaa xs;have hm:=QaT n;have hmn:mpg n*32<=n:=Qeu;have cc:=QcT ac;rw [QdI (by omega)];rw [h0] at cc;exact QDR
theorem QnC (xs:List Nat) (n r va:Nat) (ac:Int) (hl:xs.length=n) (hn:ZU n) (hY:ZL xs) (hr:ZU r) (gX:ZU va) (h0:QdP ac=true) (h1:va<4096) (h:¬ r<mpg n) :
  FN 220 [.s (.sl 0 0 n),.s (.u r),.s (.u va),.s (.i ac)] [⟨false,1,wsv xs⟩] (. =⟨.a (.agg (QfK xs n r va ac)),[],[]⟩):=by
 have gL:=Qaa xs;have hm:=QaT n;have hmn:mpg n*32<=n:=Qeu;have cc:=QcT ac;rw [QdI (by omega)];rw [h0] at cc;have ci:=Qcj xs n r hn hr;rw [zdf h] at ci;generalize Qcv ac=C,wsv xs=XX at *;refine fnW Tryz.func220 ?_;(repeat' ((conv=>whnf);first|exact zi0|refine zj0 fun hb=>?_|(refine Qad (f:=257) (cc) rfl ?_)|(refine Qag (f:=258) ci [⟨_,0⟩] [(_,⟨false,1,XX⟩)] rfl ⟨rfl,trivial⟩ ⟨rfl,Qap gL,trivial⟩ ⟨rfl,Qbp⟩ ?_)|refine zs0 ?_|refine zbb ?_ ?_))
 all_goals exact Qhr
theorem QnB (xs:List Nat) (n r va:Nat) (ac:Int) (hl:xs.length=n) (hn:ZU n) (hY:ZL xs) (hr:ZU r) (gX:ZU va) (h0:QdP ac=true) (h1:va<4096) (h2:r<mpg n) (h:pmW (QaR xs r va) ac=false) :
  FN 220 [.s (.sl 0 0 n),.s (.u r),.s (.u va),.s (.i ac)] [⟨false,1,wsv xs⟩] (. =⟨.a (.agg (QfK xs n r va ac)),[],[]⟩):=by
 have gL:=Qaa xs;have hm:=QaT n;have hmn:mpg n*32<=n:=Qeu;have cc:=QcT ac;rw [h0] at cc;have ci:=Qcj xs n r hn hr;rw [zdt h2] at ci;rw [QdI (by rw [h];simp)]
 have he:Qa9 r va<4294967296/\Qa9 r va / 4=r*32+va / 128/\ld4 n (Qa9 r va)=true:=by
  unfold Qa9;refine ⟨by omega,by omega,?_⟩;unfold ld4;rw [zdt (by omega),zdt (by omega)];rfl
 have qJ:=Qcb xs n (Qa9 r va) hl hn he.1 he.2.2
 have HG:(wsv xs)[Qa9 r va / 4]?=some (.u (QaR xs r va:Nat)):=by
  rw [he.2.1];exact QaZ xs _ (by omega)
 rw [he.2.1] at qJ;change Fn _ _ _ _ (. =⟨.tup [.s (.u (QaR xs r va:Nat)),.s (.bool true)],[],[]⟩) at qJ;have hp:=Qab hY (r*32+va / 128);change QaR xs r va<4294967296 at hp;have e1:IntKind.u32.wrap ((va:Int).tdiv 128)=((va / 128:Nat):Int):=Qok;have e1':(va:Int) / 128=((va / 128:Nat):Int):=by omega
 have e2:IntKind.u32.wrap (4*((va / 128:Nat):Int))=((4*(va / 128):Nat):Int):=Qfu;have e0:IntKind.u32.wrap ((r:Int)*128)=((r*128:Nat):Int):=Qfu;have e3:IntKind.u32.wrap (((r*128:Nat):Int)+((4*(va / 128):Nat):Int))=((Qa9 r va:Nat):Int):=Qvd;have yD:Qa9 r va / 4<n:=by rw [he.2.1];omega
 have x1:0+(((Qa9 r va:Nat):Int) / 4).toNat * ty26.size=Qa9 r va / 4:=Qz7;generalize Qa9 r va=E at *;have uC:=QhE (QaR xs r va);have cpm:=Qep (QaR xs r va) ac hp;rw [h] at cpm;generalize QaR xs r va=pte,Qcv ac=C,wsv xs=XX at *;refine fnW Tryz.func220 ?_;(repeat' ((conv=>whnf);first|exact zi0|refine zj0 fun hb=>?_|refine QIk ?_|(refine Qad (f:=257) (cc) rfl ?_)|(refine Qag (f:=258) ci [⟨_,0⟩] [(_,⟨false,1,XX⟩)] rfl ⟨rfl,trivial⟩ ⟨rfl,Qap gL,trivial⟩ ⟨rfl,Qbp⟩ ?_)|(refine Qag (f:=117) qJ [⟨_,0⟩] [(_,⟨false,1,XX⟩)] rfl ⟨rfl,trivial⟩ ⟨rfl,Qap gL,trivial⟩ ⟨rfl,Qbp⟩ ?_)|(refine Qad (f:=259) (cpm) rfl ?_)|refine zs0 ?_|refine zbb ?_ ?_))
 all_goals exact Qhr
theorem Qrg (xs:List Nat) (n r va:Nat) (ac:Int) (hl:xs.length=n) (hn:ZU n) (hY:ZL xs) (hr:ZU r) (gX:ZU va) (h0:QdP ac=true) (h1:va<4096) (h2:r<mpg n) (h3:pmW (QaR xs r va) ac=true) (h:¬ frW (QaR xs r va)<mpg n) :
  FN 220 [.s (.sl 0 0 n),.s (.u r),.s (.u va),.s (.i ac)] [⟨false,1,wsv xs⟩] (. =⟨.a (.agg (QfK xs n r va ac)),[],[]⟩):=by
 have gL:=Qaa xs;have hm:=QaT n;have hmn:mpg n*32<=n:=Qeu;have cc:=QcT ac;rw [h0] at cc;have ci:=Qcj xs n r hn hr;rw [zdt h2] at ci;rw [QdI (by omega)]
 have he:Qa9 r va<4294967296/\Qa9 r va / 4=r*32+va / 128/\ld4 n (Qa9 r va)=true:=by
  unfold Qa9;refine ⟨by omega,by omega,?_⟩;unfold ld4;rw [zdt (by omega),zdt (by omega)];rfl
 have qJ:=Qcb xs n (Qa9 r va) hl hn he.1 he.2.2
 have HG:(wsv xs)[Qa9 r va / 4]?=some (.u (QaR xs r va:Nat)):=by
  rw [he.2.1];exact QaZ xs _ (by omega)
 rw [he.2.1] at qJ;change Fn _ _ _ _ (. =⟨.tup [.s (.u (QaR xs r va:Nat)),.s (.bool true)],[],[]⟩) at qJ;have hp:=Qab hY (r*32+va / 128);change QaR xs r va<4294967296 at hp;have e1:IntKind.u32.wrap ((va:Int).tdiv 128)=((va / 128:Nat):Int):=Qok;have e1':(va:Int) / 128=((va / 128:Nat):Int):=by omega
 have e2:IntKind.u32.wrap (4*((va / 128:Nat):Int))=((4*(va / 128):Nat):Int):=Qfu;have e0:IntKind.u32.wrap ((r:Int)*128)=((r*128:Nat):Int):=Qfu;have e3:IntKind.u32.wrap (((r*128:Nat):Int)+((4*(va / 128):Nat):Int))=((Qa9 r va:Nat):Int):=Qvd;have yD:Qa9 r va / 4<n:=by rw [he.2.1];omega
 have x1:0+(((Qa9 r va:Nat):Int) / 4).toNat * ty26.size=Qa9 r va / 4:=Qz7;generalize Qa9 r va=E at *;have uC:=QhE (QaR xs r va);have cpm:=Qep (QaR xs r va) ac hp;rw [h3] at cpm;have cfr:=Qjw (QaR xs r va) hp;have cif:=Qcj xs n (frW (QaR xs r va)) hn (by omega);rw [zdf h] at cif;generalize frW (QaR xs r va)=F at *;generalize QaR xs r va=pte,Qcv ac=C,wsv xs=XX at *;refine fnW Tryz.func220 ?_;(repeat' ((conv=>whnf);first|exact zi0|refine zj0 fun hb=>?_|refine QIk ?_|(refine Qad (f:=257) (cc) rfl ?_)|(refine Qag (f:=258) ci [⟨_,0⟩] [(_,⟨false,1,XX⟩)] rfl ⟨rfl,trivial⟩ ⟨rfl,Qap gL,trivial⟩ ⟨rfl,Qbp⟩ ?_)|(refine Qag (f:=117) qJ [⟨_,0⟩] [(_,⟨false,1,XX⟩)] rfl ⟨rfl,trivial⟩ ⟨rfl,Qap gL,trivial⟩ ⟨rfl,Qbp⟩ ?_)|(refine Qad (f:=259) (cpm) rfl ?_)|(refine Qad (f:=260) (cfr) rfl ?_)|(refine Qag (f:=258) cif [⟨_,0⟩] [(_,⟨false,1,XX⟩)] rfl ⟨rfl,trivial⟩ ⟨rfl,Qap gL,trivial⟩ ⟨rfl,Qbp⟩ ?_)|refine zs0 ?_|refine zbb ?_ ?_))
 all_goals exact Qhr
theorem Que (xs:List Nat) (n r va:Nat) (ac:Int) (hl:xs.length=n) (hn:ZU n) (hY:ZL xs) (hr:ZU r) (gX:ZU va) (h0:QdP ac=true) (h1:va<4096) (h2:r<mpg n) (h3:pmW (QaR xs r va) ac=true) (h:frW (QaR xs r va)<mpg n) :
  FN 220 [.s (.sl 0 0 n),.s (.u r),.s (.u va),.s (.i ac)] [⟨false,1,wsv xs⟩] (. =⟨.a (.agg (QfK xs n r va ac)),[],[]⟩):=by
 have gL:=Qaa xs;have hm:=QaT n;have hmn:mpg n*32<=n:=Qeu;have cc:=QcT ac;rw [h0] at cc;have ci:=Qcj xs n r hn hr;rw [zdt h2] at ci;rw [QlT h0 h1 h2 h3 h]
 have he:Qa9 r va<4294967296/\Qa9 r va / 4=r*32+va / 128/\ld4 n (Qa9 r va)=true:=by
  unfold Qa9;refine ⟨by omega,by omega,?_⟩;unfold ld4;rw [zdt (by omega),zdt (by omega)];rfl
 have qJ:=Qcb xs n (Qa9 r va) hl hn he.1 he.2.2
 have HG:(wsv xs)[Qa9 r va / 4]?=some (.u (QaR xs r va:Nat)):=by
  rw [he.2.1];exact QaZ xs _ (by omega)
 rw [he.2.1] at qJ;change Fn _ _ _ _ (. =⟨.tup [.s (.u (QaR xs r va:Nat)),.s (.bool true)],[],[]⟩) at qJ;have hp:=Qab hY (r*32+va / 128);change QaR xs r va<4294967296 at hp;have e1:IntKind.u32.wrap ((va:Int).tdiv 128)=((va / 128:Nat):Int):=Qok;have e1':(va:Int) / 128=((va / 128:Nat):Int):=by omega
 have e2:IntKind.u32.wrap (4*((va / 128:Nat):Int))=((4*(va / 128):Nat):Int):=Qfu;have e0:IntKind.u32.wrap ((r:Int)*128)=((r*128:Nat):Int):=Qfu;have e3:IntKind.u32.wrap (((r*128:Nat):Int)+((4*(va / 128):Nat):Int))=((Qa9 r va:Nat):Int):=Qvd;have yD:Qa9 r va / 4<n:=by rw [he.2.1];omega
 have x1:0+(((Qa9 r va:Nat):Int) / 4).toNat * ty26.size=Qa9 r va / 4:=Qz7;generalize Qa9 r va=E at *;have uC:=QhE (QaR xs r va);have cpm:=Qep (QaR xs r va) ac hp;rw [h3] at cpm;have cfr:=Qjw (QaR xs r va) hp;have cif:=Qcj xs n (frW (QaR xs r va)) hn (by omega);rw [zdt h] at cif;generalize frW (QaR xs r va)=F at *;have e4:IntKind.u32.wrap ((F:Int)*128)=((F*128:Nat):Int):=Qfu;have e5:(va:Int).tmod 128=((va%128:Nat):Int):=by rw [Qgk (by omega)];omega
 have e6:IntKind.u32.wrap (((F*128:Nat):Int)+((va%128:Nat):Int))=((F*128+va%128:Nat):Int):=Qfu;generalize QaR xs r va=pte,Qcv ac=C,wsv xs=XX at *;refine fnW Tryz.func220 ?_;(repeat' ((conv=>whnf);first|exact zi0|refine zj0 fun hb=>?_|(with_reducible first|refine zv e0 ?_|refine zv e1 ?_|refine zv e2 ?_|refine zv e3 ?_|refine zv e4 ?_|refine zv e5 ?_|refine zv e6 ?_)|(refine Qad (f:=257) (cc) rfl ?_)|(refine Qag (f:=258) ci [⟨_,0⟩] [(_,⟨false,1,XX⟩)] rfl ⟨rfl,trivial⟩ ⟨rfl,Qap gL,trivial⟩ ⟨rfl,Qbp⟩ ?_)|(refine Qag (f:=117) qJ [⟨_,0⟩] [(_,⟨false,1,XX⟩)] rfl ⟨rfl,trivial⟩ ⟨rfl,Qap gL,trivial⟩ ⟨rfl,Qbp⟩ ?_)|(refine Qad (f:=259) (cpm) rfl ?_)|(refine Qad (f:=260) (cfr) rfl ?_)|(refine Qag (f:=258) cif [⟨_,0⟩] [(_,⟨false,1,XX⟩)] rfl ⟨rfl,trivial⟩ ⟨rfl,Qap gL,trivial⟩ ⟨rfl,Qbp⟩ ?_)|refine zs0 ?_|refine zbb ?_ ?_))
 all_goals exact Qhr
theorem QiR (xs:List Nat) (n r va:Nat) (ac:Int) (hl:xs.length=n) (hn:ZU n) (hY:ZL xs) (hr:ZU r) (gX:ZU va) :
  FN 220 [.s (.sl 0 0 n),.s (.u r),.s (.u va),.s (.i ac)] [⟨false,1,wsv xs⟩] (. =⟨.a (.agg (QfK xs n r va ac)),[],[]⟩):=by
 cases h0:QdP ac with
 | false=>exact Qrh xs n r va ac hl hn hY hr gX h0
 | true =>
  by_cases h1:va<4096
  .by_cases h2:r<mpg n
   .cases h3:pmW (QaR xs r va) ac with
    | false=>exact QnB xs n r va ac hl hn hY hr gX h0 h1 h2 h3
    | true =>
     by_cases h4:frW (QaR xs r va)<mpg n
     .exact Que xs n r va ac hl hn hY hr gX h0 h1 h2 h3 h4
     .exact Qrg xs n r va ac hl hn hY hr gX h0 h1 h2 h3 h4
   .exact QnC xs n r va ac hl hn hY hr gX h0 h1 h2
  .exact Qrf xs n r va ac hl hn hY hr gX h0 (by omega)
theorem QbG (xs:List Nat) (n:Nat) (hl:xs.length=n) (hn:n<=4294967296):FN 45 [.s (.sl 0 0 n)] [⟨false,1,wsv xs⟩] (. =⟨.a (.s (.sl 1 0 n)),[],[⟨true,1,wsv xs⟩]⟩):=by
 refine fnW Tryz.func45 ?_;(conv=>whnf);(repeat' ((first|exact zi0|refine zj0 fun hb=>?_|(refine Ns.any rfl ?_;intro bn gM)|(apply Sk.mk; . exact QcB (wsv xs) (by show (wsv xs).length=n*1;simp [hl]) (QbF xs))|(apply Sd.mk; . refine ⟨rfl,rfl,rfl,?_,?_⟩<;>first|omega|(show (0+n)*4<=_;omega))|((with_reducible apply Vl.mk (α:=Nat)); . exact Nat.zero_add n)|((with_reducible apply Vl.mk (α:=List SV)); . exact zna (wsv xs))|refine zs0 ?_|refine zbb ?_ ?_)<;>conv=>whnf))
 .obtain rfl:n=0:=gM hb
  obtain rfl:=List.eq_nil_of_length_eq_zero hl
  (exact Qoi)
 ·(exact QbJ)
theorem QbA (xs:List Nat) (j w:Nat) (hj:j<xs.length):QaC (wsv xs) j [.u w]=wsv (xs.set j w):=by
 apply List.ext_getElem?;intro i;rw [Qbj _ _ _ _ (by simp;omega)];unfold wsv;simp only [zgm,List.length_cons,List.length_nil,Nat.zero_add,List.getElem?_set]
 by_cases hi:i=j
 .subst hi
  rw [zP (by omega),zP rfl,zP hj];simp
 .rw [zN (by omega),zN (by omega)]
theorem Qkh (xs:List Nat) (n a v:Nat) (hl:xs.length=n) (hn:ZU n) (ha:ZU a) (qU:ld4 n a=true):FN 252 [.s (.sl 0 0 n),.s (.u a),.s (.i 4),.s (.u v)] [⟨false,1,wsv xs⟩] (. =⟨.tup [.s (.sl 1 0 n),.s (.bool true)],[],[⟨true,1,wsv (xs.set (a / 4) v)⟩]⟩):=by
 have hw:=QhV xs n a hn ha;rw [qU] at hw;have yZ:=Qeo qU;have gK:=QbG xs n hl (by omega);have fE:=QbA xs (a / 4) v (by omega);have uP:(wsv xs).length=n:=by simp [hl]
 have fK:Qao (wsv xs)=true:=Qaa xs;have VJ:Qao (wsv (xs.set (a / 4) v))=true:=Qaa _;generalize wsv (xs.set (a / 4) v)=X2,wsv xs=X at *;refine fnW Tryz.func252 ?_;(conv=>whnf);(repeat' ((first|exact zi0|refine zj0 fun hb=>?_|(refine Qag (f:=182) hw [⟨0,0⟩] [(0,⟨false,1,X⟩)] rfl ⟨rfl,trivial⟩ ⟨rfl,Qap fK,trivial⟩ ⟨rfl,Qbp⟩ ?_)|(refine Qag (f:=45) gK [⟨0,0⟩] [(0,⟨false,1,X⟩)] rfl ⟨rfl,trivial⟩ ⟨rfl,Qap fK,trivial⟩ ⟨rfl,Qbp⟩ ?_)|refine Qew ?_|(apply Sd.mk; . refine ⟨rfl,rfl,rfl,?_⟩;show _<=X.length;simp;omega)|refine Qww ?_|refine zq7 ?_|refine zs0 ?_|refine zbb ?_ ?_)<;>conv=>whnf))
 all_goals (exact QbJ)
theorem Qlm (a b:Nat) (ha:ZU a) (hb:ZU b):bits .or .u32 (a:Int) (b:Int)=((a ||| b:Nat):Int)/\a ||| b<4294967296:=by
 have h:a ||| b<2^32:=Nat.or_lt_two_pow (by simpa using ha) (by simpa using hb)
 have e:∀ c:Nat,c<4294967296->(BitVec.ofInt 32 (c:Int)).toNat=c:=fun c hc=>by
  rw [BitVec.toNat_ofInt];simp;omega
 refine ⟨?_,by simpa using h⟩;show IntKind.u32.wrap (((BitVec.ofInt 32 (a:Int)) ||| (BitVec.ofInt 32 (b:Int))).toNat:Int)=_;rw [BitVec.toNat_or,e a ha,e b hb,Qch];simp only [Nat.reducePow] at h;omega
def QbK (p:Nat) (ac:Int):Nat:=if ac=3 then (p ||| 8) ||| 16 else p ||| 8
theorem QlJ (p:Nat) (ac:Int) (hp:ZU p):QbK p ac<4294967296:=by
 have h1:=(Qlm p 8 hp (by omega)).2;have h2:=(Qlm (p ||| 8) 16 h1 (by omega)).2;unfold QbK;split<;>assumption
theorem Qkk (xs:List Nat) (n E:Nat) (ac:Int) (hl:xs.length=n) (hn:ZU n) (hY:ZL xs) (hE:ZU E) (qU:ld4 n E=true) :
  FN 221 [.s (.sl 0 0 n),.s (.u E),.s (.i ac)] [⟨false,1,wsv xs⟩] (. =⟨.a (.s (.sl 1 0 n)),[],[⟨true,1,wsv (xs.set (E / 4) (QbK (xs.getD (E / 4) 0) ac))⟩]⟩):=by
 have qJ:=Qcb xs n E hl hn hE qU;have gN:=Qkh xs n E (QbK (xs.getD (E / 4) 0) ac) hl hn hE qU;have hp:=Qab hY (E / 4);have gL:=Qaa xs;have gO:=Qaa (xs.set (E / 4) (QbK (xs.getD (E / 4) 0) ac));generalize wsv (xs.set (E / 4) (QbK (xs.getD (E / 4) 0) ac))=X2 at *;generalize xs.getD (E / 4) 0=p at *;have o1:=Qlm p 8 hp (by omega);have o2:=Qlm (p ||| 8) 16 o1.2 (by omega);have k1:bits .or .u32 (p:Int) 8=((p ||| 8:Nat):Int):=o1.1;have k2:bits .or .u32 ((p ||| 8:Nat):Int) 16=(((p ||| 8) ||| 16:Nat):Int):=o2.1;have t3:ac=3->QbK p ac=(p ||| 8) ||| 16:=fun h=>zP h
 have t0:ac≠3->QbK p ac=p ||| 8:=fun h=>zN h
 clear o1 o2;generalize (p ||| 8) ||| 16=p2 at *;generalize p ||| 8=p1,wsv xs=XX at *
 by_cases h3:ac=3
 .rw [t3 h3] at gN
  subst h3;refine fnW Tryz.func221 ?_;(repeat' ((conv=>whnf);first|exact zi0|refine zj0 fun hb=>?_|(with_reducible first|refine zv k1 ?_|refine zv k2 ?_)|(refine Qag (f:=117) qJ [⟨_,0⟩] [(_,⟨false,1,XX⟩)] rfl ⟨rfl,trivial⟩ ⟨rfl,Qap gL,trivial⟩ ⟨rfl,Qbp⟩ ?_)|(refine Qag (f:=252) gN [⟨_,0⟩] [(_,⟨false,1,XX⟩)] rfl ⟨rfl,trivial⟩ ⟨rfl,Qap gL,trivial⟩ ⟨rfl,Qbp⟩ ?_)|refine zs0 ?_|refine zbb ?_ ?_))
  all_goals exact QbJ
 .rw [t0 h3] at gN
  refine fnW Tryz.func221 ?_;(repeat' ((conv=>whnf);first|exact zi0|refine zj0 fun hb=>?_|(with_reducible refine zv k1 ?_)|(refine Qag (f:=117) qJ [⟨_,0⟩] [(_,⟨false,1,XX⟩)] rfl ⟨rfl,trivial⟩ ⟨rfl,Qap gL,trivial⟩ ⟨rfl,Qbp⟩ ?_)|(refine Qag (f:=252) gN [⟨_,0⟩] [(_,⟨false,1,XX⟩)] rfl ⟨rfl,trivial⟩ ⟨rfl,Qap gL,trivial⟩ ⟨rfl,Qbp⟩ ?_)|refine zs0 ?_|refine zbb ?_ ?_))
  all_goals exact QbJ
end Go.Proofs.YtpgkkfajljekpabGreat
