import Derived.Test.YtflelebfmdggkaaGreatP4
import Derived.Test.YtflelebfmdggkaaGreatP45
set_option linter.unusedSimpArgs false
set_option linter.unusedVariables false
set_option maxHeartbeats 100000000
set_option maxRecDepth 100000
namespace Go.Proofs.YtflelebfmdggkaaGreat
open Go Go.RowKit
def Qcw (ac:Int):Int:=if ac=1 then 4 else if ac=3 then 6 else 5
def QdQ (ac:Int):Bool:=decide (1≤ac∧ac≤3)
theorem QcT (ac:Int):FN 240 [.s (.i ac)] [] (· =⟨.tup [.s (.i (Qcw ac)),.s (.bool (QdQ ac))],[],[]⟩):=by
 refine fnW Tryz.func240 ?_;exact QBb
theorem Qcj (xs:List Nat) (n f:Nat) (hn:n<4294967296) (hf:f<4294967296):FN 241 [.s (.sl 0 0 n),.s (.u f)] [⟨false,1,wsv xs⟩] (· =⟨.a (.s (.bool (decide (f<mpg n)))),[],[]⟩):=by
 have hm:=QaU n;have hp:=QbI xs n hn;generalize mpg n=P at *;refine fnW Tryz.func241 ?_;(repeat' ((conv=>whnf);first|exact zi0|(refine zj0 ?_;intro hb)|(refine Qae (f:=57) (hp) [⟨0,0⟩] [(0,⟨false,1,wsv xs⟩)] (by first|exact rfl|simp [Qc1,QcJ,Qc5]) ⟨rfl,trivial⟩ (⟨rfl,Qar (Qaa _),trivial⟩) ⟨rfl,Qbq⟩ ?_)|refine zs0 ?_|refine zbb ?_ ?_));all_goals (conv=>whnf)
 all_goals
  refine QbV rfl (Qaa _) rfl ?_;simp only [Qbc];congr 3;rw [Bool.eq_iff_iff,decide_eq_true_eq,decide_eq_true_eq];omega
def frW (p:Nat):Nat:=p / 2^8%2^8
theorem Qha (p:Nat):frW p<256:=Nat.mod_lt _ (by decide)
theorem Qjo (p:Nat) (hp:p<4294967296):FN 243 [.s (.u p)] [] (· =⟨.a (.s (.u (frW p:Nat))),[],[]⟩):=by
 have h:FN 179 [.s (.u p),.s (.i 8),.s (.i 8)] [] (· =⟨.a (.s (.u ((frW p:Nat):Int))),[],[]⟩):=QdP p 8 8 hp (by omega) (by omega) (by omega);generalize frW p=F at *;refine fnW Tryz.func243 ?_;(repeat' ((conv=>whnf);first|exact zi0|(refine zj0 ?_;intro hb)|(refine Qac (f:=179) (h) rfl ?_)|refine zs0 ?_|refine zbb ?_ ?_));all_goals (conv=>whnf)
 all_goals exact Qam rfl rfl
def pmW (p:Nat) (ac:Int):Bool:=decide (p &&& 1≠0∧(ac=3→p &&& 2≠0)∧(ac=1→p &&& 4≠0))
theorem QcI (p k:Nat) (hp:p<4294967296) (hk:k<4294967296):bits .and .u32 (p:Int) (k:Int)=((p &&& k:Nat):Int):=u32_and_nat p k hp hk
theorem Qeh (p:Nat) (ac:Int) (hp:p<4294967296):FN 242 [.s (.u p),.s (.i ac)] [] (· =⟨.a (.s (.bool (pmW p ac))),[],[]⟩):=by
 have h1:bits .and .u32 (p:Int) 1=((p &&& 1:Nat):Int):=QcI p 1 hp (by omega);have h2:bits .and .u32 (p:Int) 2=((p &&& 2:Nat):Int):=QcI p 2 hp (by omega);have h4:bits .and .u32 (p:Int) 4=((p &&& 4:Nat):Int):=QcI p 4 hp (by omega);unfold pmW;generalize p &&& 1=a1,p &&& 2=a2,p &&& 4=a4 at *;refine fnW Tryz.func242 ?_;(repeat' ((conv=>whnf);first|exact zi0|(refine zj0 ?_;intro hb)|(with_reducible first|refine zv h1 ?_|refine zv h2 ?_|refine zv h4 ?_)|refine zs0 ?_|refine zbb ?_ ?_));all_goals (conv=>whnf)
 all_goals
  apply Qam
  (focus rfl)
  simp only [Qbc];congr 3
  first
   | exact (decide_eq_false (by omega)).symm
   | exact (decide_eq_true (by omega)).symm
   | (rw [Bool.eq_iff_iff,decide_eq_true_eq];simp only [bne_iff_ne,ne_eq];omega)
def QaT (xs:List Nat) (r va:Nat):Nat:=xs.getD (r*32+va / 128) 0
def Qba (r va:Nat):Nat:=r*128+4*(va / 128)
def Qbp (xs:List Nat) (n r va:Nat) (ac:Int):Bool:=QdQ ac&&decide (va<4096)&&decide (r<mpg n)&&pmW (QaT xs r va) ac&&decide (frW (QaT xs r va)<mpg n)
def Qfw (xs:List Nat) (n r va:Nat) (ac:Int):List SV:=if Qbp xs n r va ac=true then [.u (frW (QaT xs r va)*128+va%128:Nat),.u (Qba r va:Nat),.i 0] else [.u 0,.u 0,.i (Qcw ac)]
theorem Qds {xs:List Nat} {n r va:Nat} {ac:Int} (h:¬ (QdQ ac=true∧va<4096∧r<mpg n∧pmW (QaT xs r va) ac=true∧frW (QaT xs r va)<mpg n)):Qfw xs n r va ac= [.u 0,.u 0,.i (Qcw ac)]:=by
 unfold Qfw;rw [zN];intro hq;unfold Qbp at hq;simp only [Bool.and_eq_true,decide_eq_true_eq] at hq;exact h ⟨hq.1.1.1.1,hq.1.1.1.2,hq.1.1.2,hq.1.2,hq.2⟩
theorem Qlg {xs:List Nat} {n r va:Nat} {ac:Int} (h1:QdQ ac=true) (h2:va<4096) (h3:r<mpg n) (h4:pmW (QaT xs r va) ac=true) (h5:frW (QaT xs r va)<mpg n):Qfw xs n r va ac= [.u (frW (QaT xs r va)*128+va%128:Nat),.u (Qba r va:Nat),.i 0]:=by
 unfold Qfw Qbp;rw [h1,h4,decide_eq_true h2,decide_eq_true h3,decide_eq_true h5];rfl
theorem Qck (xs:List Nat) (n:Nat) (hn:n<4294967296):FN 66 [.s (.sl 0 0 n)] [⟨false,1,wsv xs⟩] (· =⟨.a (.s (.i (mpg n:Nat))),[],[]⟩):=by
 refine fnW Tryz.func66 ?_;exact QA2
theorem Qab {xs:List Nat} (h:∀ y∈xs,y<4294967296) (j:Nat):xs.getD j 0<4294967296:=by
 exact QxZ
theorem QpK (xs:List Nat) (n r va:Nat) (ac:Int) (hl:xs.length=n) (hn:n<4294967296) (hY:∀ y∈xs,y<4294967296) (hr:r<4294967296) (gX:va<4294967296) (h:QdQ ac=false) :
  FN 207 [.s (.sl 0 0 n),.s (.u r),.s (.u va),.s (.i ac)] [⟨false,1,wsv xs⟩] (· =⟨.a (.agg (Qfw xs n r va ac)),[],[]⟩):=by
 have gL:=Qaa xs;have hm:=QaU n;have hmn:mpg n*32≤n:=QcQ;have cc:=QcT ac;rw [Qds (by rw [h];simp)];rw [h] at cc;exact QD7
theorem QqR (xs:List Nat) (n r va:Nat) (ac:Int) (hl:xs.length=n) (hn:n<4294967296) (hY:∀ y∈xs,y<4294967296) (hr:r<4294967296) (gX:va<4294967296) (h0:QdQ ac=true) (h:4096≤va) :
  FN 207 [.s (.sl 0 0 n),.s (.u r),.s (.u va),.s (.i ac)] [⟨false,1,wsv xs⟩] (· =⟨.a (.agg (Qfw xs n r va ac)),[],[]⟩):=by
 have gL:=Qaa xs;have hm:=QaU n;have hmn:mpg n*32≤n:=QcQ;have cc:=QcT ac;rw [Qds (by omega)];rw [h0] at cc;exact QD7
theorem Qnr (xs:List Nat) (n r va:Nat) (ac:Int) (hl:xs.length=n) (hn:n<4294967296) (hY:∀ y∈xs,y<4294967296) (hr:r<4294967296) (gX:va<4294967296) (h0:QdQ ac=true) (h1:va<4096) (h:¬ r<mpg n) :
  FN 207 [.s (.sl 0 0 n),.s (.u r),.s (.u va),.s (.i ac)] [⟨false,1,wsv xs⟩] (· =⟨.a (.agg (Qfw xs n r va ac)),[],[]⟩):=by
 have gL:=Qaa xs;have hm:=QaU n;have hmn:mpg n*32≤n:=QcQ;have cc:=QcT ac;rw [Qds (by omega)];rw [h0] at cc;have ci:=Qcj xs n r hn hr;rw [decide_eq_false h] at ci;generalize Qcw ac=C,wsv xs=XX at *;refine fnW Tryz.func207 ?_;(repeat' ((conv=>whnf);first|exact zi0|(refine zj0 ?_;intro hb)|(refine Qac (f:=240) (cc) rfl ?_)|(refine Qae (f:=241) ci [⟨_,0⟩] [(_,⟨false,1,XX⟩)] rfl ⟨rfl,trivial⟩ ⟨rfl,Qar gL,trivial⟩ ⟨rfl,Qbq⟩ ?_)|refine zs0 ?_|refine zbb ?_ ?_))
 all_goals exact Qd8
theorem Qnu (xs:List Nat) (n r va:Nat) (ac:Int) (hl:xs.length=n) (hn:n<4294967296) (hY:∀ y∈xs,y<4294967296) (hr:r<4294967296) (gX:va<4294967296) (h0:QdQ ac=true) (h1:va<4096) (h2:r<mpg n) (h:pmW (QaT xs r va) ac=false) :
  FN 207 [.s (.sl 0 0 n),.s (.u r),.s (.u va),.s (.i ac)] [⟨false,1,wsv xs⟩] (· =⟨.a (.agg (Qfw xs n r va ac)),[],[]⟩):=by
 have gL:=Qaa xs;have hm:=QaU n;have hmn:mpg n*32≤n:=QcQ;have cc:=QcT ac;rw [h0] at cc;have ci:=Qcj xs n r hn hr;rw [decide_eq_true h2] at ci;rw [Qds (by rw [h];simp)]
 have he:Qba r va<4294967296∧Qba r va / 4=r*32+va / 128∧ld4 n (Qba r va)=true:=by
  unfold Qba;refine ⟨by omega,by omega,?_⟩;unfold ld4;rw [decide_eq_true (by omega),decide_eq_true (by omega)];rfl
 have qJ:=Qb9 xs n (Qba r va) hl hn he.1 he.2.2
 have uU:(wsv xs)[Qba r va / 4]?=some (.u (QaT xs r va:Nat)):=by
  rw [he.2.1];exact Qa0 xs _ (by omega)
 rw [he.2.1] at qJ;change Fn _ _ _ _ (· =⟨.tup [.s (.u (QaT xs r va:Nat)),.s (.bool true)],[],[]⟩) at qJ;have hp:=Qab hY (r*32+va / 128);change QaT xs r va<4294967296 at hp;have e1:IntKind.u32.wrap ((va:Int).tdiv 128)=((va / 128:Nat):Int):=Qjf;have e1':(va:Int) / 128=((va / 128:Nat):Int):=by omega
 have e2:IntKind.u32.wrap (4*((va / 128:Nat):Int))=((4*(va / 128):Nat):Int):=QGR;have e0:IntKind.u32.wrap ((r:Int)*128)=((r*128:Nat):Int):=QGR;have e3:IntKind.u32.wrap (((r*128:Nat):Int)+((4*(va / 128):Nat):Int))=((Qba r va:Nat):Int):=Qlv;have yC:Qba r va / 4<n:=by rw [he.2.1];omega
 have x1:0+(((Qba r va:Nat):Int) / 4).toNat * ty24.size=Qba r va / 4:=QDL;generalize Qba r va=E at *;have zX:=Qha (QaT xs r va);have cpm:=Qeh (QaT xs r va) ac hp;rw [h] at cpm;generalize QaT xs r va=pte,Qcw ac=C,wsv xs=XX at *;refine fnW Tryz.func207 ?_;(repeat' ((conv=>whnf);first|exact zi0|(refine zj0 ?_;intro hb)|refine QHV ?_|(refine Qac (f:=240) (cc) rfl ?_)|(refine Qae (f:=241) ci [⟨_,0⟩] [(_,⟨false,1,XX⟩)] rfl ⟨rfl,trivial⟩ ⟨rfl,Qar gL,trivial⟩ ⟨rfl,Qbq⟩ ?_)|(refine Qae (f:=115) qJ [⟨_,0⟩] [(_,⟨false,1,XX⟩)] rfl ⟨rfl,trivial⟩ ⟨rfl,Qar gL,trivial⟩ ⟨rfl,Qbq⟩ ?_)|(refine Qac (f:=242) (cpm) rfl ?_)|refine zs0 ?_|refine zbb ?_ ?_))
 all_goals exact Qd8
theorem Qsa (xs:List Nat) (n r va:Nat) (ac:Int) (hl:xs.length=n) (hn:n<4294967296) (hY:∀ y∈xs,y<4294967296) (hr:r<4294967296) (gX:va<4294967296) (h0:QdQ ac=true) (h1:va<4096) (h2:r<mpg n) (h3:pmW (QaT xs r va) ac=true) (h:¬ frW (QaT xs r va)<mpg n) :
  FN 207 [.s (.sl 0 0 n),.s (.u r),.s (.u va),.s (.i ac)] [⟨false,1,wsv xs⟩] (· =⟨.a (.agg (Qfw xs n r va ac)),[],[]⟩):=by
 have gL:=Qaa xs;have hm:=QaU n;have hmn:mpg n*32≤n:=QcQ;have cc:=QcT ac;rw [h0] at cc;have ci:=Qcj xs n r hn hr;rw [decide_eq_true h2] at ci;rw [Qds (by omega)]
 have he:Qba r va<4294967296∧Qba r va / 4=r*32+va / 128∧ld4 n (Qba r va)=true:=by
  unfold Qba;refine ⟨by omega,by omega,?_⟩;unfold ld4;rw [decide_eq_true (by omega),decide_eq_true (by omega)];rfl
 have qJ:=Qb9 xs n (Qba r va) hl hn he.1 he.2.2
 have uU:(wsv xs)[Qba r va / 4]?=some (.u (QaT xs r va:Nat)):=by
  rw [he.2.1];exact Qa0 xs _ (by omega)
 rw [he.2.1] at qJ;change Fn _ _ _ _ (· =⟨.tup [.s (.u (QaT xs r va:Nat)),.s (.bool true)],[],[]⟩) at qJ;have hp:=Qab hY (r*32+va / 128);change QaT xs r va<4294967296 at hp;have e1:IntKind.u32.wrap ((va:Int).tdiv 128)=((va / 128:Nat):Int):=Qjf;have e1':(va:Int) / 128=((va / 128:Nat):Int):=by omega
 have e2:IntKind.u32.wrap (4*((va / 128:Nat):Int))=((4*(va / 128):Nat):Int):=QGR;have e0:IntKind.u32.wrap ((r:Int)*128)=((r*128:Nat):Int):=QGR;have e3:IntKind.u32.wrap (((r*128:Nat):Int)+((4*(va / 128):Nat):Int))=((Qba r va:Nat):Int):=Qlv;have yC:Qba r va / 4<n:=by rw [he.2.1];omega
 have x1:0+(((Qba r va:Nat):Int) / 4).toNat * ty24.size=Qba r va / 4:=QDL;generalize Qba r va=E at *;have zX:=Qha (QaT xs r va);have cpm:=Qeh (QaT xs r va) ac hp;rw [h3] at cpm;have cfr:=Qjo (QaT xs r va) hp;have cif:=Qcj xs n (frW (QaT xs r va)) hn (by omega);rw [decide_eq_false h] at cif;generalize frW (QaT xs r va)=F at *;generalize QaT xs r va=pte,Qcw ac=C,wsv xs=XX at *;refine fnW Tryz.func207 ?_;(repeat' ((conv=>whnf);first|exact zi0|(refine zj0 ?_;intro hb)|refine QHV ?_|(refine Qac (f:=240) (cc) rfl ?_)|(refine Qae (f:=241) ci [⟨_,0⟩] [(_,⟨false,1,XX⟩)] rfl ⟨rfl,trivial⟩ ⟨rfl,Qar gL,trivial⟩ ⟨rfl,Qbq⟩ ?_)|(refine Qae (f:=115) qJ [⟨_,0⟩] [(_,⟨false,1,XX⟩)] rfl ⟨rfl,trivial⟩ ⟨rfl,Qar gL,trivial⟩ ⟨rfl,Qbq⟩ ?_)|(refine Qac (f:=242) (cpm) rfl ?_)|(refine Qac (f:=243) (cfr) rfl ?_)|(refine Qae (f:=241) cif [⟨_,0⟩] [(_,⟨false,1,XX⟩)] rfl ⟨rfl,trivial⟩ ⟨rfl,Qar gL,trivial⟩ ⟨rfl,Qbq⟩ ?_)|refine zs0 ?_|refine zbb ?_ ?_))
 all_goals exact Qd8
theorem QuT (xs:List Nat) (n r va:Nat) (ac:Int) (hl:xs.length=n) (hn:n<4294967296) (hY:∀ y∈xs,y<4294967296) (hr:r<4294967296) (gX:va<4294967296) (h0:QdQ ac=true) (h1:va<4096) (h2:r<mpg n) (h3:pmW (QaT xs r va) ac=true) (h:frW (QaT xs r va)<mpg n) :
  FN 207 [.s (.sl 0 0 n),.s (.u r),.s (.u va),.s (.i ac)] [⟨false,1,wsv xs⟩] (· =⟨.a (.agg (Qfw xs n r va ac)),[],[]⟩):=by
 have gL:=Qaa xs;have hm:=QaU n;have hmn:mpg n*32≤n:=QcQ;have cc:=QcT ac;rw [h0] at cc;have ci:=Qcj xs n r hn hr;rw [decide_eq_true h2] at ci;rw [Qlg h0 h1 h2 h3 h]
 have he:Qba r va<4294967296∧Qba r va / 4=r*32+va / 128∧ld4 n (Qba r va)=true:=by
  unfold Qba;refine ⟨by omega,by omega,?_⟩;unfold ld4;rw [decide_eq_true (by omega),decide_eq_true (by omega)];rfl
 have qJ:=Qb9 xs n (Qba r va) hl hn he.1 he.2.2
 have uU:(wsv xs)[Qba r va / 4]?=some (.u (QaT xs r va:Nat)):=by
  rw [he.2.1];exact Qa0 xs _ (by omega)
 rw [he.2.1] at qJ;change Fn _ _ _ _ (· =⟨.tup [.s (.u (QaT xs r va:Nat)),.s (.bool true)],[],[]⟩) at qJ;have hp:=Qab hY (r*32+va / 128);change QaT xs r va<4294967296 at hp;have e1:IntKind.u32.wrap ((va:Int).tdiv 128)=((va / 128:Nat):Int):=Qjf;have e1':(va:Int) / 128=((va / 128:Nat):Int):=by omega
 have e2:IntKind.u32.wrap (4*((va / 128:Nat):Int))=((4*(va / 128):Nat):Int):=QGR;have e0:IntKind.u32.wrap ((r:Int)*128)=((r*128:Nat):Int):=QGR;have e3:IntKind.u32.wrap (((r*128:Nat):Int)+((4*(va / 128):Nat):Int))=((Qba r va:Nat):Int):=Qlv;have yC:Qba r va / 4<n:=by rw [he.2.1];omega
 have x1:0+(((Qba r va:Nat):Int) / 4).toNat * ty24.size=Qba r va / 4:=QDL;generalize Qba r va=E at *;have zX:=Qha (QaT xs r va);have cpm:=Qeh (QaT xs r va) ac hp;rw [h3] at cpm;have cfr:=Qjo (QaT xs r va) hp;have cif:=Qcj xs n (frW (QaT xs r va)) hn (by omega);rw [decide_eq_true h] at cif;generalize frW (QaT xs r va)=F at *;have e4:IntKind.u32.wrap ((F:Int)*128)=((F*128:Nat):Int):=QGR;have e5:(va:Int).tmod 128=((va%128:Nat):Int):=by rw [QfI (by omega)];omega
 have e6:IntKind.u32.wrap (((F*128:Nat):Int)+((va%128:Nat):Int))=((F*128+va%128:Nat):Int):=QGR;generalize QaT xs r va=pte,Qcw ac=C,wsv xs=XX at *;refine fnW Tryz.func207 ?_;(repeat' ((conv=>whnf);first|exact zi0|(refine zj0 ?_;intro hb)|(with_reducible first|refine zv e0 ?_|refine zv e1 ?_|refine zv e2 ?_|refine zv e3 ?_|refine zv e4 ?_|refine zv e5 ?_|refine zv e6 ?_)|(refine Qac (f:=240) (cc) rfl ?_)|(refine Qae (f:=241) ci [⟨_,0⟩] [(_,⟨false,1,XX⟩)] rfl ⟨rfl,trivial⟩ ⟨rfl,Qar gL,trivial⟩ ⟨rfl,Qbq⟩ ?_)|(refine Qae (f:=115) qJ [⟨_,0⟩] [(_,⟨false,1,XX⟩)] rfl ⟨rfl,trivial⟩ ⟨rfl,Qar gL,trivial⟩ ⟨rfl,Qbq⟩ ?_)|(refine Qac (f:=242) (cpm) rfl ?_)|(refine Qac (f:=243) (cfr) rfl ?_)|(refine Qae (f:=241) cif [⟨_,0⟩] [(_,⟨false,1,XX⟩)] rfl ⟨rfl,trivial⟩ ⟨rfl,Qar gL,trivial⟩ ⟨rfl,Qbq⟩ ?_)|refine zs0 ?_|refine zbb ?_ ?_))
 all_goals exact Qd8
theorem Qh9 (xs:List Nat) (n r va:Nat) (ac:Int) (hl:xs.length=n) (hn:n<4294967296) (hY:∀ y∈xs,y<4294967296) (hr:r<4294967296) (gX:va<4294967296) :
  FN 207 [.s (.sl 0 0 n),.s (.u r),.s (.u va),.s (.i ac)] [⟨false,1,wsv xs⟩] (· =⟨.a (.agg (Qfw xs n r va ac)),[],[]⟩):=by
 cases h0:QdQ ac with
 | false=>exact QpK xs n r va ac hl hn hY hr gX h0
 | true =>
  by_cases h1:va<4096
  ·by_cases h2:r<mpg n
   ·cases h3:pmW (QaT xs r va) ac with
    | false=>exact Qnu xs n r va ac hl hn hY hr gX h0 h1 h2 h3
    | true =>
     by_cases h4:frW (QaT xs r va)<mpg n
     ·exact QuT xs n r va ac hl hn hY hr gX h0 h1 h2 h3 h4
     ·exact Qsa xs n r va ac hl hn hY hr gX h0 h1 h2 h3 h4
   ·exact Qnr xs n r va ac hl hn hY hr gX h0 h1 h2
  ·exact QqR xs n r va ac hl hn hY hr gX h0 (by omega)
theorem QbH (xs:List Nat) (n:Nat) (hl:xs.length=n) (hn:n≤4294967296):FN 39 [.s (.sl 0 0 n)] [⟨false,1,wsv xs⟩] (· =⟨.a (.s (.sl 1 0 n)),[],[⟨true,1,wsv xs⟩]⟩):=by
 refine fnW Tryz.func39 ?_;(repeat' ((conv=>whnf);first|exact zi0|(refine zj0 ?_;intro hb)|(refine Ns.any rfl ?_;intro bn gM)|(apply Sk.mk; · exact Qct (wsv xs) (by show (wsv xs).length=n*1;simp [hl]) (QbF xs))|(apply Sd.mk; · refine ⟨rfl,rfl,rfl,?_,?_⟩<;>first|omega|(show (0+n)*4≤_;omega))|((with_reducible apply Vl.mk (α:=Nat)); · exact Nat.zero_add n)|((with_reducible apply Vl.mk (α:=List SV)); · exact List.nil_append (wsv xs))|refine zs0 ?_|refine zbb ?_ ?_));all_goals (conv=>whnf)
 ·obtain rfl:n=0:=gM hb
  obtain rfl:=List.eq_nil_of_length_eq_zero hl
  (exact Qny)
 ·(exact QbA)
theorem QbB (xs:List Nat) (j w:Nat) (hj:j<xs.length):QaC (wsv xs) j [.u w]=wsv (xs.set j w):=by
 apply List.ext_getElem?;intro i;rw [Qbi _ _ _ _ (by simp;omega)];unfold wsv;simp only [List.getElem?_map,List.length_cons,List.length_nil,Nat.zero_add,List.getElem?_set]
 by_cases hi:i=j
 ·subst hi
  rw [zP (by omega),zP rfl,zP hj];simp
 ·rw [zN (by omega),zN (by omega)]
theorem Qj0 (xs:List Nat) (n a v:Nat) (hl:xs.length=n) (hn:n<4294967296) (ha:a<4294967296) (qY:ld4 n a=true):FN 235 [.s (.sl 0 0 n),.s (.u a),.s (.i 4),.s (.u v)] [⟨false,1,wsv xs⟩] (· =⟨.tup [.s (.sl 1 0 n),.s (.bool true)],[],[⟨true,1,wsv (xs.set (a / 4) v)⟩]⟩):=by
 have hw:=Qhw xs n a hn ha;rw [qY] at hw;have yU:=Qd5 qY;have gK:=QbH xs n hl (by omega);have fC:=QbB xs (a / 4) v (by omega);have uP:(wsv xs).length=n:=by simp [hl]
 have fM:Qau (wsv xs)=true:=Qaa xs;have KU:Qau (wsv (xs.set (a / 4) v))=true:=Qaa _;generalize wsv (xs.set (a / 4) v)=X2,wsv xs=X at *;refine fnW Tryz.func235 ?_;(repeat' ((conv=>whnf);first|exact zi0|(refine zj0 ?_;intro hb)|(refine Qae (f:=178) hw [⟨0,0⟩] [(0,⟨false,1,X⟩)] rfl ⟨rfl,trivial⟩ ⟨rfl,Qar fM,trivial⟩ ⟨rfl,Qbq⟩ ?_)|(refine Qae (f:=39) gK [⟨0,0⟩] [(0,⟨false,1,X⟩)] rfl ⟨rfl,trivial⟩ ⟨rfl,Qar fM,trivial⟩ ⟨rfl,Qbq⟩ ?_)|refine Qeo ?_|(apply Sd.mk; · refine ⟨rfl,rfl,rfl,?_⟩;show _≤X.length;simp;omega)|refine QvS ?_|refine zq7 ?_|refine zs0 ?_|refine zbb ?_ ?_));all_goals (conv=>whnf)
 all_goals (exact QbA)
theorem QkU (a b:Nat) (ha:a<4294967296) (hb:b<4294967296):bits .or .u32 (a:Int) (b:Int)=((a ||| b:Nat):Int)∧a ||| b<4294967296:=by
 have h:a ||| b<2^32:=Nat.or_lt_two_pow (by simpa using ha) (by simpa using hb)
 have e:∀ c:Nat,c<4294967296→(BitVec.ofInt 32 (c:Int)).toNat=c:=fun c hc=>by
  rw [BitVec.toNat_ofInt];simp;omega
 refine ⟨?_,by simpa using h⟩;show IntKind.u32.wrap (((BitVec.ofInt 32 (a:Int)) ||| (BitVec.ofInt 32 (b:Int))).toNat:Int)=_;rw [BitVec.toNat_or,e a ha,e b hb,Qcf];simp only [Nat.reducePow] at h;omega
def QbK (p:Nat) (ac:Int):Nat:=if ac=3 then (p ||| 8) ||| 16 else p ||| 8
theorem QkN (p:Nat) (ac:Int) (hp:p<4294967296):QbK p ac<4294967296:=by
 have h1:=(QkU p 8 hp (by omega)).2;have h2:=(QkU (p ||| 8) 16 h1 (by omega)).2;unfold QbK;split<;>assumption
theorem QjO (xs:List Nat) (n E:Nat) (ac:Int) (hl:xs.length=n) (hn:n<4294967296) (hY:∀ y∈xs,y<4294967296) (hE:E<4294967296) (qY:ld4 n E=true) :
  FN 208 [.s (.sl 0 0 n),.s (.u E),.s (.i ac)] [⟨false,1,wsv xs⟩] (· =⟨.a (.s (.sl 1 0 n)),[],[⟨true,1,wsv (xs.set (E / 4) (QbK (xs.getD (E / 4) 0) ac))⟩]⟩):=by
 have qJ:=Qb9 xs n E hl hn hE qY;have gN:=Qj0 xs n E (QbK (xs.getD (E / 4) 0) ac) hl hn hE qY;have hp:=Qab hY (E / 4);have gL:=Qaa xs;have gY:=Qaa (xs.set (E / 4) (QbK (xs.getD (E / 4) 0) ac));generalize wsv (xs.set (E / 4) (QbK (xs.getD (E / 4) 0) ac))=X2 at *;generalize xs.getD (E / 4) 0=p at *;have o1:=QkU p 8 hp (by omega);have o2:=QkU (p ||| 8) 16 o1.2 (by omega);have k1:bits .or .u32 (p:Int) 8=((p ||| 8:Nat):Int):=o1.1;have k2:bits .or .u32 ((p ||| 8:Nat):Int) 16=(((p ||| 8) ||| 16:Nat):Int):=o2.1;have t3:ac=3→QbK p ac=(p ||| 8) ||| 16:=fun h=>zP h
 have t0:ac≠3→QbK p ac=p ||| 8:=fun h=>zN h
 clear o1 o2;generalize (p ||| 8) ||| 16=p2 at *;generalize p ||| 8=p1,wsv xs=XX at *
 by_cases h3:ac=3
 ·rw [t3 h3] at gN
  subst h3;refine fnW Tryz.func208 ?_;(repeat' ((conv=>whnf);first|exact zi0|(refine zj0 ?_;intro hb)|(with_reducible first|refine zv k1 ?_|refine zv k2 ?_)|(refine Qae (f:=115) qJ [⟨_,0⟩] [(_,⟨false,1,XX⟩)] rfl ⟨rfl,trivial⟩ ⟨rfl,Qar gL,trivial⟩ ⟨rfl,Qbq⟩ ?_)|(refine Qae (f:=235) gN [⟨_,0⟩] [(_,⟨false,1,XX⟩)] rfl ⟨rfl,trivial⟩ ⟨rfl,Qar gL,trivial⟩ ⟨rfl,Qbq⟩ ?_)|refine zs0 ?_|refine zbb ?_ ?_))
  all_goals exact QbA
 ·rw [t0 h3] at gN
  refine fnW Tryz.func208 ?_;(repeat' ((conv=>whnf);first|exact zi0|(refine zj0 ?_;intro hb)|(with_reducible refine zv k1 ?_)|(refine Qae (f:=115) qJ [⟨_,0⟩] [(_,⟨false,1,XX⟩)] rfl ⟨rfl,trivial⟩ ⟨rfl,Qar gL,trivial⟩ ⟨rfl,Qbq⟩ ?_)|(refine Qae (f:=235) gN [⟨_,0⟩] [(_,⟨false,1,XX⟩)] rfl ⟨rfl,trivial⟩ ⟨rfl,Qar gL,trivial⟩ ⟨rfl,Qbq⟩ ?_)|refine zs0 ?_|refine zbb ?_ ?_))
  all_goals exact QbA
end Go.Proofs.YtflelebfmdggkaaGreat
