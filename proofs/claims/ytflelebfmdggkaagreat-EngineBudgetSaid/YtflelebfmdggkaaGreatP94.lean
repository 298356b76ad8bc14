import Derived.Test.YtflelebfmdggkaaGreatP62
set_option linter.unusedSimpArgs false
set_option linter.unusedVariables false
set_option maxHeartbeats 100000000
set_option maxRecDepth 100000
namespace Go.Proofs.YtflelebfmdggkaaGreat
open Go Go.RowKit
theorem QjR (ac:Int):FN 158 [.s (.i ac)] [] (· =⟨.a (.s (.i (Qcw ac))),[],[]⟩):=by
 refine fnW Tryz.func158 ?_;(repeat' ((conv=>whnf);first|exact zi0|(refine zj0 ?_;intro hb)|refine zs0 ?_|refine zbb ?_ ?_));all_goals (conv=>whnf)
 all_goals first
  | (subst hb;exact Qam rfl rfl)
  | (
    have e1:Qcw ac=5:=by unfold Qcw;rw [zN (by omega),zN (by omega)]
    rw [e1]
    exact Qam rfl rfl)
theorem Qjw (ac:Int):FN 156 [.s (.i ac)] [] (· =⟨.a (.s (.bool (QdQ ac))),[],[]⟩):=by
 unfold QdQ;refine fnW Tryz.func156 ?_;(repeat' ((conv=>whnf);first|exact zi0|(refine zj0 ?_;intro hb)|refine zs0 ?_|refine zbb ?_ ?_));all_goals (conv=>whnf)
 all_goals first
  | (refine Qam rfl ?_;simp only [Qbc];congr 3;first|exact (decide_eq_false (by omega)).symm|exact (decide_eq_true (by omega)).symm|(rw [Bool.eq_iff_iff];simp only [decide_eq_true_eq,beq_iff_eq];omega))
theorem Qyi (v:Nat) (hv:v<4294967296):bits .and .u32 (v:Int) 255=((v%256:Nat):Int):=by
 exact QB8
theorem QGS (p:Nat):((p:Int) / 2^min (Int.toNat 8) IntKind.u32.bits)=((p / 256:Nat):Int):=by
 rw [show (2:Int)^min (Int.toNat 8) IntKind.u32.bits=256 from rfl];omega
theorem QyV (p:Nat) (hp:p<4294967296):bits .and .u32 ((p / 256:Nat):Int) 255=((frW p:Nat):Int):=by
 rw [Qyi _ (by omega)];rfl
theorem QcZ (xs:List Nat) (n a:Nat) (hn:n<4294967296) (ha:a<4294967296):FN 131 [.s (.sl 0 0 n),.s (.u a),.s (.i 4)] [⟨false,1,wsv xs⟩] (· =⟨.a (.s (.bool (ld4 n a))),[],[]⟩):=by
 have hm:=QaU n;have hp:=Qck xs n hn;have gL:=Qaa xs;unfold ld4;generalize mpg n=P,wsv xs=XX at *;refine fnW Tryz.func131 ?_;(repeat' ((conv=>whnf);first|exact zi0|(refine zj0 ?_;intro hb)|(refine QaD hp ?_)|refine zst ?_|refine zbb ?_ ?_));all_goals (conv=>whnf)
 all_goals
  refine QbV rfl gL rfl ?_;simp only [Qbc];congr 3;refine Eq.symm ?_
  first
   | (rw [decide_eq_false (by omega)];rfl)
   | (rw [decide_eq_true (by omega),Bool.true_and,Bool.eq_iff_iff,decide_eq_true_eq,decide_eq_true_eq];omega)
theorem Qt9 (xs:List Nat) (n E:Nat) (ac:Int) (hl:xs.length=n) (hn:n<4294967296) (hY:∀ y∈xs,y<4294967296) (hE:E<4294967296) (qY:ld4 n E=true) :
  FN 160 [.s (.sl 0 0 n),.s (.u E),.s (.i ac)] [⟨true,1,wsv xs⟩] (· =⟨.tup [],[(0,some ⟨true,1,wsv (xs.set (E / 4) (QbK (xs.getD (E / 4) 0) ac))⟩)],[]⟩):=by
 have cw:=QcZ xs n E hn hE;rw [qY] at cw;have yU:=Qd5 qY;have hp:=Qab hY (E / 4);have hg:=Qa0 xs (E / 4) (by omega);have uP:(wsv xs).length=n:=by simp [hl]
 have o1:=QkU (xs.getD (E / 4) 0) 8 hp (by omega);have o2:=QkU (xs.getD (E / 4) 0 ||| 8) 16 o1.2 (by omega);have k1:bits .or .u32 ((xs.getD (E / 4) 0:Nat):Int) 8=((xs.getD (E / 4) 0 ||| 8:Nat):Int):=o1.1;have k2:bits .or .u32 ((xs.getD (E / 4) 0 ||| 8:Nat):Int) 16=(((xs.getD (E / 4) 0 ||| 8) ||| 16:Nat):Int):=o2.1;have fJ:=QbB xs (E / 4) (xs.getD (E / 4) 0 ||| 8) (by omega);have gY:=QbB (xs.set (E / 4) (xs.getD (E / 4) 0 ||| 8)) (E / 4) ((xs.getD (E / 4) 0 ||| 8) ||| 16) (by rw [List.length_set];omega);rw [List.set_set] at gY
 have hg1:(wsv (xs.set (E / 4) (xs.getD (E / 4) 0 ||| 8)))[E / 4]?=some (.u ((xs.getD (E / 4) 0 ||| 8:Nat):Int)):=by
  rw [Qa0 _ _ (by rw [List.length_set];omega)];rw [List.getD_eq_getElem?_getD,List.getElem?_set_self (by omega)];rfl
 have t3:ac=3→QbK (xs.getD (E / 4) 0) ac=(xs.getD (E / 4) 0 ||| 8) ||| 16:=fun h=>zP h
 have t0:ac≠3→QbK (xs.getD (E / 4) 0) ac=xs.getD (E / 4) 0 ||| 8:=fun h=>zN h
 have GL:(wsv (xs.set (E / 4) (xs.getD (E / 4) 0 ||| 8))).length=n:=by simp [hl]
 have sc0:=Qaa xs;have sc1:=Qaa (xs.set (E / 4) (xs.getD (E / 4) 0 ||| 8));have sc2:=Qaa (xs.set (E / 4) ((xs.getD (E / 4) 0 ||| 8) ||| 16));have x1:=ldi E;clear o1 o2;generalize (xs.getD (E / 4) 0 ||| 8) ||| 16=p2 at *;generalize xs.getD (E / 4) 0 ||| 8=p1,QbK (xs.getD (E / 4) 0) ac=p3 at *;generalize xs.getD (E / 4) 0=p at *
 by_cases h3:ac=3
 ·rw [t3 h3]
  subst h3;generalize wsv (xs.set (E / 4) p2)=X2,wsv (xs.set (E / 4) p1)=X1,wsv xs=X0 at *;refine fnW Tryz.func160 ?_;(repeat' ((conv=>whnf);first|exact zi0|(refine zj0 ?_;intro hb)|(with_reducible first|refine zv k1 ?_|refine zv k2 ?_)|refine zq6 ?_|refine QIi ?_|((with_reducible apply Ge.mk (α:=SV)); · first|exact hg|exact hg1)|((with_reducible apply Vl.mk (α:=List SV)); · with_reducible first|exact fJ|exact gY)|(refine QaD cw ?_)|refine zst ?_|refine zbb ?_ ?_))
  all_goals exact Qb8
 ·rw [t0 h3]
  generalize wsv (xs.set (E / 4) p1)=X1,wsv xs=X0 at *;refine fnW Tryz.func160 ?_;(repeat' ((conv=>whnf);first|exact zi0|(refine zj0 ?_;intro hb)|(with_reducible refine zv k1 ?_)|refine zq6 ?_|refine QIi ?_|refine Qz8 ?_|((with_reducible apply Vl.mk (α:=List SV)); · with_reducible exact fJ)|(refine QaD cw ?_)|refine zst ?_|refine zbb ?_ ?_))
  all_goals exact Qb8
theorem Qp9 (xs:List Nat) (n r va:Nat) (ac:Int) (hl:xs.length=n) (hn:n<4294967296) (hY:∀ y∈xs,y<4294967296) (hr:r<4294967296) (gX:va<4294967296) :
  FN 159 [.s (.sl 0 0 n),.s (.u r),.s (.u va),.s (.i ac)] [⟨false,1,wsv xs⟩] (· =⟨.a (.agg (Qfw xs n r va ac)),[],[]⟩):=by
 have gL:=Qaa xs;have hm:=QaU n;have hmn:mpg n*32≤n:=QcQ;have cc:=QjR ac;have ck:=Qjw ac;have cp:=Qck xs n hn;have e9:IntKind.u32.wrap ((mpg n:Nat):Int)=((mpg n:Nat):Int):=QeS (by omega) (by omega)
 cases h0:QdQ ac with
 | false =>
  rw [Qds (by rw [h0];simp)];rw [h0] at ck;generalize mpg n=MP,Qcw ac=C,wsv xs=XX at *;refine fnW Tryz.func159 ?_;(repeat' ((conv=>whnf);first|exact zi0|(refine zj0 ?_;intro hb)|(with_reducible refine zv e9 ?_)|(refine zpu cc ?_)|(refine zpu ck ?_)|(refine QaD cp ?_)|refine zst ?_|refine zbb ?_ ?_));all_goals (conv=>whnf)
  all_goals first|exact QbV rfl gL rfl rfl
 | true =>
  rw [h0] at ck
  by_cases vX:va<4096∧r<mpg n
  ·obtain ⟨h1,h2⟩:=vX
   have he:Qba r va<4294967296∧Qba r va / 4=r*32+va / 128∧ld4 n (Qba r va)=true:=by
    unfold Qba;refine ⟨by omega,by omega,?_⟩;unfold ld4;rw [decide_eq_true (by omega),decide_eq_true (by omega)];rfl
   have uU:(wsv xs)[Qba r va / 4]?=some (.u (QaT xs r va:Nat)):=by
    rw [he.2.1];exact Qa0 xs _ (by omega)
   have hp:=Qab hY (r*32+va / 128);change QaT xs r va<4294967296 at hp;have e1:IntKind.u32.wrap ((va:Int).tdiv 128)=((va / 128:Nat):Int):=Qjf;have e2:IntKind.u32.wrap (4*((va / 128:Nat):Int))=((4*(va / 128):Nat):Int):=QGR;have e0:IntKind.u32.wrap ((r:Int)*128)=((r*128:Nat):Int):=QGR;have e3:IntKind.u32.wrap (((r*128:Nat):Int)+((4*(va / 128):Nat):Int))=((Qba r va:Nat):Int):=Qlv;have yC:Qba r va / 4<n:=by rw [he.2.1];omega
   have x1:=ldi (Qba r va);have b1:bits .and .u32 ((QaT xs r va:Nat):Int) 1=((QaT xs r va &&& 1:Nat):Int):=QcI _ 1 hp (by omega);have b2:bits .and .u32 ((QaT xs r va:Nat):Int) 2=((QaT xs r va &&& 2:Nat):Int):=QcI _ 2 hp (by omega);have b4:bits .and .u32 ((QaT xs r va:Nat):Int) 4=((QaT xs r va &&& 4:Nat):Int):=QcI _ 4 hp (by omega);have s1:=QGS (QaT xs r va);have s2:=QyV (QaT xs r va) hp;have zX:=Qha (QaT xs r va);have WR:=he.1
   by_cases h34:pmW (QaT xs r va) ac=true∧frW (QaT xs r va)<mpg n
   ·obtain ⟨h3,h4⟩:=h34
    rw [Qlg h0 h1 h2 h3 h4];unfold pmW at h3;rw [decide_eq_true_eq] at h3;generalize Qba r va=E,frW (QaT xs r va)=F at *;have e4:IntKind.u32.wrap ((F:Int)*128)=((F*128:Nat):Int):=QGR;have e5:(va:Int).tmod 128=((va%128:Nat):Int):=by rw [QfI (by omega)];omega
    have e6:IntKind.u32.wrap (((F*128:Nat):Int)+((va%128:Nat):Int))=((F*128+va%128:Nat):Int):=QGR;generalize QaT xs r va &&& 1=a1,QaT xs r va &&& 2=a2,QaT xs r va &&& 4=a4,QaT xs r va / 256=p8 at *;generalize QaT xs r va=pte,Qcw ac=C,wsv xs=XX,mpg n=MP at *;refine fnW Tryz.func159 ?_;(repeat' ((conv=>whnf);first|exact zi0|(refine zj0 ?_;intro hb)|(with_reducible first|refine zv e9 ?_|refine zv e0 ?_|refine zv e1 ?_|refine zv e2 ?_|refine zv e3 ?_|refine zv e4 ?_|refine zv e5 ?_|refine zv e6 ?_|refine zv b1 ?_|refine zv b2 ?_|refine zv b4 ?_|refine zv s1 ?_|refine zv s2 ?_)|refine zq6 ?_|refine Qtj ?_|(refine zpu cc ?_)|(refine zpu ck ?_)|(refine QaD cp ?_)|refine zst ?_|refine zbb ?_ ?_))
    all_goals exact Qd8
   ·rw [Qds (fun h=>h34 ⟨h.2.2.2.1,h.2.2.2.2⟩)]
    have HP:¬ ((QaT xs r va &&& 1≠0∧(ac=3→QaT xs r va &&& 2≠0)∧(ac=1→QaT xs r va &&& 4≠0))∧frW (QaT xs r va)<mpg n):=fun h=>h34 ⟨decide_eq_true h.1,h.2⟩
    clear h34;generalize Qba r va=E,frW (QaT xs r va)=F,QaT xs r va &&& 1=a1,QaT xs r va &&& 2=a2,QaT xs r va &&& 4=a4,QaT xs r va / 256=p8 at *;generalize QaT xs r va=pte,Qcw ac=C,wsv xs=XX,mpg n=MP at *
    by_cases q1:a1=0
    ·subst q1
     clear HP;refine fnW Tryz.func159 ?_;(repeat' ((conv=>whnf);first|exact zi0|(refine zj0 ?_;intro hb)|(with_reducible first|refine zv e9 ?_|refine zv e0 ?_|refine zv e1 ?_|refine zv e2 ?_|refine zv e3 ?_|refine zv b1 ?_|refine zv s1 ?_|refine zv s2 ?_)|refine zq6 ?_|refine Qtj ?_|(refine zpu cc ?_)|(refine zpu ck ?_)|(refine QaD cp ?_)|refine zst ?_|refine zbb ?_ ?_))
     all_goals exact Qd8
    by_cases q2:ac=3∧a2=0
    ·obtain ⟨rfl,rfl⟩:=q2
     clear HP;refine fnW Tryz.func159 ?_;(repeat' ((conv=>whnf);first|exact zi0|(refine zj0 ?_;intro hb)|(with_reducible first|refine zv e9 ?_|refine zv e0 ?_|refine zv e1 ?_|refine zv e2 ?_|refine zv e3 ?_|refine zv b1 ?_|refine zv b2 ?_|refine zv s1 ?_|refine zv s2 ?_)|refine zq6 ?_|refine Qtj ?_|(refine zpu cc ?_)|(refine zpu ck ?_)|(refine QaD cp ?_)|refine zst ?_|refine zbb ?_ ?_))
     all_goals exact Qd8
    by_cases q3:ac=1∧a4=0
    ·obtain ⟨rfl,rfl⟩:=q3
     clear HP;refine fnW Tryz.func159 ?_;(repeat' ((conv=>whnf);first|exact zi0|(refine zj0 ?_;intro hb)|(with_reducible first|refine zv e9 ?_|refine zv e0 ?_|refine zv e1 ?_|refine zv e2 ?_|refine zv e3 ?_|refine zv b1 ?_|refine zv b4 ?_|refine zv s1 ?_|refine zv s2 ?_)|refine zq6 ?_|refine Qtj ?_|(refine zpu cc ?_)|(refine zpu ck ?_)|(refine QaD cp ?_)|refine zst ?_|refine zbb ?_ ?_))
     all_goals exact Qd8
    have q4:MP≤F:=by
     rcases Nat.lt_or_ge F MP with h|h
     ·exact absurd ⟨⟨q1,fun e z=>q2 ⟨e,z⟩,fun e z=>q3 ⟨e,z⟩⟩,h⟩ HP
     ·exact h
    clear HP;refine fnW Tryz.func159 ?_;(repeat' ((conv=>whnf);first|exact zi0|(refine zj0 ?_;intro hb)|(with_reducible first|refine zv e9 ?_|refine zv e0 ?_|refine zv e1 ?_|refine zv e2 ?_|refine zv e3 ?_|refine zv b1 ?_|refine zv b2 ?_|refine zv b4 ?_|refine zv s1 ?_|refine zv s2 ?_)|refine zq6 ?_|refine Qtj ?_|(refine zpu cc ?_)|(refine zpu ck ?_)|(refine QaD cp ?_)|refine zst ?_|refine zbb ?_ ?_))
    all_goals exact Qd8
  ·rw [Qds (fun h=>vX ⟨h.2.1,h.2.2.1⟩)]
   generalize mpg n=MP,Qcw ac=C,wsv xs=XX at *;refine fnW Tryz.func159 ?_;(repeat' ((conv=>whnf);first|exact zi0|(refine zj0 ?_;intro hb)|(with_reducible refine zv e9 ?_)|(refine zpu cc ?_)|(refine zpu ck ?_)|(refine QaD cp ?_)|refine zst ?_|refine zbb ?_ ?_))
   all_goals exact Qd8
end Go.Proofs.YtflelebfmdggkaaGreat
