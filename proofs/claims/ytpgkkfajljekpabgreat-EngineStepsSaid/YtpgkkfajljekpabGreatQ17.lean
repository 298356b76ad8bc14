import Derived.Test.YtpgkkfajljekpabGreatQ11
set_option linter.unusedSimpArgs false
set_option linter.unusedVariables false
set_option maxHeartbeats 0
set_option maxRecDepth 100000
namespace Go.Proofs.YtpgkkfajljekpabGreat
open Go Go.RowKit
theorem QjV (ac:Int):FN 167 [.s (.i ac)] [] (. =⟨.a (.s (.i (Qcv ac))),[],[]⟩):=by
 refine fnW Tryz.func167 ?_;(conv=>whnf);(repeat' ((first|exact zi0|refine zj0 fun hb=>?_|refine zs0 ?_|refine zbb ?_ ?_)<;>conv=>whnf))
 all_goals first
  | (subst hb;exact Qam rfl rfl)
  | (
    have e1:Qcv ac=5:=by unfold Qcv;rw [zN (by omega),zN (by omega)]
    rw [e1]
    exact Qam rfl rfl)
theorem Qj0 (ac:Int):FN 165 [.s (.i ac)] [] (. =⟨.a (.s (.bool (QdP ac))),[],[]⟩):=by
 unfold QdP;refine fnW Tryz.func165 ?_;(conv=>whnf);(repeat' ((first|exact zi0|refine zj0 fun hb=>?_|refine zs0 ?_|refine zbb ?_ ?_)<;>conv=>whnf))
 all_goals first
  | (refine Qam rfl ?_;simp only [Qbc];congr 3;first|exact (zdf (by omega)).symm|exact (zdt (by omega)).symm|(rw [zbi];simp only [zde,beq_iff_eq];omega))
theorem QwG (v:Nat) (hv:ZU v):bits .and .u32 (v:Int) 255=((v%256:Nat):Int):=by
 exact QDZ
theorem QGC (p:Nat):((p:Int) / 2^min (Int.toNat 8) IntKind.u32.bits)=((p / 256:Nat):Int):=by
 rw [show (2:Int)^min (Int.toNat 8) IntKind.u32.bits=256 from rfl];omega
theorem QxM (p:Nat) (hp:ZU p):bits .and .u32 ((p / 256:Nat):Int) 255=((frW p:Nat):Int):=by
 rw [QwG _ (by omega)];rfl
theorem Qc6 (xs:List Nat) (n a:Nat) (hn:ZU n) (ha:ZU a):FN 144 [.s (.sl 0 0 n),.s (.u a),.s (.i 4)] [⟨false,1,wsv xs⟩] (. =⟨.a (.s (.bool (ld4 n a))),[],[]⟩):=by
 have hm:=QaT n;have hp:=Qck xs n hn;have gL:=Qaa xs;unfold ld4;generalize mpg n=P,wsv xs=XX at *;refine fnW Tryz.func144 ?_;(conv=>whnf);(repeat' ((first|exact zi0|refine zj0 fun hb=>?_|(refine QaA hp ?_)|refine zst ?_|refine zbb ?_ ?_)<;>conv=>whnf))
 all_goals
  refine QbT rfl gL rfl ?_;simp only [Qbc];congr 3;refine Eq.symm ?_
  first
   | (rw [zdf (by omega)];rfl)
   | (rw [zdt (by omega),Bool.true_and,zbi,zde,zde];omega)
theorem Qt4 (xs:List Nat) (n E:Nat) (ac:Int) (hl:xs.length=n) (hn:ZU n) (hY:ZL xs) (hE:ZU E) (qU:ld4 n E=true) :
  FN 169 [.s (.sl 0 0 n),.s (.u E),.s (.i ac)] [⟨true,1,wsv xs⟩] (. =⟨.tup [],[(0,some ⟨true,1,wsv (xs.set (E / 4) (QbK (xs.getD (E / 4) 0) ac))⟩)],[]⟩):=by
 have cw:=Qc6 xs n E hn hE;rw [qU] at cw;have yZ:=Qeo qU;have hp:=Qab hY (E / 4);have hg:=QaZ xs (E / 4) (by omega);have uP:(wsv xs).length=n:=by simp [hl]
 have o1:=Qlm (xs.getD (E / 4) 0) 8 hp (by omega);have o2:=Qlm (xs.getD (E / 4) 0 ||| 8) 16 o1.2 (by omega);have k1:bits .or .u32 ((xs.getD (E / 4) 0:Nat):Int) 8=((xs.getD (E / 4) 0 ||| 8:Nat):Int):=o1.1;have k2:bits .or .u32 ((xs.getD (E / 4) 0 ||| 8:Nat):Int) 16=(((xs.getD (E / 4) 0 ||| 8) ||| 16:Nat):Int):=o2.1;have fD:=QbA xs (E / 4) (xs.getD (E / 4) 0 ||| 8) (by omega);have gO:=QbA (xs.set (E / 4) (xs.getD (E / 4) 0 ||| 8)) (E / 4) ((xs.getD (E / 4) 0 ||| 8) ||| 16) (by rw [List.length_set];omega);rw [List.set_set] at gO
 have hg1:(wsv (xs.set (E / 4) (xs.getD (E / 4) 0 ||| 8)))[E / 4]?=some (.u ((xs.getD (E / 4) 0 ||| 8:Nat):Int)):=by
  rw [QaZ _ _ (by rw [List.length_set];omega)];rw [zgd,List.getElem?_set_self (by omega)];rfl
 have t3:ac=3->QbK (xs.getD (E / 4) 0) ac=(xs.getD (E / 4) 0 ||| 8) ||| 16:=fun h=>zP h
 have t0:ac≠3->QbK (xs.getD (E / 4) 0) ac=xs.getD (E / 4) 0 ||| 8:=fun h=>zN h
 have GV:(wsv (xs.set (E / 4) (xs.getD (E / 4) 0 ||| 8))).length=n:=by simp [hl]
 have sc0:=Qaa xs;have sc1:=Qaa (xs.set (E / 4) (xs.getD (E / 4) 0 ||| 8));have sc2:=Qaa (xs.set (E / 4) ((xs.getD (E / 4) 0 ||| 8) ||| 16));have x1:=ldi E;clear o1 o2;generalize (xs.getD (E / 4) 0 ||| 8) ||| 16=p2 at *;generalize xs.getD (E / 4) 0 ||| 8=p1,QbK (xs.getD (E / 4) 0) ac=p3 at *;generalize xs.getD (E / 4) 0=p at *
 by_cases h3:ac=3
 .rw [t3 h3]
  subst h3;generalize wsv (xs.set (E / 4) p2)=X2,wsv (xs.set (E / 4) p1)=X1,wsv xs=X0 at *;refine fnW Tryz.func169 ?_;(repeat' ((conv=>whnf);first|exact zi0|refine zj0 fun hb=>?_|(with_reducible first|refine zv k1 ?_|refine zv k2 ?_)|refine zq6 ?_|refine QH8 ?_|((with_reducible apply Ge.mk (α:=SV)); . first|exact hg|exact hg1)|((with_reducible apply Vl.mk (α:=List SV)); . with_reducible first|exact fD|exact gO)|(refine QaA cw ?_)|refine zst ?_|refine zbb ?_ ?_))
  all_goals exact Qb9
 .rw [t0 h3]
  generalize wsv (xs.set (E / 4) p1)=X1,wsv xs=X0 at *;refine fnW Tryz.func169 ?_;(repeat' ((conv=>whnf);first|exact zi0|refine zj0 fun hb=>?_|(with_reducible refine zv k1 ?_)|refine zq6 ?_|refine QH8 ?_|refine QAP ?_|((with_reducible apply Vl.mk (α:=List SV)); . with_reducible exact fD)|(refine QaA cw ?_)|refine zst ?_|refine zbb ?_ ?_))
  all_goals exact Qb9
theorem QrO (xs:List Nat) (n r va:Nat) (ac:Int) (hl:xs.length=n) (hn:ZU n) (hY:ZL xs) (hr:ZU r) (gX:ZU va) :
  FN 168 [.s (.sl 0 0 n),.s (.u r),.s (.u va),.s (.i ac)] [⟨false,1,wsv xs⟩] (. =⟨.a (.agg (QfK xs n r va ac)),[],[]⟩):=by
 have gL:=Qaa xs;have hm:=QaT n;have hmn:mpg n*32<=n:=Qeu;have cc:=QjV ac;have ck:=Qj0 ac;have cp:=Qck xs n hn;have e9:IntKind.u32.wrap ((mpg n:Nat):Int)=((mpg n:Nat):Int):=Qe7 (by omega) (by omega)
 cases h0:QdP ac with
 | false =>
  rw [QdI (by rw [h0];simp)];rw [h0] at ck;generalize mpg n=MP,Qcv ac=C,wsv xs=XX at *;refine fnW Tryz.func168 ?_;(conv=>whnf);(repeat' ((first|exact zi0|refine zj0 fun hb=>?_|(with_reducible refine zv e9 ?_)|(refine zpu cc ?_)|(refine zpu ck ?_)|(refine QaA cp ?_)|refine zst ?_|refine zbb ?_ ?_)<;>conv=>whnf))
  all_goals first|exact QbT rfl gL rfl rfl
 | true =>
  rw [h0] at ck
  by_cases vS:va<4096/\r<mpg n
  .obtain ⟨h1,h2⟩:=vS
   have he:Qa9 r va<4294967296/\Qa9 r va / 4=r*32+va / 128/\ld4 n (Qa9 r va)=true:=by
    unfold Qa9;refine ⟨by omega,by omega,?_⟩;unfold ld4;rw [zdt (by omega),zdt (by omega)];rfl
   have HG:(wsv xs)[Qa9 r va / 4]?=some (.u (QaR xs r va:Nat)):=by
    rw [he.2.1];exact QaZ xs _ (by omega)
   have hp:=Qab hY (r*32+va / 128);change QaR xs r va<4294967296 at hp;have e1:IntKind.u32.wrap ((va:Int).tdiv 128)=((va / 128:Nat):Int):=Qok;have e2:IntKind.u32.wrap (4*((va / 128:Nat):Int))=((4*(va / 128):Nat):Int):=Qfu;have e0:IntKind.u32.wrap ((r:Int)*128)=((r*128:Nat):Int):=Qfu;have e3:IntKind.u32.wrap (((r*128:Nat):Int)+((4*(va / 128):Nat):Int))=((Qa9 r va:Nat):Int):=Qvd;have yD:Qa9 r va / 4<n:=by rw [he.2.1];omega
   have x1:=ldi (Qa9 r va);have b1:bits .and .u32 ((QaR xs r va:Nat):Int) 1=((QaR xs r va &&& 1:Nat):Int):=QcF _ 1 hp (by omega);have b2:bits .and .u32 ((QaR xs r va:Nat):Int) 2=((QaR xs r va &&& 2:Nat):Int):=QcF _ 2 hp (by omega);have b4:bits .and .u32 ((QaR xs r va:Nat):Int) 4=((QaR xs r va &&& 4:Nat):Int):=QcF _ 4 hp (by omega);have s1:=QGC (QaR xs r va);have s2:=QxM (QaR xs r va) hp;have uC:=QhE (QaR xs r va);have WF:=he.1
   by_cases h34:pmW (QaR xs r va) ac=true/\frW (QaR xs r va)<mpg n
   .obtain ⟨h3,h4⟩:=h34
    rw [QlT h0 h1 h2 h3 h4];unfold pmW at h3;rw [zde] at h3;generalize Qa9 r va=E,frW (QaR xs r va)=F at *;have e4:IntKind.u32.wrap ((F:Int)*128)=((F*128:Nat):Int):=Qfu;have e5:(va:Int).tmod 128=((va%128:Nat):Int):=by rw [Qgk (by omega)];omega
    have e6:IntKind.u32.wrap (((F*128:Nat):Int)+((va%128:Nat):Int))=((F*128+va%128:Nat):Int):=Qfu;generalize QaR xs r va &&& 1=a1,QaR xs r va &&& 2=a2,QaR xs r va &&& 4=a4,QaR xs r va / 256=p8 at *;generalize QaR xs r va=pte,Qcv ac=C,wsv xs=XX,mpg n=MP at *;refine fnW Tryz.func168 ?_;(repeat' ((conv=>whnf);first|exact zi0|refine zj0 fun hb=>?_|(with_reducible first|refine zv e9 ?_|refine zv e0 ?_|refine zv e1 ?_|refine zv e2 ?_|refine zv e3 ?_|refine zv e4 ?_|refine zv e5 ?_|refine zv e6 ?_|refine zv b1 ?_|refine zv b2 ?_|refine zv b4 ?_|refine zv s1 ?_|refine zv s2 ?_)|refine zq6 ?_|refine Qu8 ?_|(refine zpu cc ?_)|(refine zpu ck ?_)|(refine QaA cp ?_)|refine zst ?_|refine zbb ?_ ?_))
    all_goals exact Qhr
   .rw [QdI (fun h=>h34 ⟨h.2.2.2.1,h.2.2.2.2⟩)]
    have HL:¬ ((QaR xs r va &&& 1≠0/\(ac=3->QaR xs r va &&& 2≠0)/\(ac=1->QaR xs r va &&& 4≠0))/\frW (QaR xs r va)<mpg n):=fun h=>h34 ⟨zdt h.1,h.2⟩
    clear h34;generalize Qa9 r va=E,frW (QaR xs r va)=F,QaR xs r va &&& 1=a1,QaR xs r va &&& 2=a2,QaR xs r va &&& 4=a4,QaR xs r va / 256=p8 at *;generalize QaR xs r va=pte,Qcv ac=C,wsv xs=XX,mpg n=MP at *
    by_cases q1:a1=0
    .subst q1
     clear HL;refine fnW Tryz.func168 ?_;(repeat' ((conv=>whnf);first|exact zi0|refine zj0 fun hb=>?_|(with_reducible first|refine zv e9 ?_|refine zv e0 ?_|refine zv e1 ?_|refine zv e2 ?_|refine zv e3 ?_|refine zv b1 ?_|refine zv s1 ?_|refine zv s2 ?_)|refine zq6 ?_|refine Qu8 ?_|(refine zpu cc ?_)|(refine zpu ck ?_)|(refine QaA cp ?_)|refine zst ?_|refine zbb ?_ ?_))
     all_goals exact Qhr
    by_cases q2:ac=3/\a2=0
    .obtain ⟨rfl,rfl⟩:=q2
     clear HL;refine fnW Tryz.func168 ?_;(repeat' ((conv=>whnf);first|exact zi0|refine zj0 fun hb=>?_|(with_reducible first|refine zv e9 ?_|refine zv e0 ?_|refine zv e1 ?_|refine zv e2 ?_|refine zv e3 ?_|refine zv b1 ?_|refine zv b2 ?_|refine zv s1 ?_|refine zv s2 ?_)|refine zq6 ?_|refine Qu8 ?_|(refine zpu cc ?_)|(refine zpu ck ?_)|(refine QaA cp ?_)|refine zst ?_|refine zbb ?_ ?_))
     all_goals exact Qhr
    by_cases q3:ac=1/\a4=0
    .obtain ⟨rfl,rfl⟩:=q3
     clear HL;refine fnW Tryz.func168 ?_;(repeat' ((conv=>whnf);first|exact zi0|refine zj0 fun hb=>?_|(with_reducible first|refine zv e9 ?_|refine zv e0 ?_|refine zv e1 ?_|refine zv e2 ?_|refine zv e3 ?_|refine zv b1 ?_|refine zv b4 ?_|refine zv s1 ?_|refine zv s2 ?_)|refine zq6 ?_|refine Qu8 ?_|(refine zpu cc ?_)|(refine zpu ck ?_)|(refine QaA cp ?_)|refine zst ?_|refine zbb ?_ ?_))
     all_goals exact Qhr
    have q4:MP<=F:=by
     rcases Nat.lt_or_ge F MP with h|h
     .exact absurd ⟨⟨q1,fun e z=>q2 ⟨e,z⟩,fun e z=>q3 ⟨e,z⟩⟩,h⟩ HL
     .exact h
    clear HL;refine fnW Tryz.func168 ?_;(repeat' ((conv=>whnf);first|exact zi0|refine zj0 fun hb=>?_|(with_reducible first|refine zv e9 ?_|refine zv e0 ?_|refine zv e1 ?_|refine zv e2 ?_|refine zv e3 ?_|refine zv b1 ?_|refine zv b2 ?_|refine zv b4 ?_|refine zv s1 ?_|refine zv s2 ?_)|refine zq6 ?_|refine Qu8 ?_|(refine zpu cc ?_)|(refine zpu ck ?_)|(refine QaA cp ?_)|refine zst ?_|refine zbb ?_ ?_))
    all_goals exact Qhr
  .rw [QdI (fun h=>vS ⟨h.2.1,h.2.2.1⟩)]
   generalize mpg n=MP,Qcv ac=C,wsv xs=XX at *;refine fnW Tryz.func168 ?_;(repeat' ((conv=>whnf);first|exact zi0|refine zj0 fun hb=>?_|(with_reducible refine zv e9 ?_)|(refine zpu cc ?_)|(refine zpu ck ?_)|(refine QaA cp ?_)|refine zst ?_|refine zbb ?_ ?_))
   all_goals exact Qhr
end Go.Proofs.YtpgkkfajljekpabGreat
