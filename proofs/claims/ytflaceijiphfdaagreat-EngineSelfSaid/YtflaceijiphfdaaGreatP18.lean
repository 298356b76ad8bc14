import Derived.Test.YtflaceijiphfdaaGreatP15
set_option linter.unusedSimpArgs false
set_option linter.unusedVariables false
set_option maxHeartbeats 0
set_option maxRecDepth 100000
namespace Go.Proofs.YtflaceijiphfdaaGreat
open Go Go.RowKit
theorem Qjw (ac:Int):FN 155 [.s (.i ac)] [] (. =⟨.a (.s (.i (Qcs ac))),[],[]⟩):=by
 refine fnW Tryz.func155 ?_;(conv=>whnf);(repeat' ((first|exact zi0|refine zj0 fun hb=>?_|refine zs0 ?_|refine zbb ?_ ?_)<;>conv=>whnf))
 all_goals first
  | (subst hb;exact Qam rfl rfl)
  | (
    have e1:Qcs ac=5:=by unfold Qcs;rw [zN (by omega),zN (by omega)]
    rw [e1]
    exact Qam rfl rfl)
theorem QjB (ac:Int):FN 153 [.s (.i ac)] [] (. =⟨.a (.s (.bool (QdC ac))),[],[]⟩):=by
 unfold QdC;refine fnW Tryz.func153 ?_;(conv=>whnf);(repeat' ((first|exact zi0|refine zj0 fun hb=>?_|refine zs0 ?_|refine zbb ?_ ?_)<;>conv=>whnf))
 all_goals first
  | (refine Qam rfl ?_;simp only [Qba];congr 3;first|exact (zdf (by omega)).symm|exact (zdt (by omega)).symm|(rw [zbi];simp only [zde,beq_iff_eq];omega))
theorem Qv4 (v:Nat) (hv:ZU v):bits .and .u32 (v:Int) 255=((v%256:Nat):Int):=by
 exact QDt
theorem QF0 (p:Nat):((p:Int) / 2^min (Int.toNat 8) IntKind.u32.bits)=((p / 256:Nat):Int):=by
 rw [show (2:Int)^min (Int.toNat 8) IntKind.u32.bits=256 from rfl];omega
theorem Qxd (p:Nat) (hp:ZU p):bits .and .u32 ((p / 256:Nat):Int) 255=((frW p:Nat):Int):=by
 rw [Qv4 _ (by omega)];rfl
theorem QcY (xs:List Nat) (n a:Nat) (hn:ZU n) (ha:ZU a):FN 151 [.s (.sl 0 0 n),.s (.u a),.s (.i 4)] [⟨false,1,wsv xs⟩] (. =⟨.a (.s (.bool (ld4 n a))),[],[]⟩):=by
 have hm:=QaT n;have hp:=Qcg xs n hn;have gK:=Qaa xs;unfold ld4;generalize mpg n=P,wsv xs=XX at *;refine fnW Tryz.func151 ?_;(conv=>whnf);(repeat' ((first|exact zi0|refine zj0 fun hb=>?_|(refine QaD hp ?_)|refine zst ?_|refine zbb ?_ ?_)<;>conv=>whnf))
 all_goals
  refine QbP rfl gK rfl ?_;simp only [Qba];congr 3;refine Eq.symm ?_
  first
   | (rw [zdf (by omega)];rfl)
   | (rw [zdt (by omega),Bool.true_and,zbi,zde,zde];omega)
theorem Qty (xs:List Nat) (n E:Nat) (ac:Int) (hl:xs.length=n) (hn:ZU n) (hY:ZL xs) (hE:ZU E) (qU:ld4 n E=true) :
  FN 157 [.s (.sl 0 0 n),.s (.u E),.s (.i ac)] [⟨true,1,wsv xs⟩] (. =⟨.tup [],[(0,some ⟨true,1,wsv (xs.set (E / 4) (QbG (xs.getD (E / 4) 0) ac))⟩)],[]⟩):=by
 have cw:=QcY xs n E hn hE;rw [qU] at cw;have yO:=Qeb qU;have hp:=Qab hY (E / 4);have hg:=QaX xs (E / 4) (by omega);have FS:(wsv xs).length=n:=by simp [hl]
 have o1:=QkS (xs.getD (E / 4) 0) 8 hp (by omega);have o2:=QkS (xs.getD (E / 4) 0 ||| 8) 16 o1.2 (by omega);have k1:bits .or .u32 ((xs.getD (E / 4) 0:Nat):Int) 8=((xs.getD (E / 4) 0 ||| 8:Nat):Int):=o1.1;have k2:bits .or .u32 ((xs.getD (E / 4) 0 ||| 8:Nat):Int) 16=(((xs.getD (E / 4) 0 ||| 8) ||| 16:Nat):Int):=o2.1;have fJ:=Qbv xs (E / 4) (xs.getD (E / 4) 0 ||| 8) (by omega);have gW:=Qbv (xs.set (E / 4) (xs.getD (E / 4) 0 ||| 8)) (E / 4) ((xs.getD (E / 4) 0 ||| 8) ||| 16) (by rw [List.length_set];omega);rw [List.set_set] at gW
 have hg1:(wsv (xs.set (E / 4) (xs.getD (E / 4) 0 ||| 8)))[E / 4]?=some (.u ((xs.getD (E / 4) 0 ||| 8:Nat):Int)):=by
  rw [QaX _ _ (by rw [List.length_set];omega)];rw [zgd,List.getElem?_set_self (by omega)];rfl
 have t3:ac=3->QbG (xs.getD (E / 4) 0) ac=(xs.getD (E / 4) 0 ||| 8) ||| 16:=fun h=>zP h
 have t0:ac≠3->QbG (xs.getD (E / 4) 0) ac=xs.getD (E / 4) 0 ||| 8:=fun h=>zN h
 have GD:(wsv (xs.set (E / 4) (xs.getD (E / 4) 0 ||| 8))).length=n:=by simp [hl]
 have sc0:=Qaa xs;have sc1:=Qaa (xs.set (E / 4) (xs.getD (E / 4) 0 ||| 8));have sc2:=Qaa (xs.set (E / 4) ((xs.getD (E / 4) 0 ||| 8) ||| 16));have x1:=ldi E;clear o1 o2;generalize (xs.getD (E / 4) 0 ||| 8) ||| 16=p2 at *;generalize xs.getD (E / 4) 0 ||| 8=p1,QbG (xs.getD (E / 4) 0) ac=p3 at *;generalize xs.getD (E / 4) 0=p at *
 by_cases h3:ac=3
 .rw [t3 h3]
  subst h3;generalize wsv (xs.set (E / 4) p2)=X2,wsv (xs.set (E / 4) p1)=X1,wsv xs=X0 at *;refine fnW Tryz.func157 ?_;(repeat' ((conv=>whnf);first|exact zi0|refine zj0 fun hb=>?_|(with_reducible first|refine zv k1 ?_|refine zv k2 ?_)|refine zq6 ?_|refine QHn ?_|((with_reducible apply Ge.mk (α:=SV)); . first|exact hg|exact hg1)|((with_reducible apply Vl.mk (α:=List SV)); . with_reducible first|exact fJ|exact gW)|(refine QaD cw ?_)|refine zst ?_|refine zbb ?_ ?_))
  all_goals exact Qb5
 .rw [t0 h3]
  generalize wsv (xs.set (E / 4) p1)=X1,wsv xs=X0 at *;refine fnW Tryz.func157 ?_;(repeat' ((conv=>whnf);first|exact zi0|refine zj0 fun hb=>?_|(with_reducible refine zv k1 ?_)|refine zq6 ?_|refine QHn ?_|refine QAk ?_|((with_reducible apply Vl.mk (α:=List SV)); . with_reducible exact fJ)|(refine QaD cw ?_)|refine zst ?_|refine zbb ?_ ?_))
  all_goals exact Qb5
theorem Qrk (xs:List Nat) (n r va:Nat) (ac:Int) (hl:xs.length=n) (hn:ZU n) (hY:ZL xs) (hr:ZU r) (gV:ZU va) :
  FN 156 [.s (.sl 0 0 n),.s (.u r),.s (.u va),.s (.i ac)] [⟨false,1,wsv xs⟩] (. =⟨.a (.agg (Qfx xs n r va ac)),[],[]⟩):=by
 have gK:=Qaa xs;have hm:=QaT n;have hmn:mpg n*32<=n:=Qeh;have cc:=Qjw ac;have ck:=QjB ac;have cp:=Qcg xs n hn;have e9:IntKind.u32.wrap ((mpg n:Nat):Int)=((mpg n:Nat):Int):=QeO (by omega) (by omega)
 cases h0:QdC ac with
 | false =>
  rw [Qdx (by rw [h0];simp)];rw [h0] at ck;generalize mpg n=MP,Qcs ac=C,wsv xs=XX at *;refine fnW Tryz.func156 ?_;(conv=>whnf);(repeat' ((first|exact zi0|refine zj0 fun hb=>?_|(with_reducible refine zv e9 ?_)|(refine zpu cc ?_)|(refine zpu ck ?_)|(refine QaD cp ?_)|refine zst ?_|refine zbb ?_ ?_)<;>conv=>whnf))
  all_goals first|exact QbP rfl gK rfl rfl
 | true =>
  rw [h0] at ck
  by_cases vP:va<4096/\r<mpg n
  .obtain ⟨h1,h2⟩:=vP
   have he:Qa6 r va<4294967296/\Qa6 r va / 4=r*32+va / 128/\ld4 n (Qa6 r va)=true:=by
    unfold Qa6;refine ⟨by omega,by omega,?_⟩;unfold ld4;rw [zdt (by omega),zdt (by omega)];rfl
   have HK:(wsv xs)[Qa6 r va / 4]?=some (.u (QaR xs r va:Nat)):=by
    rw [he.2.1];exact QaX xs _ (by omega)
   have hp:=Qab hY (r*32+va / 128);change QaR xs r va<4294967296 at hp;have e1:IntKind.u32.wrap ((va:Int).tdiv 128)=((va / 128:Nat):Int):=QnS;have e2:IntKind.u32.wrap (4*((va / 128:Nat):Int))=((4*(va / 128):Nat):Int):=Qfh;have e0:IntKind.u32.wrap ((r:Int)*128)=((r*128:Nat):Int):=Qfh;have e3:IntKind.u32.wrap (((r*128:Nat):Int)+((4*(va / 128):Nat):Int))=((Qa6 r va:Nat):Int):=QuG;have wU:Qa6 r va / 4<n:=by rw [he.2.1];omega
   have x1:=ldi (Qa6 r va);have b1:bits .and .u32 ((QaR xs r va:Nat):Int) 1=((QaR xs r va &&& 1:Nat):Int):=Qcz _ 1 hp (by omega);have b2:bits .and .u32 ((QaR xs r va:Nat):Int) 2=((QaR xs r va &&& 2:Nat):Int):=Qcz _ 2 hp (by omega);have b4:bits .and .u32 ((QaR xs r va:Nat):Int) 4=((QaR xs r va &&& 4:Nat):Int):=Qcz _ 4 hp (by omega);have s1:=QF0 (QaR xs r va);have s2:=Qxd (QaR xs r va) hp;have zO:=Qhk (QaR xs r va);have he1:=he.1
   by_cases h34:pmW (QaR xs r va) ac=true/\frW (QaR xs r va)<mpg n
   .obtain ⟨h3,h4⟩:=h34
    rw [Qlq h0 h1 h2 h3 h4];unfold pmW at h3;rw [zde] at h3;generalize Qa6 r va=E,frW (QaR xs r va)=F at *;have e4:IntKind.u32.wrap ((F:Int)*128)=((F*128:Nat):Int):=Qfh;have e5:(va:Int).tmod 128=((va%128:Nat):Int):=by rw [Qf3 (by omega)];omega
    have e6:IntKind.u32.wrap (((F*128:Nat):Int)+((va%128:Nat):Int))=((F*128+va%128:Nat):Int):=Qfh;generalize QaR xs r va &&& 1=a1,QaR xs r va &&& 2=a2,QaR xs r va &&& 4=a4,QaR xs r va / 256=p8 at *;generalize QaR xs r va=pte,Qcs ac=C,wsv xs=XX,mpg n=MP at *;refine fnW Tryz.func156 ?_;(repeat' ((conv=>whnf);first|exact zi0|refine zj0 fun hb=>?_|(with_reducible first|refine zv e9 ?_|refine zv e0 ?_|refine zv e1 ?_|refine zv e2 ?_|refine zv e3 ?_|refine zv e4 ?_|refine zv e5 ?_|refine zv e6 ?_|refine zv b1 ?_|refine zv b2 ?_|refine zv b4 ?_|refine zv s1 ?_|refine zv s2 ?_)|refine zq6 ?_|refine Qzr ?_|(refine zpu cc ?_)|(refine zpu ck ?_)|(refine QaD cp ?_)|refine zst ?_|refine zbb ?_ ?_))
    all_goals exact Qg9
   .rw [Qdx (fun h=>h34 ⟨h.2.2.2.1,h.2.2.2.2⟩)]
    have uW:¬ ((QaR xs r va &&& 1≠0/\(ac=3->QaR xs r va &&& 2≠0)/\(ac=1->QaR xs r va &&& 4≠0))/\frW (QaR xs r va)<mpg n):=fun h=>h34 ⟨zdt h.1,h.2⟩
    clear h34;generalize Qa6 r va=E,frW (QaR xs r va)=F,QaR xs r va &&& 1=a1,QaR xs r va &&& 2=a2,QaR xs r va &&& 4=a4,QaR xs r va / 256=p8 at *;generalize QaR xs r va=pte,Qcs ac=C,wsv xs=XX,mpg n=MP at *
    by_cases q1:a1=0
    .subst q1
     clear uW;refine fnW Tryz.func156 ?_;(repeat' ((conv=>whnf);first|exact zi0|refine zj0 fun hb=>?_|(with_reducible first|refine zv e9 ?_|refine zv e0 ?_|refine zv e1 ?_|refine zv e2 ?_|refine zv e3 ?_|refine zv b1 ?_|refine zv s1 ?_|refine zv s2 ?_)|refine zq6 ?_|refine Qzr ?_|(refine zpu cc ?_)|(refine zpu ck ?_)|(refine QaD cp ?_)|refine zst ?_|refine zbb ?_ ?_))
     all_goals exact Qg9
    by_cases q2:ac=3/\a2=0
    .obtain ⟨rfl,rfl⟩:=q2
     clear uW;refine fnW Tryz.func156 ?_;(repeat' ((conv=>whnf);first|exact zi0|refine zj0 fun hb=>?_|(with_reducible first|refine zv e9 ?_|refine zv e0 ?_|refine zv e1 ?_|refine zv e2 ?_|refine zv e3 ?_|refine zv b1 ?_|refine zv b2 ?_|refine zv s1 ?_|refine zv s2 ?_)|refine zq6 ?_|refine Qzr ?_|(refine zpu cc ?_)|(refine zpu ck ?_)|(refine QaD cp ?_)|refine zst ?_|refine zbb ?_ ?_))
     all_goals exact Qg9
    by_cases q3:ac=1/\a4=0
    .obtain ⟨rfl,rfl⟩:=q3
     clear uW;refine fnW Tryz.func156 ?_;(repeat' ((conv=>whnf);first|exact zi0|refine zj0 fun hb=>?_|(with_reducible first|refine zv e9 ?_|refine zv e0 ?_|refine zv e1 ?_|refine zv e2 ?_|refine zv e3 ?_|refine zv b1 ?_|refine zv b4 ?_|refine zv s1 ?_|refine zv s2 ?_)|refine zq6 ?_|refine Qzr ?_|(refine zpu cc ?_)|(refine zpu ck ?_)|(refine QaD cp ?_)|refine zst ?_|refine zbb ?_ ?_))
     all_goals exact Qg9
    have q4:MP<=F:=by
     rcases Nat.lt_or_ge F MP with h|h
     .exact absurd ⟨⟨q1,fun e z=>q2 ⟨e,z⟩,fun e z=>q3 ⟨e,z⟩⟩,h⟩ uW
     .exact h
    clear uW;refine fnW Tryz.func156 ?_;(repeat' ((conv=>whnf);first|exact zi0|refine zj0 fun hb=>?_|(with_reducible first|refine zv e9 ?_|refine zv e0 ?_|refine zv e1 ?_|refine zv e2 ?_|refine zv e3 ?_|refine zv b1 ?_|refine zv b2 ?_|refine zv b4 ?_|refine zv s1 ?_|refine zv s2 ?_)|refine zq6 ?_|refine Qzr ?_|(refine zpu cc ?_)|(refine zpu ck ?_)|(refine QaD cp ?_)|refine zst ?_|refine zbb ?_ ?_))
    all_goals exact Qg9
  .rw [Qdx (fun h=>vP ⟨h.2.1,h.2.2.1⟩)]
   generalize mpg n=MP,Qcs ac=C,wsv xs=XX at *;refine fnW Tryz.func156 ?_;(repeat' ((conv=>whnf);first|exact zi0|refine zj0 fun hb=>?_|(with_reducible refine zv e9 ?_)|(refine zpu cc ?_)|(refine zpu ck ?_)|(refine QaD cp ?_)|refine zst ?_|refine zbb ?_ ?_))
   all_goals exact Qg9
end Go.Proofs.YtflaceijiphfdaaGreat
