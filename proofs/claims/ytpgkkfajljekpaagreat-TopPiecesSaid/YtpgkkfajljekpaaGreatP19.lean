import Derived.Test.YtpgkkfajljekpaaGreatP12
set_option linter.unusedSimpArgs false
set_option linter.unusedVariables false
set_option maxHeartbeats 0
set_option maxRecDepth 100000
namespace Go.Proofs.YtpgkkfajljekpaaGreat
open Go Go.RowKit
theorem QjK (ac:Int):FN 221 [.s (.i ac)] [] (. =⟨.a (.s (.i (Qct ac))),[],[]⟩):=by
 refine fnW Tryz.func221 ?_;(repeat' ((conv=>whnf);first|exact zi0|(refine zj0 ?_;intro hb)|refine zs0 ?_|refine zbb ?_ ?_));all_goals (conv=>whnf)
 all_goals first
  | (subst hb;exact Qan rfl rfl)
  | (
    have e1:Qct ac=5:=by unfold Qct;rw [zN (by omega),zN (by omega)]
    rw [e1]
    exact Qan rfl rfl)
theorem QjP (ac:Int):FN 219 [.s (.i ac)] [] (. =⟨.a (.s (.bool (QdM ac))),[],[]⟩):=by
 unfold QdM;refine fnW Tryz.func219 ?_;(repeat' ((conv=>whnf);first|exact zi0|(refine zj0 ?_;intro hb)|refine zs0 ?_|refine zbb ?_ ?_));all_goals (conv=>whnf)
 all_goals first
  | (refine Qan rfl ?_;simp only [Qbc];congr 3;first|exact (zdf (by omega)).symm|exact (zdt (by omega)).symm|(rw [zbi];simp only [zde,beq_iff_eq];omega))
theorem Qwu (v:Nat) (hv:v<4294967296):bits .and .u32 (v:Int) 255=((v%256:Nat):Int):=by
 exact QDQ
theorem QGu (p:Nat):((p:Int) / 2^min (Int.toNat 8) IntKind.u32.bits)=((p / 256:Nat):Int):=by
 rw [show (2:Int)^min (Int.toNat 8) IntKind.u32.bits=256 from rfl];omega
theorem QxF (p:Nat) (hp:p<4294967296):bits .and .u32 ((p / 256:Nat):Int) 255=((frW p:Nat):Int):=by
 rw [Qwu _ (by omega)];rfl
theorem Qc1 (xs:List Nat) (n a:Nat) (hn:n<4294967296) (ha:a<4294967296):FN 174 [.s (.sl 0 0 n),.s (.u a),.s (.i 4)] [⟨false,1,wsv xs⟩] (. =⟨.a (.s (.bool (ld4 n a))),[],[]⟩):=by
 have hm:=QaS n;have hp:=Qcj xs n hn;have gL:=Qaa xs;unfold ld4;generalize mpg n=P,wsv xs=XX at *;refine fnW Tryz.func174 ?_;(repeat' ((conv=>whnf);first|exact zi0|(refine zj0 ?_;intro hb)|(refine Qaz hp ?_)|refine zst ?_|refine zbb ?_ ?_));all_goals (conv=>whnf)
 all_goals
  refine QbQ rfl gL rfl ?_;simp only [Qbc];congr 3;refine Eq.symm ?_
  first
   | (rw [zdf (by omega)];rfl)
   | (rw [zdt (by omega),Bool.true_and,zbi,zde,zde];omega)
theorem QtV (xs:List Nat) (n E:Nat) (ac:Int) (hl:xs.length=n) (hn:n<4294967296) (hY:ZL xs) (hE:E<4294967296) (qZ:ld4 n E=true) :
  FN 223 [.s (.sl 0 0 n),.s (.u E),.s (.i ac)] [⟨true,1,wsv xs⟩] (. =⟨.tup [],[(0,some ⟨true,1,wsv (xs.set (E / 4) (QbI (xs.getD (E / 4) 0) ac))⟩)],[]⟩):=by
 have cw:=Qc1 xs n E hn hE;rw [qZ] at cw;have zE:=Qeo qZ;have hp:=Qab hY (E / 4);have hg:=QaY xs (E / 4) (by omega);have uW:(wsv xs).length=n:=by simp [hl]
 have o1:=Qk6 (xs.getD (E / 4) 0) 8 hp (by omega);have o2:=Qk6 (xs.getD (E / 4) 0 ||| 8) 16 o1.2 (by omega);have k1:bits .or .u32 ((xs.getD (E / 4) 0:Nat):Int) 8=((xs.getD (E / 4) 0 ||| 8:Nat):Int):=o1.1;have k2:bits .or .u32 ((xs.getD (E / 4) 0 ||| 8:Nat):Int) 16=(((xs.getD (E / 4) 0 ||| 8) ||| 16:Nat):Int):=o2.1;have fH:=Qbx xs (E / 4) (xs.getD (E / 4) 0 ||| 8) (by omega);have gY:=Qbx (xs.set (E / 4) (xs.getD (E / 4) 0 ||| 8)) (E / 4) ((xs.getD (E / 4) 0 ||| 8) ||| 16) (by rw [List.length_set];omega);rw [List.set_set] at gY
 have hg1:(wsv (xs.set (E / 4) (xs.getD (E / 4) 0 ||| 8)))[E / 4]?=some (.u ((xs.getD (E / 4) 0 ||| 8:Nat):Int)):=by
  rw [QaY _ _ (by rw [List.length_set];omega)];rw [zgd,List.getElem?_set_self (by omega)];rfl
 have t3:ac=3->QbI (xs.getD (E / 4) 0) ac=(xs.getD (E / 4) 0 ||| 8) ||| 16:=fun h=>zP h
 have t0:ac≠3->QbI (xs.getD (E / 4) 0) ac=xs.getD (E / 4) 0 ||| 8:=fun h=>zN h
 have FJ:(wsv (xs.set (E / 4) (xs.getD (E / 4) 0 ||| 8))).length=n:=by simp [hl]
 have sc0:=Qaa xs;have sc1:=Qaa (xs.set (E / 4) (xs.getD (E / 4) 0 ||| 8));have sc2:=Qaa (xs.set (E / 4) ((xs.getD (E / 4) 0 ||| 8) ||| 16));have x1:=ldi E;clear o1 o2;generalize (xs.getD (E / 4) 0 ||| 8) ||| 16=p2 at *;generalize xs.getD (E / 4) 0 ||| 8=p1,QbI (xs.getD (E / 4) 0) ac=p3 at *;generalize xs.getD (E / 4) 0=p at *
 by_cases h3:ac=3
 .rw [t3 h3]
  subst h3;generalize wsv (xs.set (E / 4) p2)=X2,wsv (xs.set (E / 4) p1)=X1,wsv xs=X0 at *;refine fnW Tryz.func223 ?_;(repeat' ((conv=>whnf);first|exact zi0|(refine zj0 ?_;intro hb)|(with_reducible first|refine zv k1 ?_|refine zv k2 ?_)|refine zq6 ?_|refine QIc ?_|((with_reducible apply Ge.mk (α:=SV)); . first|exact hg|exact hg1)|((with_reducible apply Vl.mk (α:=List SV)); . with_reducible first|exact fH|exact gY)|(refine Qaz cw ?_)|refine zst ?_|refine zbb ?_ ?_))
  all_goals exact Qb5
 .rw [t0 h3]
  generalize wsv (xs.set (E / 4) p1)=X1,wsv xs=X0 at *;refine fnW Tryz.func223 ?_;(repeat' ((conv=>whnf);first|exact zi0|(refine zj0 ?_;intro hb)|(with_reducible refine zv k1 ?_)|refine zq6 ?_|refine QIc ?_|refine QAI ?_|((with_reducible apply Vl.mk (α:=List SV)); . with_reducible exact fH)|(refine Qaz cw ?_)|refine zst ?_|refine zbb ?_ ?_))
  all_goals exact Qb5
theorem QrE (xs:List Nat) (n r va:Nat) (ac:Int) (hl:xs.length=n) (hn:n<4294967296) (hY:ZL xs) (hr:r<4294967296) (gX:va<4294967296) :
  FN 222 [.s (.sl 0 0 n),.s (.u r),.s (.u va),.s (.i ac)] [⟨false,1,wsv xs⟩] (. =⟨.a (.agg (QfH xs n r va ac)),[],[]⟩):=by
 have gL:=Qaa xs;have hm:=QaS n;have hmn:mpg n*32<=n:=QsC;have cc:=QjK ac;have ck:=QjP ac;have cp:=Qcj xs n hn;have e9:IntKind.u32.wrap ((mpg n:Nat):Int)=((mpg n:Nat):Int):=Qe4 (by omega) (by omega)
 cases h0:QdM ac with
 | false =>
  rw [QdC (by rw [h0];simp)];rw [h0] at ck;generalize mpg n=MP,Qct ac=C,wsv xs=XX at *;refine fnW Tryz.func222 ?_;(repeat' ((conv=>whnf);first|exact zi0|(refine zj0 ?_;intro hb)|(with_reducible refine zv e9 ?_)|(refine zpu cc ?_)|(refine zpu ck ?_)|(refine Qaz cp ?_)|refine zst ?_|refine zbb ?_ ?_));all_goals (conv=>whnf)
  all_goals first|exact QbQ rfl gL rfl rfl
 | true =>
  rw [h0] at ck
  by_cases vP:va<4096/\r<mpg n
  .obtain ⟨h1,h2⟩:=vP
   have he:Qa8 r va<4294967296/\Qa8 r va / 4=r*32+va / 128/\ld4 n (Qa8 r va)=true:=by
    unfold Qa8;refine ⟨by omega,by omega,?_⟩;unfold ld4;rw [zdt (by omega),zdt (by omega)];rfl
   have HM:(wsv xs)[Qa8 r va / 4]?=some (.u (QaQ xs r va:Nat)):=by
    rw [he.2.1];exact QaY xs _ (by omega)
   have hp:=Qab hY (r*32+va / 128);change QaQ xs r va<4294967296 at hp;have e1:IntKind.u32.wrap ((va:Int).tdiv 128)=((va / 128:Nat):Int):=Qz0;have e2:IntKind.u32.wrap (4*((va / 128:Nat):Int))=((4*(va / 128):Nat):Int):=QHt;have e0:IntKind.u32.wrap ((r:Int)*128)=((r*128:Nat):Int):=QHt;have e3:IntKind.u32.wrap (((r*128:Nat):Int)+((4*(va / 128):Nat):Int))=((Qa8 r va:Nat):Int):=Qu5;have yI:Qa8 r va / 4<n:=by rw [he.2.1];omega
   have x1:=ldi (Qa8 r va);have b1:bits .and .u32 ((QaQ xs r va:Nat):Int) 1=((QaQ xs r va &&& 1:Nat):Int):=QcB _ 1 hp (by omega);have b2:bits .and .u32 ((QaQ xs r va:Nat):Int) 2=((QaQ xs r va &&& 2:Nat):Int):=QcB _ 2 hp (by omega);have b4:bits .and .u32 ((QaQ xs r va:Nat):Int) 4=((QaQ xs r va &&& 4:Nat):Int):=QcB _ 4 hp (by omega);have s1:=QGu (QaQ xs r va);have s2:=QxF (QaQ xs r va) hp;have uJ:=Qhx (QaQ xs r va);have YS:=he.1
   by_cases h34:pmW (QaQ xs r va) ac=true/\frW (QaQ xs r va)<mpg n
   .obtain ⟨h3,h4⟩:=h34
    rw [QlC h0 h1 h2 h3 h4];unfold pmW at h3;rw [zde] at h3;generalize Qa8 r va=E,frW (QaQ xs r va)=F at *;have e4:IntKind.u32.wrap ((F:Int)*128)=((F*128:Nat):Int):=QHt;have e5:(va:Int).tmod 128=((va%128:Nat):Int):=by rw [Qge (by omega)];omega
    have e6:IntKind.u32.wrap (((F*128:Nat):Int)+((va%128:Nat):Int))=((F*128+va%128:Nat):Int):=QHt;generalize QaQ xs r va &&& 1=a1,QaQ xs r va &&& 2=a2,QaQ xs r va &&& 4=a4,QaQ xs r va / 256=p8 at *;generalize QaQ xs r va=pte,Qct ac=C,wsv xs=XX,mpg n=MP at *;refine fnW Tryz.func222 ?_;(repeat' ((conv=>whnf);first|exact zi0|(refine zj0 ?_;intro hb)|(with_reducible first|refine zv e9 ?_|refine zv e0 ?_|refine zv e1 ?_|refine zv e2 ?_|refine zv e3 ?_|refine zv e4 ?_|refine zv e5 ?_|refine zv e6 ?_|refine zv b1 ?_|refine zv b2 ?_|refine zv b4 ?_|refine zv s1 ?_|refine zv s2 ?_)|refine zq6 ?_|refine QH3 ?_|(refine zpu cc ?_)|(refine zpu ck ?_)|(refine Qaz cp ?_)|refine zst ?_|refine zbb ?_ ?_))
    all_goals exact QHw
   .rw [QdC (fun h=>h34 ⟨h.2.2.2.1,h.2.2.2.2⟩)]
    have HR:¬ ((QaQ xs r va &&& 1≠0/\(ac=3->QaQ xs r va &&& 2≠0)/\(ac=1->QaQ xs r va &&& 4≠0))/\frW (QaQ xs r va)<mpg n):=fun h=>h34 ⟨zdt h.1,h.2⟩
    clear h34;generalize Qa8 r va=E,frW (QaQ xs r va)=F,QaQ xs r va &&& 1=a1,QaQ xs r va &&& 2=a2,QaQ xs r va &&& 4=a4,QaQ xs r va / 256=p8 at *;generalize QaQ xs r va=pte,Qct ac=C,wsv xs=XX,mpg n=MP at *
    by_cases q1:a1=0
    .subst q1
     clear HR;refine fnW Tryz.func222 ?_;(repeat' ((conv=>whnf);first|exact zi0|(refine zj0 ?_;intro hb)|(with_reducible first|refine zv e9 ?_|refine zv e0 ?_|refine zv e1 ?_|refine zv e2 ?_|refine zv e3 ?_|refine zv b1 ?_|refine zv s1 ?_|refine zv s2 ?_)|refine zq6 ?_|refine QH3 ?_|(refine zpu cc ?_)|(refine zpu ck ?_)|(refine Qaz cp ?_)|refine zst ?_|refine zbb ?_ ?_))
     all_goals exact QHw
    by_cases q2:ac=3/\a2=0
    .obtain ⟨rfl,rfl⟩:=q2
     clear HR;refine fnW Tryz.func222 ?_;(repeat' ((conv=>whnf);first|exact zi0|(refine zj0 ?_;intro hb)|(with_reducible first|refine zv e9 ?_|refine zv e0 ?_|refine zv e1 ?_|refine zv e2 ?_|refine zv e3 ?_|refine zv b1 ?_|refine zv b2 ?_|refine zv s1 ?_|refine zv s2 ?_)|refine zq6 ?_|refine QH3 ?_|(refine zpu cc ?_)|(refine zpu ck ?_)|(refine Qaz cp ?_)|refine zst ?_|refine zbb ?_ ?_))
     all_goals exact QHw
    by_cases q3:ac=1/\a4=0
    .obtain ⟨rfl,rfl⟩:=q3
     clear HR;refine fnW Tryz.func222 ?_;(repeat' ((conv=>whnf);first|exact zi0|(refine zj0 ?_;intro hb)|(with_reducible first|refine zv e9 ?_|refine zv e0 ?_|refine zv e1 ?_|refine zv e2 ?_|refine zv e3 ?_|refine zv b1 ?_|refine zv b4 ?_|refine zv s1 ?_|refine zv s2 ?_)|refine zq6 ?_|refine QH3 ?_|(refine zpu cc ?_)|(refine zpu ck ?_)|(refine Qaz cp ?_)|refine zst ?_|refine zbb ?_ ?_))
     all_goals exact QHw
    have q4:MP<=F:=by
     rcases Nat.lt_or_ge F MP with h|h
     .exact absurd ⟨⟨q1,fun e z=>q2 ⟨e,z⟩,fun e z=>q3 ⟨e,z⟩⟩,h⟩ HR
     .exact h
    clear HR;refine fnW Tryz.func222 ?_;(repeat' ((conv=>whnf);first|exact zi0|(refine zj0 ?_;intro hb)|(with_reducible first|refine zv e9 ?_|refine zv e0 ?_|refine zv e1 ?_|refine zv e2 ?_|refine zv e3 ?_|refine zv b1 ?_|refine zv b2 ?_|refine zv b4 ?_|refine zv s1 ?_|refine zv s2 ?_)|refine zq6 ?_|refine QH3 ?_|(refine zpu cc ?_)|(refine zpu ck ?_)|(refine Qaz cp ?_)|refine zst ?_|refine zbb ?_ ?_))
    all_goals exact QHw
  .rw [QdC (fun h=>vP ⟨h.2.1,h.2.2.1⟩)]
   generalize mpg n=MP,Qct ac=C,wsv xs=XX at *;refine fnW Tryz.func222 ?_;(repeat' ((conv=>whnf);first|exact zi0|(refine zj0 ?_;intro hb)|(with_reducible refine zv e9 ?_)|(refine zpu cc ?_)|(refine zpu ck ?_)|(refine Qaz cp ?_)|refine zst ?_|refine zbb ?_ ?_))
   all_goals exact QHw
end Go.Proofs.YtpgkkfajljekpaaGreat
