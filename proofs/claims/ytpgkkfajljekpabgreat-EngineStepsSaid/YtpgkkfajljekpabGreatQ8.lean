import Derived.Test.YtpgkkfajljekpabGreatQ7
set_option linter.unusedSimpArgs false
set_option linter.unusedVariables false
set_option maxHeartbeats 0
set_option maxRecDepth 100000
namespace Go.Proofs.YtpgkkfajljekpabGreat
open Go Go.RowKit
def opsL:List Int:= [1,2,3,4,5,6,7,8,9,10,11,12,13,16,16,17,18,19,20,21,22,23,24,24,32,32,33,34,35,35,36,40,41,42,43,44,45,48,49,56,57,58,59,60,60,61,61,62,63,64]
theorem QCt:FN 84 [] [] (. =⟨.a (.s (.sl 0 0 50)),[],[⟨true,1,isv .i64 opsL⟩]⟩):=by
 refine fnW Tryz.func84 ?_;(conv=>whnf);(repeat' ((first|exact zi0|refine zj0 fun hb=>?_|refine zs0 ?_|refine zbb ?_ ?_)<;>conv=>whnf))
 all_goals (exact QHX)
def io (n:Int):Int:=opsL.getD (mix n 1%50).toNat 0
def QAD (o:Int):Prop:=1<=o/\o<=13\/16<=o/\o<=24\/32<=o/\o<=36\/40<=o/\o<=45\/o=48\/o=49\/56<=o/\o<=64
instance (o:Int):Decidable (QAD o):=by unfold QAD;infer_instance
theorem QCu:∀ q:Nat,q<50->QAD (opsL.getD q 0):=by decide
theorem QB8 (n:Int):QAD (io n):=QCu _ (by omega)
def ir (n:Int) (d:Int):Int:=mix n 1 / d%6
def ik (n:Int):Int:=mix n 1 / 1048576%24
def QfP (n:Int):List SV :=
 if io n<=13 then iv (io n) (ir n 256) (ir n 4096) (ir n 65536) 0
 else if 40<=io n/\io n<=48 then iv (io n) (ir n 256) (if io n=48 then 0 else ir n 4096) 0 (ik n-12)
 else if io n=16\/io n=23\/32<=io n/\io n<=36\/io n=49 then iv (io n) (ir n 256) (ir n 4096) 0 (8*ik n-32)
 else if io n=24 then iv (io n) (ir n 256) 0 0 (ik n*(mix n 1 / 1099511627776%2))
 else if 17<=io n/\io n<=22 then iv (io n) (ir n 256) (ir n 4096) 0 (ik n)
 else if io n=58\/io n=59 then iv (io n) (ir n 256) 0 0 (ik n%8)
 else if io n=60\/io n=61 then iv (io n) (ir n 256) 0 0 (ik n%12)
 else iv (io n) 0 0 0 0
theorem sh8 (x:Int):x / 2^min (Int.toNat 8) IntKind.i64.bits=x / 256:=by rw [show (2:Int)^min (Int.toNat 8) IntKind.i64.bits=256 from rfl]
theorem QI0 (x:Int):x / 2^min (Int.toNat 12) IntKind.i64.bits=x / 4096:=by rw [show (2:Int)^min (Int.toNat 12) IntKind.i64.bits=4096 from rfl]
theorem QI1 (x:Int):x / 2^min (Int.toNat 16) IntKind.i64.bits=x / 65536:=by rw [show (2:Int)^min (Int.toNat 16) IntKind.i64.bits=65536 from rfl]
theorem QI2 (x:Int):x / 2^min (Int.toNat 20) IntKind.i64.bits=x / 1048576:=by rw [show (2:Int)^min (Int.toNat 20) IntKind.i64.bits=1048576 from rfl]
theorem QI3 (x:Int):x / 2^min (Int.toNat 40) IntKind.i64.bits=x / 1099511627776:=by rw [show (2:Int)^min (Int.toNat 40) IntKind.i64.bits=1099511627776 from rfl]
theorem QsY (x:Int) (h0:0<=x) (h1:x<9223372036854775808):bits .and .i64 x 1=x%2:=by
 obtain ⟨n,rfl⟩:=Int.eq_ofNat_of_zero_le h0
 have e:((BitVec.ofInt 64 (n:Int)) &&& (BitVec.ofInt 64 1)).toNat=n%2:=by
  rw [BitVec.toNat_and,show (BitVec.ofInt 64 1).toNat=1 from rfl,Nat.and_one_is_mod]
  have:(BitVec.ofInt 64 (n:Int)).toNat=n:=by
   rw [BitVec.toNat_ofInt];simp;omega
  rw [this]
 show IntKind.i64.wrap (((BitVec.ofInt 64 (n:Int)) &&& (BitVec.ofInt 64 1)).toNat:Int)=_;rw [e,Qb4 (by omega) (by omega)];omega
theorem Qyl (q:Int) (h0:0<=q) (h1:q<50):(isv .i64 opsL)[0+q.toNat * 1]?=some (.i (opsL.getD q.toNat 0)):=by
 rw [Nat.zero_add,Nat.mul_one];exact Qim .i64 opsL q.toNat (by show q.toNat<50;omega)
theorem Qx0 (n:Int):FN 41 [.s (.i n)] [] (. =⟨.a (.agg (QfP n)),[],[]⟩):=by
 have hm:=QjL n 1;have ho:=QB8 n;unfold QAD at ho;have hk:0<=ik n/\ik n<24:=by unfold ik;omega
 have hq:0<=mix n 1%50/\mix n 1%50<50:=by omega
 have a1:bits .and .i64 (mix n 1 / 1099511627776) 1=mix n 1 / 1099511627776%2:=QsY _ (by omega) (by omega);have c1:=Qd6 (mix n 1) 50 (by omega) (by omega);have c2:=Qd6 (mix n 1 / 256) 6 (by omega) (by omega);have c3:=Qd6 (mix n 1 / 4096) 6 (by omega) (by omega);have c4:=Qd6 (mix n 1 / 65536) 6 (by omega) (by omega);have c5:=Qd6 (mix n 1 / 1048576) 24 (by omega) (by omega);have c0:=QCf n 1;have gq:=Qyl _ hq.1 hq.2;have hb2:0<=mix n 1 / 1099511627776%2/\mix n 1 / 1099511627776%2<2:=by omega
 have hkm:0<=ik n*(mix n 1 / 1099511627776%2)/\ik n*(mix n 1 / 1099511627776%2)<24:=by
  rcases (by omega:mix n 1 / 1099511627776%2=0\/mix n 1 / 1099511627776%2=1) with e|e<;>rw [e]<;>omega
 have k1:IntKind.i64.wrap (ik n*(mix n 1 / 1099511627776%2))=ik n*(mix n 1 / 1099511627776%2):=Qb4 (by omega) (by omega);have k2:IntKind.i32.wrap (ik n*(mix n 1 / 1099511627776%2))=ik n*(mix n 1 / 1099511627776%2):=QDf (by omega) (by omega);show Fn _ _ _ _ (. =⟨.a (.agg (QfP n)),[],[]⟩);unfold QfP;change Fn _ _ [.s (.i (mix n 1 / 1048576)),_] _ (. =⟨.a (.s (.i (ik n))),_,_⟩) at c5;change Fn _ _ [.s (.i (mix n 1 / 256)),_] _ (. =⟨.a (.s (.i (ir n 256))),_,_⟩) at c2;change Fn _ _ [.s (.i (mix n 1 / 4096)),_] _ (. =⟨.a (.s (.i (ir n 4096))),_,_⟩) at c3;change Fn _ _ [.s (.i (mix n 1 / 65536)),_] _ (. =⟨.a (.s (.i (ir n 65536))),_,_⟩) at c4;change _=some (SV.int .i64 (io n)) at gq;have fo:=QCt;have UD:Qao (isv .i64 opsL)=true:=QaM _ _;generalize isv .i64 opsL=Lc,io n=o,ik n=k,ir n 256=A,ir n 4096=B,ir n 65536=C,mix n 1=M at *;generalize M / 1099511627776%2=z at *;refine fnW Tryz.func41 ?_;(conv=>whnf);(repeat' ((first|exact zi0|refine zj0 fun hb=>?_|(refine Qag (f:=84) fo [] [] rfl trivial trivial ⟨rfl,Qbp⟩ ?_)|(refine Qad (f:=85) (c0) rfl ?_)|(refine Qad (f:=16) (c1) rfl ?_)|(refine Qad (f:=16) (c2) rfl ?_)|(refine Qad (f:=16) (c3) rfl ?_)|(refine Qad (f:=16) (c4) rfl ?_)|(refine Qad (f:=16) (c5) rfl ?_)|(with_reducible first|refine zv (sh8 _) ?_|refine zv (QI0 _) ?_|refine zv (QI1 _) ?_|refine zv (QI2 _) ?_|refine zv (QI3 _) ?_|refine zv a1 ?_|refine zv k1 ?_|refine zv k2 ?_)|((with_reducible apply Ge.mk (α:=SV)); . exact gq)|refine zs0 ?_|refine zbb ?_ ?_)<;>conv=>whnf))
 all_goals first
  | (rw [zP (by omega)];exact Qam rfl rfl)
  | (rw [zN (by omega),zP (by omega)];first|(rw [zP (by omega)];exact Qam rfl rfl)|(rw [zN (by omega)];exact Qam rfl rfl))
  | (rw [zN (by omega),zN (by omega),zP (by omega)];exact Qam rfl rfl)
  | (rw [zN (by omega),zN (by omega),zN (by omega),zP (by omega)];exact Qam rfl rfl)
  | (rw [zN (by omega),zN (by omega),zN (by omega),zN (by omega),zP (by omega)];exact Qam rfl rfl)
  | (rw [zN (by omega),zN (by omega),zN (by omega),zN (by omega),zN (by omega),zP (by omega)];exact Qam rfl rfl)
  | (rw [zN (by omega),zN (by omega),zN (by omega),zN (by omega),zN (by omega),zN (by omega),zP (by omega)];exact Qam rfl rfl)
  | (rw [zN (by omega),zN (by omega),zN (by omega),zN (by omega),zN (by omega),zN (by omega),zN (by omega)];exact Qam rfl rfl)
def loV (f:Int):Int:=if f=3\/f=7 then -32768 else 0
def hiV (f:Int):Int:=if f=3\/f=7 then 32767 else if f=4\/f=6 then 65535 else if f=5 then 31 else if f=8 then 7 else if f=9 then 11 else 0
theorem QoT (f:Int):FN 69 [.s (.i f)] [] (. =⟨.tup [.s (.i (loV f)),.s (.i (hiV f))],[],[]⟩):=by
 refine fnW Tryz.func69 ?_;(conv=>whnf);(repeat' ((first|exact zi0|refine zj0 fun hb=>?_|refine zs0 ?_|refine zbb ?_ ?_)<;>conv=>whnf))
 all_goals first
  | (subst hb;exact Qam rfl rfl)
  | (
    apply Qam
    (focus rfl)
    simp only [Qbc]
    rw [loV,hiV,zN (by omega),zN (by omega),zN (by omega),zN (by omega),zN (by omega),zN (by omega)])
def rgV (r:Int):Bool:=decide (0<=r/\r<=15)
theorem QCL (r:Int):FN 134 [.s (.i r)] [] (. =⟨.a (.s (.bool (rgV r))),[],[]⟩):=by
 refine fnW Tryz.func134 ?_;(conv=>whnf);(repeat' ((first|exact zi0|refine zj0 fun hb=>?_|refine zs0 ?_|refine zbb ?_ ?_)<;>conv=>whnf))
 all_goals (apply Qam;(focus rfl);simp only [Qbc];congr 3;grind [rgV])
def rvV (o a b c m:Int):Bool :=
 decide (QaV o≠0/\(0<=a/\a<=15)/\(0<=b/\b<=15)/\(0<=c/\c<=15)/\loV (QaV o)<=m/\m<=hiV (QaV o)/\(QaV o=2\/c=0)/\(QaV o=1->a=0)/\(b=0\/2<=QaV o/\QaV o<=5))
theorem Qj6 (o a b c m:Int) (hm: -2147483648<=m/\m<=2147483647):FN 67 [.agg (iv o a b c m)] [] (. =⟨.a (.s (.bool (rvV o a b c m))),[],[]⟩):=by
 unfold rvV;have hf:=Qqn o;have YJ:=QoT (QaV o);generalize QaV o=f at *;generalize loV f=lo,hiV f=hi at *;refine fnW Tryz.func67 ?_;unfold iv;(conv=>whnf);(repeat' ((first|exact zi0|refine zj0 fun hb=>?_|(refine Qad (f:=68) (hf) rfl ?_)|(refine Qad (f:=69) (YJ) rfl ?_)|(refine Qad (f:=134) (QCL _) rfl ?_)|refine zs0 ?_|refine zbb ?_ ?_)<;>conv=>whnf))
 all_goals
  apply Qam
  (focus rfl)
  simp only [Qbc];congr 3
  try simp only [rgV,zde,decide_eq_false_iff_not,Bool.not_eq_true',Bool.not_eq_false'] at *
  first
   | (refine (zdf ?_).symm;omega)
   | (refine (zdt ?_).symm;omega)
   | (rw [zbi];simp only [zde,beq_iff_eq];omega)
def QvF (o a b c m:Int):Int:=o*16777216+a*1048576+b*65536+m%65536+c
theorem QCv (p q k:Nat) (h:q<2^k):(2^k*p) ||| q=2^k*p+q:=(Nat.two_pow_add_eq_or_of_lt h p).symm
theorem QHT (x:Int) (n:Nat) (hn:n<=32):x*2^min ((n:Nat):Int).toNat IntKind.u32.bits=x*2^n:=by
 have:min ((n:Nat):Int).toNat IntKind.u32.bits=n:=Qvf;rw [this]
theorem QBe (a:Nat) (ha:ZU a):(BitVec.ofInt 32 (a:Int)).toNat=a:=by
 rw [BitVec.toNat_ofInt];simp;omega
theorem Qyn (a b:Nat) (ha:ZU a) (hb:ZU b):bits .or .u32 (a:Int) b=((a ||| b:Nat):Int):=by
 have h:a ||| b<2^32:=Nat.or_lt_two_pow (by simpa using ha) (by simpa using hb);show IntKind.u32.wrap (((BitVec.ofInt 32 (a:Int)) ||| (BitVec.ofInt 32 (b:Int))).toNat:Int)=_;rw [BitVec.toNat_or,QBe a ha,QBe b hb,Qch];simp only [Nat.reducePow] at h;omega
theorem QjP (x y:Int) (k:Nat) (p q:Nat) (hx:x=((2^k*p:Nat):Int)) (hy:y=(q:Int)) (hq:q<2^k) (h1:2^k*p<4294967296) (h2:ZU q):bits .or .u32 x y=x+y:=by
 subst hx hy;rw [Qyn _ _ h1 h2,QCv p q k hq];simp
theorem Qf2 {o:Int} (h:QaV o≠0):1<=o/\o<=64:=by
 by_cases h1:1<=o/\o<=64
 .exact h1
 .refine absurd ?_ h
  unfold QaV
  repeat' first
   | rfl
   | (apply QqF<;>intro _)
   | (exfalso;omega)
theorem QIO:loV 2=0/\hiV 2=0:=⟨rfl,rfl⟩
theorem Qpz (o a b c m:Int) (hm: -2147483648<=m/\m<=2147483647) (hv:rvV o a b c m=true):FN 33 [.agg (iv o a b c m)] [] (. =⟨.tup [.s (.u (QvF o a b c m)),.s (.bool true)],[],[]⟩):=by
 have f1:=Qj6 o a b c m hm;rw [hv] at f1;have hv:=of_decide_eq_true hv;obtain ⟨v1,_,_,_,v5,v6,v7,_,_⟩:=hv;have ho:=Qf2 v1
 have hcm:c=0\/m=0:=by
  rcases v7 with h|h
  .rw [h] at v5 v6;have:=QIO;right;omega
  .exact .inl h
 have w1:IntKind.u32.wrap o=o:=Qe7 (by omega) (by omega);have w2:IntKind.u32.wrap a=a:=Qe7 (by omega) (by omega);have w3:IntKind.u32.wrap b=b:=Qe7 (by omega) (by omega);have w4:IntKind.u32.wrap c=c:=Qe7 (by omega) (by omega);have w5:IntKind.u32.wrap m=m%4294967296:=Qch m
 have s1:IntKind.u32.wrap (o*2^min (Int.toNat 24) IntKind.u32.bits)=o*16777216:=by
  rw [show (2:Int)^min (Int.toNat 24) IntKind.u32.bits=16777216 from rfl];exact Qe7 (by omega) (by omega)
 have s2:IntKind.u32.wrap (a*2^min (Int.toNat 20) IntKind.u32.bits)=a*1048576:=by
  rw [show (2:Int)^min (Int.toNat 20) IntKind.u32.bits=1048576 from rfl];exact Qe7 (by omega) (by omega)
 have s3:IntKind.u32.wrap (b*2^min (Int.toNat 16) IntKind.u32.bits)=b*65536:=by
  rw [show (2:Int)^min (Int.toNat 16) IntKind.u32.bits=65536 from rfl];exact Qe7 (by omega) (by omega)
 have e1:bits .or .u32 (o*16777216) (a*1048576)=o*16777216+a*1048576:=QjP _ _ 24 o.toNat (a*1048576).toNat (by simp only [Nat.reducePow];omega) (by omega) (by simp only [Nat.reducePow];omega) (by simp only [Nat.reducePow];omega) (by omega);have e2:bits .or .u32 (o*16777216+a*1048576) (b*65536)=o*16777216+a*1048576+b*65536:=QjP _ _ 20 (16*o+a).toNat (b*65536).toNat (by simp only [Nat.reducePow];omega) (by omega) (by simp only [Nat.reducePow];omega) (by simp only [Nat.reducePow];omega) (by omega)
 have e3:bits .and .u32 (m%4294967296) 65535=m%65536:=by
  have:=Qbm (m%4294967296).toNat 16 (by omega) (by omega);rw [show (((m%4294967296).toNat:Nat):Int)=m%4294967296 by omega] at this;have e:bits .and .u32 (m%4294967296) 65535=(((m%4294967296).toNat%2^16:Nat):Int):=this;rw [e];simp only [Nat.reducePow];omega
 have e4:bits .or .u32 (o*16777216+a*1048576+b*65536) (m%65536)=o*16777216+a*1048576+b*65536+m%65536:=QjP _ _ 16 (256*o+16*a+b).toNat (m%65536).toNat (by simp only [Nat.reducePow];omega) (by omega) (by simp only [Nat.reducePow];omega) (by simp only [Nat.reducePow];omega) (by omega)
 have e5:bits .or .u32 (o*16777216+a*1048576+b*65536+m%65536) c=QvF o a b c m:=by
  unfold QvF;rcases hcm with h|h
  .subst h
   exact QjP _ _ 0 (o*16777216+a*1048576+b*65536+m%65536).toNat 0 (by simp only [Nat.pow_zero];omega) rfl (by simp) (by simp only [Nat.pow_zero];omega) (by omega)
  .subst h
   exact QjP _ _ 16 (256*o+16*a+b).toNat c.toNat (by simp only [Nat.reducePow];omega) (by omega) (by simp only [Nat.reducePow];omega) (by simp only [Nat.reducePow];omega) (by omega)
 refine fnW Tryz.func33 ?_;unfold iv;(conv=>whnf);(repeat' ((first|exact zi0|refine zj0 fun hb=>?_|(refine Qad (f:=67) (f1) rfl ?_)|(with_reducible first|refine zv w1 ?_|refine zv w2 ?_|refine zv w3 ?_|refine zv w4 ?_|refine zv w5 ?_|refine zv s1 ?_|refine zv s2 ?_|refine zv s3 ?_|refine zv e1 ?_|refine zv e2 ?_|refine zv e3 ?_|refine zv e4 ?_|refine zv e5 ?_)|refine zs0 ?_|refine zbb ?_ ?_)<;>conv=>whnf))
 all_goals exact Qam rfl rfl
theorem Qmo:∀ k:Nat,k<65->QaV (k:Int)≠0->QcX k=true/\Qsp k= !(QaV k==1)/\QzK k=decide (2<=QaV k/\QaV k<=5)/\Qsq k=(QaV k==2)/\Qha k=loV (QaV k)/\Qhp k=hiV (QaV k):=by decide
theorem QBv {o a b c m:Int} (hv:rvV o a b c m=true):0<=QvF o a b c m/\QvF o a b c m<4294967296:=by
 obtain ⟨v1,_,_,_,_,_,_,_,_⟩:=of_decide_eq_true hv;have ho:=Qf2 v1;unfold QvF;omega
theorem Qx1 (n:Int):∃ o a b c m:Int,QfP n=iv o a b c m/\rvV o a b c m=true/\ -2147483648<=m/\m<=2147483647/\o=io n:=by
 have ho:=QB8 n;unfold QAD at ho;have hk:0<=ik n/\ik n<24:=by unfold ik;omega
 have hr:∀ d,0<=ir n d/\ir n d<6:=fun d=>by unfold ir;omega
 have r1:=hr 256;have r2:=hr 4096;have r3:=hr 65536
 have hkm:0<=ik n*(mix n 1 / 1099511627776%2)/\ik n*(mix n 1 / 1099511627776%2)<24:=by
  rcases (by omega:mix n 1 / 1099511627776%2=0\/mix n 1 / 1099511627776%2=1) with e|e<;>rw [e]<;>omega
 unfold QfP;generalize io n=o,ik n=k,ir n 256=A,ir n 4096=B,ir n 65536=C at *;generalize k*(mix n 1 / 1099511627776%2)=kz at *
 have fin:∀ (f a b c m:Int),QaV o=f->(f≠0/\(0<=a/\a<=15)/\(0<=b/\b<=15)/\(0<=c/\c<=15)/\loV f<=m/\m<=hiV f/\(f=2\/c=0)/\(f=1->a=0)/\(b=0\/2<=f/\f<=5))->rvV o a b c m=true:=fun f a b c m hf h=>by
  unfold rvV;rw [hf];exact zdt h
 have fv:∀ f:Int,(QaV o=f)↔(QaV o=f):=fun f=>Iff.rfl
 by_cases c1:o<=13
 .rw [zP c1]
  exact ⟨o,A,B,C,0,rfl,fin 2 _ _ _ _ (by unfold QaV;rw [zP (by omega)]) ⟨by omega,by omega,by omega,by omega,by decide,by decide,by omega,by omega,by omega⟩,by omega,by omega,rfl⟩
 rw [zN c1]
 by_cases c2:40<=o/\o<=48
 .rw [zP c2]
  by_cases c3:o=48
  .rw [zP c3]
   exact ⟨o,A,0,0,k-12,rfl,fin 7 _ _ _ _ (by subst c3;rfl) ⟨by omega,by omega,by omega,by omega,by show (-32768:Int)<=_;omega,by show _<=(32767:Int);omega,by omega,by omega,by omega⟩,by omega,by omega,rfl⟩
  .rw [zN c3]
   exact ⟨o,A,B,0,k-12,rfl,fin 3 _ _ _ _ (by unfold QaV;rw [zN (by omega),zP (by omega)]) ⟨by omega,by omega,by omega,by omega,by show (-32768:Int)<=_;omega,by show _<=(32767:Int);omega,by omega,by omega,by omega⟩,by omega,by omega,rfl⟩
 rw [zN c2]
 by_cases c4:o=16\/o=23\/32<=o/\o<=36\/o=49
 .rw [zP c4]
  exact ⟨o,A,B,0,8*k-32,rfl,fin 3 _ _ _ _ (by unfold QaV;rw [zN (by omega),zP (by omega)]) ⟨by omega,by omega,by omega,by omega,by show (-32768:Int)<=_;omega,by show _<=(32767:Int);omega,by omega,by omega,by omega⟩,by omega,by omega,rfl⟩
 rw [zN c4]
 by_cases c5:o=24
 .rw [zP c5]
  exact ⟨o,A,0,0,kz,rfl,fin 6 _ _ _ _ (by subst c5;rfl) ⟨by omega,by omega,by omega,by omega,by show (0:Int)<=_;omega,by show _<=(65535:Int);omega,by omega,by omega,by omega⟩,by omega,by omega,rfl⟩
 rw [zN c5]
 by_cases c6:17<=o/\o<=22
 .rw [zP c6]
  by_cases c7:o<=19
  .exact ⟨o,A,B,0,k,rfl,fin 4 _ _ _ _ (by unfold QaV;rw [zN (by omega),zN (by omega),zP (by omega)]) ⟨by omega,by omega,by omega,by omega,by show (0:Int)<=_;omega,by show _<=(65535:Int);omega,by omega,by omega,by omega⟩,by omega,by omega,rfl⟩
  .exact ⟨o,A,B,0,k,rfl,fin 5 _ _ _ _ (by unfold QaV;rw [zN (by omega),zN (by omega),zN (by omega),zP (by omega)]) ⟨by omega,by omega,by omega,by omega,by show (0:Int)<=_;omega,by show _<=(31:Int);omega,by omega,by omega,by omega⟩,by omega,by omega,rfl⟩
 rw [zN c6]
 by_cases c8:o=58\/o=59
 .rw [zP c8]
  exact ⟨o,A,0,0,k%8,rfl,fin 8 _ _ _ _ (by rcases c8 with rfl|rfl<;>rfl) ⟨by omega,by omega,by omega,by omega,by show (0:Int)<=_;omega,by show _<=(7:Int);omega,by omega,by omega,by omega⟩,by omega,by omega,rfl⟩
 rw [zN c8]
 by_cases c9:o=60\/o=61
 .rw [zP c9]
  exact ⟨o,A,0,0,k%12,rfl,fin 9 _ _ _ _ (by rcases c9 with rfl|rfl<;>rfl) ⟨by omega,by omega,by omega,by omega,by show (0:Int)<=_;omega,by show _<=(11:Int);omega,by omega,by omega,by omega⟩,by omega,by omega,rfl⟩
 rw [zN c9]
 exact ⟨o,0,0,0,0,rfl,fin 1 _ _ _ _ (by
  have:o=56\/o=57\/o=62\/o=63\/o=64:=by omega
  rcases this with rfl|rfl|rfl|rfl|rfl<;>rfl) ⟨by omega,by omega,by omega,by omega,by decide,by decide,by omega,by omega,by omega⟩,by omega,by omega,rfl⟩
def QAv:List SV->Nat
 | [.int _ o,.int _ a,.int _ b,.int _ c,.int _ m]=>(QvF o a b c m).toNat
 | _=>0
theorem Qpy (n:Int):FN 33 [.agg (QfP n)] [] (. =⟨.tup [.s (.u (QAv (QfP n):Nat)),.s (.bool true)],[],[]⟩)/\QAv (QfP n)<4294967296/\∃ o a b c m:Int,QfP n=iv o a b c m:=by
 obtain ⟨o,a,b,c,m,h1,h2,h3,h4,_⟩:=Qx1 n;have he:=QBv h2;have e:QAv (QfP n)=(QvF o a b c m).toNat:=by rw [h1];rfl
 rw [e,h1,Int.toNat_of_nonneg he.1];exact ⟨Qpz o a b c m ⟨h3,h4⟩ h2,by omega,o,a,b,c,m,rfl⟩
theorem QID (w:Nat) (hw:ZU w):IntKind.i64.wrap ((w:Int) / 2^min (Int.toNat 24) IntKind.u32.bits)=dOp w:=by
 rw [show (2:Int)^min (Int.toNat 24) IntKind.u32.bits=16777216 from rfl,Qb4 (by omega) (by omega)];unfold dOp;simp only [Nat.reducePow];omega
theorem e_a (w:Nat) (hw:ZU w):bits .and .u32 ((w:Int) / 2^min (Int.toNat 20) IntKind.u32.bits) 15=dA w:=QeK w 20 4 hw (by omega) (by omega)
theorem e_b (w:Nat) (hw:ZU w):bits .and .u32 ((w:Int) / 2^min (Int.toNat 16) IntKind.u32.bits) 15=dB w:=QeK w 16 4 hw (by omega) (by omega)
theorem e_i (w:Nat) (hw:ZU w):bits .and .u32 (w:Int) 65535=((dI w:Nat):Int):=by
 have:=Qbm w 16 hw (by omega);unfold dI;rw [Nat.pow_zero,Nat.div_one];exact this
theorem Qmh (w:Int) (l:Int):w / 2^min l.toNat IntKind.u32.bits=w / 2^min l.toNat IntKind.u32.bits:=rfl
theorem QIE (x:Nat) (hx:x<65536):IntKind.i32.wrap (IntKind.i16.wrap (x:Int))=sx x:=by
 have e:IntKind.i16.wrap (x:Int)=sx x:=by
  unfold IntKind.wrap sx;simp only [IntKind.signed,IntKind.bits,Bool.true_and,zde]
  by_cases h:x<32768
  .rw [zP h,zN (by simp;omega)];omega
  .rw [zN h,zP (by simp;omega)];omega
 rw [e];have: -32768<=sx x/\sx x<=32767:=by unfold sx;split<;>omega
 exact QDf (by omega) (by omega)
theorem Qqp (o:Int):0<=QaV o/\QaV o<=9:=by
 unfold QaV
 repeat' split
 all_goals omega
theorem Qqo (o:Int) (h:QaV o=0):QcX o=false:=by
 unfold QcX Qsp;rw [Bool.or_eq_false_iff,decide_eq_false_iff_not,decide_eq_false_iff_not];unfold QaV at h;constructor
 .intro h1
  repeat' split at h
  all_goals omega
 .intro h1
  repeat' split at h
  all_goals omega
theorem QCO (w:Nat) (hw:ZU w) (hF:QaV (dOp w)≠0):rvV (dOp w) (dA w) (dB w) (dC w) (dM w)=dOk w:=by
 have ho:=Qf2 hF;obtain ⟨u0,u1,u2,u3,u4,u5⟩:=Qmo (dOp w).toNat (by omega) (by rw [Int.toNat_of_nonneg (by omega)];exact hF);rw [Int.toNat_of_nonneg (by omega)] at u0 u1 u2 u3 u4 u5;have ha:0<=dA w/\dA w<=15:=by unfold dA;simp only [Nat.reducePow];omega
 have hb:0<=dB w/\dB w<=15:=by unfold dB;simp only [Nat.reducePow];omega
 have fF:0<=dC w:=by unfold dC;split<;>omega
 have FR:QaV (dOp w)≠2->dC w=0:=fun h=>by unfold dC;rw [u3,zN (by simp [h])]
 have hr:=Qqp (dOp w);unfold rvV dOk QfJ;rw [u0,u1,u2,u3,u4,u5,Bool.true_and,zbi];generalize QaV (dOp w)=F,dA w=a,dB w=b,dC w=c,dM w=m at *;generalize loV F=lo,hiV F=hi at *;clear u0 u1 u2 u3 u4 u5;have hcs:F=1\/F=2\/(3<=F/\F<=5)\/6<=F:=by omega
 simp only [zba,zde,Bool.true_and];rcases hcs with h|h|h|h
 .subst h
  have:=FR (by omega);subst this;simp only [show ((1:Int)==1)=true from rfl,show ((1:Int)==2)=false from rfl,Bool.not_true,QmI,beq_iff_eq,show decide ((2:Int)<=1/\(1:Int)<=5)=false from rfl,Decidable.imp_iff_not_or,true_or,or_true,true_and,and_true,not_true_eq_false,false_or];omega
 .subst h
  simp only [show ((2:Int)==1)=false from rfl,show ((2:Int)==2)=true from rfl,Bool.not_false,QmI,zba,zde,show decide ((2:Int)<=2/\(2:Int)<=5)=true from rfl,Decidable.imp_iff_not_or,true_or,or_true,true_and,and_true,not_true_eq_false,false_or];omega
 .have:=FR (by omega)
  subst this;have e1:(F==1)=false:=by simp;omega
  have e2:(F==2)=false:=by simp;omega
  have e3:decide ((2:Int)<=F/\F<=5)=true:=zdt (by omega);simp only [e1,e2,e3,Bool.not_false,QmI,zba,zde,beq_iff_eq,Decidable.imp_iff_not_or,true_or,or_true,true_and,and_true,not_true_eq_false,false_or];omega
 .have:=FR (by omega)
  subst this;have e1:(F==1)=false:=by simp;omega
  have e2:(F==2)=false:=by simp;omega
  have e3:decide ((2:Int)<=F/\F<=5)=false:=zdf (by omega);simp only [e1,e2,e3,Bool.not_false,QmI,zba,zde,beq_iff_eq,Decidable.imp_iff_not_or,true_or,or_true,true_and,and_true,not_true_eq_false,false_or];omega
theorem Qru (w:Nat) (hw:ZU w):FN 88 [.s (.u w)] [] (. =⟨.tup [.agg (iv (kz (dOk w) (dOp w)) (kz (dOk w) (dA w)) (kz (dOk w) (dB w)) (kz (dOk w) (dC w)) (kz (dOk w) (dM w))),.s (.bool (dOk w))],[],[]⟩):=by
 have hf:=Qqn (dOp w);have w1:=QID w hw;have w2:=e_a w hw;have w3:=e_b w hw;have w4:=e_i w hw;have ha:0<=dA w/\dA w<=15:=by unfold dA;simp only [Nat.reducePow];omega
 have fX:0<=dB w/\dB w<=15:=by unfold dB;simp only [Nat.reducePow];omega
 have w5:IntKind.i64.wrap (dA w)=dA w:=Qb4 (by omega) (by omega);have w6:IntKind.i64.wrap (dB w)=dB w:=Qb4 (by omega) (by omega);have hIl:dI w<65536:=by unfold dI;simp only [Nat.reducePow];omega
 by_cases hF:QaV (dOp w)=0
 .have hd:dOk w=false:=by unfold dOk;rw [Qqo _ hF];rfl
  rw [hF] at hf;rw [hd];generalize dOp w=o,dA w=a,dB w=b at *;refine fnW Tryz.func88 ?_;(conv=>whnf);(repeat' ((first|exact zi0|refine zj0 fun hb=>?_|(with_reducible first|refine zv (Qmh _ _) ?_|refine zv w1 ?_|refine zv w2 ?_|refine zv w3 ?_|refine zv w5 ?_|refine zv w6 ?_)|(refine Qad (f:=68) (hf) rfl ?_)|refine zs0 ?_|refine zbb ?_ ?_)<;>conv=>whnf))
  all_goals first|exact Qam rfl rfl
 .have ho:=Qf2 hF
  obtain ⟨u0,u1,u2,u3,u4,u5⟩:=Qmo (dOp w).toNat (by omega) (by rw [Int.toNat_of_nonneg (by omega)];exact hF);rw [Int.toNat_of_nonneg (by omega)] at u3 u4
  have hm: -32768<=dM w/\dM w<=65535:=by
   unfold dM sx
   repeat' split
   all_goals omega
  have hval:=Qj6 (dOp w) (dA w) (dB w) (dC w) (dM w) (by omega);rw [QCO w hw hF] at hval;have VR:QaV (dOp w)=2->dC w=((dI w:Nat):Int)/\dM w=0:=fun h=>by unfold dC dM;rw [u3,zP (by simp [h]),zP (by simp [h])];exact ⟨rfl,rfl⟩
  have ZA:QaV (dOp w)=3\/QaV (dOp w)=7->dC w=0/\dM w=sx (dI w):=fun h=>by
   have e1:loV (QaV (dOp w))= -32768:=by unfold loV;rw [zP h]
   unfold dC dM;rw [u3,zN (by simp;omega),zN (by simp;omega),u4,e1,zP (by omega)];exact ⟨rfl,rfl⟩
  have ZB:QaV (dOp w)≠2->QaV (dOp w)≠3->QaV (dOp w)≠7->dC w=0/\dM w=((dI w:Nat):Int):=fun h h3 h7=>by
   have e1:loV (QaV (dOp w))=0:=by unfold loV;rw [zN (by omega)]
   unfold dC dM;rw [u3,zN (by simp [h]),zN (by simp [h]),u4,e1,zN (by omega)];exact ⟨rfl,rfl⟩
  have w7:IntKind.i64.wrap ((dI w:Nat):Int)=((dI w:Nat):Int):=Qb4 (by omega) (by omega);have w8:IntKind.i32.wrap (IntKind.i16.wrap ((dI w:Nat):Int))=sx (dI w):=QIE _ hIl;have w9:IntKind.i32.wrap ((dI w:Nat):Int)=((dI w:Nat):Int):=QDf (by omega) (by omega);have k16:IntKind.i16.wrap ((dI w:Nat):Int)=IntKind.i16.wrap ((dI w:Nat):Int):=rfl;have hcase:QaV (dOp w)=2\/(QaV (dOp w)=3\/QaV (dOp w)=7)\/(QaV (dOp w)≠2/\QaV (dOp w)≠3/\QaV (dOp w)≠7):=by omega
  rcases hcase with h|h|h
  .obtain ⟨q1,q2⟩:=VR h
   rw [q1,q2] at hval |-;clear VR ZA ZB u0 u1 u2 u3 u4 u5 q1 q2 hm ho;generalize QaV (dOp w)=F,dOk w=ok at *;generalize dOp w=o,dA w=a,dB w=b,dI w=I at *;cases ok
   all_goals
    refine fnW Tryz.func88 ?_;(conv=>whnf);(repeat' ((first|exact zi0|refine zj0 fun hb=>?_|(with_reducible first|refine zv (Qmh _ _) ?_|refine zv w1 ?_|refine zv w2 ?_|refine zv w3 ?_|refine zv w4 ?_|refine zv w5 ?_|refine zv w6 ?_|refine zv w7 ?_)|(refine Qad (f:=68) (hf) rfl ?_)|(refine Qad (f:=67) (hval) rfl ?_)|refine zs0 ?_|refine zbb ?_ ?_)<;>conv=>whnf))
    all_goals first|exact Qam rfl rfl
  .obtain ⟨q1,q2⟩:=ZA h
   rw [q1,q2] at hval |-;clear VR ZA ZB u0 u1 u2 u3 u4 u5 q1 q2 hm ho;generalize QaV (dOp w)=F,dOk w=ok at *;generalize dOp w=o,dA w=a,dB w=b,sx (dI w)=S at *;generalize dI w=I at *;cases ok
   all_goals
    refine fnW Tryz.func88 ?_;(conv=>whnf);(repeat' ((first|exact zi0|refine zj0 fun hb=>?_|(with_reducible first|refine zv (Qmh _ _) ?_|refine zv w1 ?_|refine zv w2 ?_|refine zv w3 ?_|refine zv w4 ?_|refine zv w5 ?_|refine zv w6 ?_|refine zv k16 ?_|refine zv w8 ?_)|(refine Qad (f:=68) (hf) rfl ?_)|(refine Qad (f:=67) (hval) rfl ?_)|refine zs0 ?_|refine zbb ?_ ?_)<;>conv=>whnf))
    all_goals first|exact Qam rfl rfl
  .obtain ⟨q1,q2⟩:=ZB h.1 h.2.1 h.2.2
   rw [q1,q2] at hval |-;clear VR ZA ZB u0 u1 u2 u3 u4 u5 q1 q2 hm ho;generalize QaV (dOp w)=F,dOk w=ok at *;generalize dOp w=o,dA w=a,dB w=b,dI w=I at *;cases ok
   all_goals
    refine fnW Tryz.func88 ?_;(conv=>whnf);(repeat' ((first|exact zi0|refine zj0 fun hb=>?_|(with_reducible first|refine zv (Qmh _ _) ?_|refine zv w1 ?_|refine zv w2 ?_|refine zv w3 ?_|refine zv w4 ?_|refine zv w5 ?_|refine zv w6 ?_|refine zv w9 ?_)|(refine Qad (f:=68) (hf) rfl ?_)|(refine Qad (f:=67) (hval) rfl ?_)|refine zs0 ?_|refine zbb ?_ ?_)<;>conv=>whnf))
    all_goals first|exact Qam rfl rfl
def mv (o a b c k n:Int):List SV:= [.i o,.i a,.i b,.i c,.u k,.i n]
def trK (o m:Int):Int:=if o=24 then m%4294967296*65536%4294967296 else if 40<=o/\o<=45\/o=48 then m%4294967296*4%4294967296 else m%4294967296
theorem QGA (x:Int):IntKind.u32.wrap (x*2^min ((16:Int)).toNat IntKind.u32.bits)=x*65536%4294967296:=by
 rw [show (2:Int)^min ((16:Int)).toNat IntKind.u32.bits=65536 from rfl];exact Qch _
theorem Qkl (o a b c m:Int):FN 124 [.agg (iv o a b c m)] [] (. =⟨.a (.agg (mv o a b c (trK o m) 1)),[],[]⟩):=by
 refine fnW Tryz.func124 ?_;unfold iv;(conv=>whnf);(repeat' ((first|exact zi0|refine zj0 fun hb=>?_|((with_reducible apply Vl.mk (α:=Int)); . first|exact QGA _|exact Qch _)|refine zs0 ?_|refine zbb ?_ ?_)<;>conv=>whnf))
 all_goals
  refine Qam rfl ?_;simp only [Qbc,mv]
  (try subst hb)
  first
   | rfl
   | (congr 5;simp only [trK];(try rw [zN (by omega),zP (by omega)]);(try rw [zN (by omega),zN (by omega)]))
theorem Qx2 (ad ln o a b c k n:Int) (cs:List SV) (q:Nat) (hq:q<=1000) (hc:cs.length=q*6) (hs:Qao cs=true) (h0: -1000000<=ln) (h1:ln<=1000000) (h2: -1000000<=n) (h3:n<=1000000) :
  FN 123 [.agg [.u ad,.i ln,.sl 0 0 q],.s (.sl 1 0 1)] [⟨true,6,cs⟩,⟨true,6,[.i o,.i a,.i b,.i c,.u k,.i n]⟩]
   (. =⟨.a (.agg [.u ad,.i (ln+n),.sl 2 0 (q+1)]),[(0,none),(1,none)],[⟨true,6,cs++ [.i o,.i a,.i b,.i c,.u k,.i n]⟩]⟩):=by
 refine fnW Tryz.func123 ?_;have gO:Qao (cs++ [.i o,.i a,.i b,.i c,.u k,.i n])=true:=Qa2 hs rfl;(conv=>whnf);(repeat' ((first|exact zi0|refine zj0 fun hb=>?_|(refine Lp.unroll 2 ?_)|(apply Sd.mk; . exact ⟨rfl,rfl,hc,by show (q+1)*48<=_;omega,by omega⟩)|refine zs0 ?_|refine zbb ?_ ?_)<;>conv=>whnf))
 all_goals (exact Qkt)
def bM (w:Nat):Mi:=⟨dOp w,(dA w).toNat,(dB w).toNat,(dC w).toNat,(trK (dOp w) (dM w)).toNat,1⟩
theorem Qsk (o m:Int):0<=trK o m/\trK o m<4294967296:=by
 unfold trK
 repeat' split
 all_goals omega
theorem QBo (w:Nat) (hw:ZU w):0<=dOp w/\dOp w<=255/\0<=dA w/\dA w<=15/\0<=dB w/\dB w<=15/\0<=dC w/\dC w<=65535/\ -32768<=dM w/\dM w<=65535:=by
 unfold dOp dA dB dC dM sx;have:dI w<65536:=by unfold dI;simp only [Nat.reducePow];omega
 simp only [Nat.reducePow];refine ⟨by omega,by omega,by omega,by omega,by omega,by omega,?_,?_,?_,?_⟩
 all_goals
  repeat' split
  all_goals omega
theorem QIz (w:Nat) (hw:ZU w):(bM w).C=mv (dOp w) (dA w) (dB w) (dC w) (trK (dOp w) (dM w)) 1:=by
 have h:=QBo w hw;have h2:=Qsk (dOp w) (dM w);unfold bM mv;simp only [Mi.C];generalize trK (dOp w) (dM w)=T at *;rw [Int.toNat_of_nonneg h.2.2.1,Int.toNat_of_nonneg h.2.2.2.2.1,Int.toNat_of_nonneg h.2.2.2.2.2.2.1,Int.toNat_of_nonneg h2.1]
def bl (xs:List Nat):Nat->Nat->List Mi
 | 0,_=> []
 | f+1,q=>if dOk (xs.getD q 0)=true then (if Qco (dOp (xs.getD q 0))=true then [bM (xs.getD q 0)] else bM (xs.getD q 0)::bl xs f (q+1)) else []
theorem Qvu (xs:List Nat):∀ f q,(bl xs f q).length<=f
 | 0,_=>Nat.le_refl _
 | f+1,q=>by
  have:=Qvu xs f (q+1);unfold bl
  repeat' split
  all_goals simp
  omega
def lmt (a:Nat) (s:Int):Nat:=(min (min s 16) (32-(a:Int)%128 / 4)).toNat
def bok (n a:Nat) (s:Int):Bool:=decide (1<=s)&&ld4 n a
def blA (n a:Nat) (s:Int):Nat:=if bok n a s=true then a else 0
def blL (xs:List Nat) (n a:Nat) (s:Int):List Mi:=if bok n a s=true then bl xs (lmt a s) (a / 4) else []
def QEM (LL:List SV) (n a:Nat) (lim:Int) (j:Nat) (R:List SV):St :=
 ⟨[(0,.a (.s (.sl 0 0 n))),(1,.a (.s (.u a))),(9,.a (.s (.ptr 1 0))),(10,.a (.s (.i lim))),(6,.a (.s (.ptr 2 0)))],
  [(0,some ⟨false,1,LL⟩),(1,some ⟨true,1,[.u a,.i j,.sl 3 0 j]⟩),(2,some ⟨true,1,[.u 0,.i 0,.nilsl]⟩),(3,some ⟨true,6,R⟩)],[0]⟩
theorem Qnu (w:Nat) (hw:ZU w) (h:dOk w=true):FN 122 [.s (.u w)] [] (. =⟨.tup [.agg (iv (dOp w) (dA w) (dB w) (dC w) (dM w)),.s (.bool true)],[],[]⟩):=by
 exact Qu9
theorem Qnt (w:Nat) (hw:ZU w) (h:dOk w=false):FN 122 [.s (.u w)] [] (. =⟨.tup [.agg (iv 0 0 0 0 0),.s (.bool false)],[],[]⟩):=by
 exact Qu9
theorem Qs5 (xs:List Nat) (n a:Nat) (s:Int) (hl:xs.length=n) (hn:ZU n) (ha:ZU a) (h:bok n a s=false):FN 62 [.s (.sl 0 0 n),.s (.u a),.s (.i s)] [⟨false,1,wsv xs⟩] (. =⟨.a (.agg [.u 0,.i 0,.sl 1 0 0]),[],[⟨true,6,[]⟩]⟩):=by
 have qU:=Qf8 xs n a hl hn ha
 have h3:1<=s->a%4=0->ld4 n a=false:=fun h1 h2=>by
  unfold bok at h;rw [zdt h1,Bool.true_and] at h;exact h
 clear h;have fK:=Qaa xs;generalize (if ld4 n a then xs.getD (a / 4) 0 else 0:Nat)=W,wsv xs=LL at *
 by_cases h1:1<=s/\a%4=0
 .rw [h3 h1.1 h1.2] at qU
  refine fnW Tryz.func62 ?_;(repeat' ((conv=>whnf);first|exact zi0|refine zj0 fun hb=>?_|(refine Qag (f:=117) qU [⟨0,0⟩] [(0,⟨false,1,LL⟩)] rfl ⟨rfl,trivial⟩ ⟨rfl,Qap fK,trivial⟩ ⟨rfl,Qbp⟩ ?_)|refine zs0 ?_|refine zbb ?_ ?_))
  all_goals exact Qoi
 .refine fnW Tryz.func62 ?_
  (repeat' ((conv=>whnf);first|exact zi0|refine zj0 fun hb=>?_|refine zs0 ?_|refine zbb ?_ ?_))
  all_goals exact Qoi
theorem Qs6 (xs:List Nat) (n a:Nat) (s:Int) (hl:xs.length=n) (hn:ZU n) (ha:ZU a) (hY:ZL xs) (h:bok n a s=true) (l:List Mi) (hL:bl xs (lmt a s) (a / 4)=l) (K:Nat) (hK:l.length=K):FN 62 [.s (.sl 0 0 n),.s (.u a),.s (.i s)] [⟨false,1,wsv xs⟩] (. =⟨.a (.agg [.u a,.i K,.sl 1 0 K]),[],[⟨true,6,mcs l⟩]⟩):=by
 have hb2:1<=s/\ld4 n a=true:=by unfold bok at h;simpa using h
 have gY:a%4=0/\a+4<=mpg n*128:=by
  have:=hb2.2;unfold ld4 at this;simpa using this
 have qU:=Qf8 xs n a hl hn ha;rw [hb2.2] at qU;generalize (if true then xs.getD (a / 4) 0 else 0:Nat)=W at *;have hro:=QrE a ha;have fK:=Qaa xs;obtain ⟨lim,qO⟩:∃ k,lmt a s=k:=⟨_,rfl⟩;have GV:1<=lim/\lim<=16/\(lim:Int)<=32-(a:Int)%128 / 4:=by rw [<- qO];unfold lmt;omega
 have zQ:Qot s [16,32-(a:Int)%128 / 4]=(lim:Int):=by
  rw [<- qO];unfold lmt;simp only [Qot,QAC]
  repeat' split
  all_goals omega
 rw [qO] at hL
 have HY:∀ j:Nat,j<lim->ld4 n (a+4*j)=true/\a+4*j<4294967296/\(a+4*j) / 4=a / 4+j:=fun j hj=>by
  have hm:=QaT n;unfold ld4;rw [zdt (by omega),zdt (by omega)];exact ⟨rfl,by omega,by omega⟩
 have uD:∀ j:Nat,j<lim->FN 117 [.s (.sl 0 0 n),.s (.u (a+4*j:Nat)),.s (.i 4)] [⟨false,1,wsv xs⟩] (. =⟨.tup [.s (.u (xs.getD (a / 4+j) 0:Nat)),.s (.bool true)],[],[]⟩):=fun j hj=>by
  obtain ⟨g1,g2,g3⟩:=HY j hj;have:=Qcb xs n (a+4*j) hl hn g2 g1;rw [g3] at this;exact this
 have zS:∀ j,xs.getD j 0<4294967296:=fun j=>by
  by_cases hj:j<xs.length
  .rw [zgd,zgg hj];exact hY _ (List.getElem_mem hj)
  .rw [zgd,List.getElem?_eq_none (by omega)];simp
 generalize wsv xs=LL at *;refine fnW Tryz.func62 ?_;(conv=>whnf);(repeat' ((first|exact zi0|refine zj0 fun hb=>?_|(refine Qag (f:=117) qU [⟨0,0⟩] [(0,⟨false,1,LL⟩)] rfl ⟨rfl,trivial⟩ ⟨rfl,Qap fK,trivial⟩ ⟨rfl,Qbp⟩ ?_)|(refine Qad (f:=121) (hro) rfl ?_)|(with_reducible refine zv zQ ?_)|refine zs0 ?_|refine zbb ?_ ?_)<;>conv=>whnf))
 refine Lp.inv (fun mm σ=>∃ (j:Nat) (R:List Mi),mm+j=lim/\R.length=j/\R++bl xs mm (a / 4+j)=l/\σ=QEM LL n a lim j (mcs R)) ?_ ?_
 .refine ⟨lim,QEM LL n a lim 0 [],?_,0,[],by omega,rfl,hL,rfl⟩
  apply Qcg (m:= [(0,some 0),(1,some 327808),(2,some 65536),(3,none)])
  .repeat' (first|exact QaY|apply QaN)
   all_goals exact QfT
  .show HlS _ _ [] _
   refine Qas (Qan rfl rfl rfl rfl (Qaj fK)) ?_;refine Qas (Qan rfl rfl rfl rfl (.cons (QaK rfl) (.cons (QaK rfl) (.cons (QeZ rfl) .nil)))) ?_;refine Qas (Qan rfl rfl rfl rfl (Qaj rfl)) ?_;refine Qas (QcU rfl rfl) ?_;exact QaL
  .rfl
 .rintro mm σ ⟨j,R,yT,hRj,hinv,rfl⟩
  unfold QEM;clear qU hro zQ
  by_cases hj:j<lim
  .have uO:=uD j hj
   have g:=HY j hj;have hw:=zS (a / 4+j)
   have gN:bl xs mm (a / 4+j)=if dOk (xs.getD (a / 4+j) 0)=true then (if Qco (dOp (xs.getD (a / 4+j) 0))=true then [bM (xs.getD (a / 4+j) 0)] else bM (xs.getD (a / 4+j) 0)::bl xs (mm-1) (a / 4+j+1)) else []:=by
    obtain ⟨f,rfl⟩:∃ f,mm=f+1:=⟨mm-1,by omega⟩;rfl
   have hC:=QIz (xs.getD (a / 4+j) 0) hw;have e3:IntKind.u32.wrap ((a:Int)+4*(j:Int))=((a+4*j:Nat):Int):=Qfu;rw [gN] at hinv;clear uD HY zS gN h;generalize xs.getD (a / 4+j) 0=w at *;have vT:=Qbb R;have VZ:=QcK R
   cases hd:dOk w with
   | false =>
    have cde:=Qnt w hw hd;have e4:=e3;rw [hd,zN (by simp),List.append_nil] at hinv;subst hinv;have YB:K=j:=by omega
    subst YB;generalize mcs R=RR at *;(conv=>whnf);(repeat' ((first|exact zi0|refine zj0 fun hb=>?_|(with_reducible refine zv e3 ?_)|(refine Qag (f:=117) uO [⟨0,0⟩] [(0,⟨false,1,LL⟩)] rfl ⟨rfl,trivial⟩ ⟨rfl,Qap fK,trivial⟩ ⟨rfl,Qbp⟩ ?_)|(refine Qad (f:=122) (cde) rfl ?_)|refine zs0 ?_|refine zbb ?_ ?_)<;>conv=>whnf))
    all_goals first|(apply Fin.mk (m:= [(0,some 0),(1,some 3)]);(focus exact rfl);(all_goals ((try (show HlS _ _ [] _));first|(exact aFi)|exact rfl)))
   | true =>
    have cde:=Qnu w hw hd;have e4:=e3;rw [hd,zP rfl] at hinv;have ctr:=Qkl (dOp w) (dA w) (dB w) (dC w) (dM w);have cen:=QpA (dOp w);have UA:=Qx2 a j (dOp w) (dA w) (dB w) (dC w) (trK (dOp w) (dM w)) 1 (mcs R) j (by omega) (by rw [VZ,hRj]) vT (by omega) (by omega) (by omega) (by omega)
    have jH:mcs R++ [.i (dOp w),.i (dA w),.i (dB w),.i (dC w),.u (trK (dOp w) (dM w)),.i 1]=mcs (R++ [bM w]):=by
     rw [Qlh];show _=mcs R++((bM w).C++ []);rw [hC,List.append_nil];rfl
    rw [jH,show (j:Int)+1=((j+1:Nat):Int) by omega] at UA;have jX:=Qbb (R++ [bM w]);clear jH hC;generalize bM w=M,trK (dOp w) (dM w)=T at *;generalize dOp w=o,dA w=A,dB w=B,dC w=C,dM w=I at *
    cases hE:Qco o with
    | true =>
     rw [hE] at cen;rw [hE,zP rfl] at hinv;rw [hinv] at UA jX;have YB:K=j+1:=by rw [<- hK,<- hinv];simp;omega
     subst YB;generalize mcs R=RR,mcs l=LM at *;(conv=>whnf);(repeat' ((first|exact zi0|refine zj0 fun hb=>?_|(with_reducible refine zv e3 ?_)|(refine Qag (f:=117) uO [⟨0,0⟩] [(0,⟨false,1,LL⟩)] rfl ⟨rfl,trivial⟩ ⟨rfl,Qap fK,trivial⟩ ⟨rfl,Qbp⟩ ?_)|(refine Qad (f:=122) (cde) rfl ?_)|(refine Qad (f:=124) (ctr) rfl ?_)|(refine Qad (f:=125) (cen) rfl ?_)|(refine Qag (f:=123) UA [⟨3,0⟩,⟨_,0⟩] [(3,⟨true,6,RR⟩),(_,⟨true,6,_⟩)] rfl ⟨rfl,rfl,trivial⟩ ⟨rfl,QaE vT rfl,rfl,QaE rfl rfl,trivial⟩ ⟨rfl,by simp⟩ ?_)|refine zs0 ?_|refine zbb ?_ ?_)<;>conv=>whnf))
     all_goals exact QbJ
    | false =>
     rw [hE] at cen;rw [hE,zN (by simp)] at hinv;have WN:(R++ [M])++bl xs (mm-1) (a / 4+(j+1))=l:=by rw [<- hinv,List.append_assoc];rfl
     generalize FG:R++ [M]=R2 at *;have wX:R2.length=j+1:=by rw [<- FG];simp;omega
     generalize mcs R=RR at *;generalize hRM:mcs R2=RM at *;(conv=>whnf);(repeat' ((first|exact zi0|refine zj0 fun hb=>?_|(with_reducible refine zv e3 ?_)|(refine Qag (f:=117) uO [⟨0,0⟩] [(0,⟨false,1,LL⟩)] rfl ⟨rfl,trivial⟩ ⟨rfl,Qap fK,trivial⟩ ⟨rfl,Qbp⟩ ?_)|(refine Qad (f:=122) (cde) rfl ?_)|(refine Qad (f:=124) (ctr) rfl ?_)|(refine Qad (f:=125) (cen) rfl ?_)|(refine Qag (f:=123) UA [⟨3,0⟩,⟨_,0⟩] [(3,⟨true,6,RR⟩),(_,⟨true,6,_⟩)] rfl ⟨rfl,rfl,trivial⟩ ⟨rfl,QaE vT rfl,rfl,QaE rfl rfl,trivial⟩ ⟨rfl,by simp⟩ ?_)|refine zs0 ?_|refine zbb ?_ ?_)<;>conv=>whnf))
     all_goals first
      | (
        refine ⟨mm-1,QEM LL n a lim (j+1) RM,by omega,?_,j+1,R2,by omega,wX,WN,by rw [hRM];rfl⟩;apply Qcg (m:= [(0,some 0),(1,some 1),(2,some 2),(3,some 327936)])
        .repeat' (first|exact QaY|apply QaN)
         all_goals exact QfT
        .show HlS _ _ [] _
         refine Qas (Qan rfl rfl rfl rfl (Qaj fK)) ?_;refine Qas (Qan rfl rfl rfl rfl (.cons (QaK rfl) (.cons (QaK rfl) (.cons (QcC rfl) .nil)))) ?_;refine Qas (Qan rfl rfl rfl rfl (Qaj rfl)) ?_;refine Qas (Qan rfl rfl rfl rfl (Qaj jX)) ?_;exact QaL
        .rfl
        )
  .have FW:mm=0:=by omega
   subst FW;have hinv2:R=l:=by rw [<- hinv];show R=R++ [];rw [List.append_nil]
   subst hinv2;have YB:K=j:=by omega
   subst YB;have vT:=Qbb R;generalize mcs R=RR at *;(conv=>whnf);(repeat' ((first|exact zi0|refine zj0 fun hb=>?_|refine zs0 ?_|refine zbb ?_ ?_)<;>conv=>whnf))
   all_goals first|(apply Fin.mk (m:= [(0,some 0),(1,some 3)]);(focus exact rfl);(all_goals ((try (show HlS _ _ [] _));first|(exact aFi)|exact rfl)))
theorem QBs (w:Nat) (hw:ZU w) (h:dOk w=true):dC w<=15/\QcX (dOp w)=true:=by
 unfold dOk at h;rw [zba] at h;refine ⟨?_,h.1⟩;have h2:=h.2;unfold QfJ at h2;simp only [zba] at h2;have h3:=h2.1.1.2
 cases hu:Qsq (dOp w) with
 | false=>unfold dC;rw [hu];simp
 | true =>
  rw [hu] at h3;unfold QmI at h3;simp only [zba,zde] at h3;exact h3.2
theorem QwJ (w:Nat) (hw:ZU w) (h:dOk w=true):Qbq (bM w):=by
 have hd:=QBo w hw;have hc:=(QBs w hw h).1;have ht:=Qsk (dOp w) (dM w);unfold Qbq bM;dsimp only;generalize trK (dOp w) (dM w)=T at *;omega
theorem QwN (xs:List Nat) (hw:∀ j,xs.getD j 0<4294967296):∀ f q,∀ m∈bl xs f q,Qbq m
 | 0,_,m,h=>by cases h
 | f+1,q,m,h=>by
  unfold bl at h;split at h
  .rename_i hd
   split at h
   .rw [List.mem_singleton] at h;subst h;exact QwJ _ (hw q) hd
   .rcases List.mem_cons.1 h with e|e
    .subst e;exact QwJ _ (hw q) hd
    .exact QwN xs hw f (q+1) m e
  .cases h
theorem Qvv (xs:List Nat) (hw:∀ j,xs.getD j 0<4294967296):∀ f q (s:Int),Qba ((bl xs f q).map Mi.z) s=some (s+(bl xs f q).length)
 | 0,_,s=>by show some s=some (s+0);rw [Int.add_zero]
 | f+1,q,s=>by
  unfold bl
  by_cases hd:dOk (xs.getD q 0)=true
  .have hok:=QwJ _ (hw q) hd
   have hu:=(QBs _ (hw q) hd).2;have hr:(bM (xs.getD q 0)).a<16/\(bM (xs.getD q 0)).b<16/\(bM (xs.getD q 0)).c<16:=⟨hok.1,hok.2.1,hok.2.2.1⟩;have hz:(bM (xs.getD q 0)).z.n=1:=rfl;rw [zP hd]
   by_cases he:Qco (dOp (xs.getD q 0))=true
   .rw [zP he,List.map_cons,Qba,zP ((QjN (bM (xs.getD q 0)) ([].map Mi.z).isEmpty hr).2 ⟨hu,by show (1:Int)<=1;omega,by show (1:Int)<=16;omega,.inl rfl⟩),hz,List.map_nil,Qba,List.length_singleton]
    congr 1
   .have KV:Qco (bM (xs.getD q 0)).o=false:=by
     show Qco (dOp (xs.getD q 0))=false;simpa using he
    rw [zN he,List.map_cons,Qba,zP ((QjN (bM (xs.getD q 0)) _ hr).2 ⟨hu,by show (1:Int)<=1;omega,by show (1:Int)<=16;omega,.inr KV⟩),hz,Qvv xs hw f (q+1)];congr 1;rw [List.length_cons];omega
  .rw [zN hd]
   show some s=some (s+0);rw [Int.add_zero]
theorem Qmp {xs:List Nat} (h:ZL xs) (j:Nat):xs.getD j 0<4294967296:=by
 exact Qz0
theorem Qja (xs:List Nat) (n a:Nat) (s:Int) (hY:ZL xs):(blL xs n a s).length<=16/\(∀ m∈blL xs n a s,Qbq m)/\((blL xs n a s).length≠0->Qe5 (blA n a s) (blL xs n a s).length ((blL xs n a s).map Mi.z)=true):=by
 unfold blL blA
 cases h:bok n a s with
 | false=>exact ⟨by simp,fun m hm=>by simp at hm,fun h0=>(h0 (by simp)).elim⟩
 | true =>
  rw [zP rfl,zP rfl];have hb2:1<=s/\ld4 n a=true:=by unfold bok at h;simpa using h
  have gY:a%4=0:=by
   have:=hb2.2;unfold ld4 at this;simp at this;exact this.1
  have hl:=Qvu xs (lmt a s) (a / 4);have hl2:lmt a s<=16/\(lmt a s:Int)<=32-(a:Int)%128 / 4:=by unfold lmt;omega
  refine ⟨by omega,QwN xs (Qmp hY) _ _,fun h0=>?_⟩;rw [Qgb];refine ⟨?_,?_⟩
  .unfold hdB;exact zdt (by omega)
  .rw [Qvv xs (Qmp hY)];simp
theorem QoW (xs:List Nat) (n a:Nat) (s:Int) (hl:xs.length=n) (hn:ZU n) (ha:ZU a) (hY:ZL xs) (K:Nat) (hK:(blL xs n a s).length=K) :
  FN 62 [.s (.sl 0 0 n),.s (.u a),.s (.i s)] [⟨false,1,wsv xs⟩] (. =⟨.a (.agg [.u (blA n a s:Nat),.i K,.sl 1 0 K]),[],[⟨true,6,mcs (blL xs n a s)⟩]⟩):=by
 unfold blL at hK |-;unfold blA
 cases h:bok n a s with
 | false=>rw [h] at hK;subst hK;exact Qs5 xs n a s hl hn ha h
 | true=>rw [h,zP rfl] at hK;exact Qs6 xs n a s hl hn ha hY h _ rfl K hK
theorem QtS (A:Nat) (hA:ZU A) (L:Int) (N:Nat) (M:List SV) (hs:Qao M=true):FN 92 [.agg [.u A,.i L,.sl 0 0 N]] [⟨false,6,M⟩] (. =⟨.a (.s (.i ((A / 128:Nat):Int))),[],[]⟩):=by
 have e1:(A:Int) / 128=((A / 128:Nat):Int):=by omega
 have e2:IntKind.i64.wrap ((A:Int) / 128)=((A / 128:Nat):Int):=QaS;refine fnW Tryz.func92 ?_;(repeat' ((conv=>whnf);first|exact zi0|refine zj0 fun hb=>?_|(with_reducible refine zv e2 ?_)|refine zs0 ?_|refine zbb ?_ ?_))
 all_goals exact Qb9
end Go.Proofs.YtpgkkfajljekpabGreat
