import Derived.Test.YtpgkkfajljekpaaGreatP13
set_option linter.unusedSimpArgs false
set_option linter.unusedVariables false
set_option maxHeartbeats 0
set_option maxRecDepth 100000
namespace Go.Proofs.YtpgkkfajljekpaaGreat
open Go Go.RowKit
def opsL:List Int:= [1,2,3,4,5,6,7,8,9,10,11,12,13,16,16,17,18,19,20,21,22,23,24,24,32,32,33,34,35,35,36,40,41,42,43,44,45,48,49,56,57,58,59,60,60,61,61,62,63,64]
theorem QCj:FN 97 [] [] (. =⟨.a (.s (.sl 0 0 50)),[],[⟨true,1,isv .i64 opsL⟩]⟩):=by
 refine fnW Tryz.func97 ?_;(repeat' ((conv=>whnf);first|exact zi0|(refine zj0 ?_;intro hb)|refine zs0 ?_|refine zbb ?_ ?_));all_goals (conv=>whnf)
 all_goals (exact QH1)
def io (n:Int):Int:=opsL.getD (mix n 1%50).toNat 0
def QAy (o:Int):Prop:=1<=o/\o<=13\/16<=o/\o<=24\/32<=o/\o<=36\/40<=o/\o<=45\/o=48\/o=49\/56<=o/\o<=64
instance (o:Int):Decidable (QAy o):=by unfold QAy;infer_instance
theorem QCk:∀ q:Nat,q<50->QAy (opsL.getD q 0):=by decide
theorem QBY (n:Int):QAy (io n):=QCk _ (by omega)
def ir (n:Int) (d:Int):Int:=mix n 1 / d%6
def ik (n:Int):Int:=mix n 1 / 1048576%24
def QfL (n:Int):List SV :=
 if io n<=13 then iv (io n) (ir n 256) (ir n 4096) (ir n 65536) 0
 else if 40<=io n/\io n<=48 then iv (io n) (ir n 256) (if io n=48 then 0 else ir n 4096) 0 (ik n-12)
 else if io n=16\/io n=23\/32<=io n/\io n<=36\/io n=49 then iv (io n) (ir n 256) (ir n 4096) 0 (8*ik n-32)
 else if io n=24 then iv (io n) (ir n 256) 0 0 (ik n*(mix n 1 / 1099511627776%2))
 else if 17<=io n/\io n<=22 then iv (io n) (ir n 256) (ir n 4096) 0 (ik n)
 else if io n=58\/io n=59 then iv (io n) (ir n 256) 0 0 (ik n%8)
 else if io n=60\/io n=61 then iv (io n) (ir n 256) 0 0 (ik n%12)
 else iv (io n) 0 0 0 0
theorem sh8 (x:Int):x / 2^min (Int.toNat 8) IntKind.i64.bits=x / 256:=by rw [show (2:Int)^min (Int.toNat 8) IntKind.i64.bits=256 from rfl]
theorem QJc (x:Int):x / 2^min (Int.toNat 12) IntKind.i64.bits=x / 4096:=by rw [show (2:Int)^min (Int.toNat 12) IntKind.i64.bits=4096 from rfl]
theorem QJd (x:Int):x / 2^min (Int.toNat 16) IntKind.i64.bits=x / 65536:=by rw [show (2:Int)^min (Int.toNat 16) IntKind.i64.bits=65536 from rfl]
theorem QJe (x:Int):x / 2^min (Int.toNat 20) IntKind.i64.bits=x / 1048576:=by rw [show (2:Int)^min (Int.toNat 20) IntKind.i64.bits=1048576 from rfl]
theorem QJf (x:Int):x / 2^min (Int.toNat 40) IntKind.i64.bits=x / 1099511627776:=by rw [show (2:Int)^min (Int.toNat 40) IntKind.i64.bits=1099511627776 from rfl]
theorem QsP (x:Int) (h0:0<=x) (h1:x<9223372036854775808):bits .and .i64 x 1=x%2:=by
 obtain ⟨n,rfl⟩:=Int.eq_ofNat_of_zero_le h0
 have e:((BitVec.ofInt 64 (n:Int)) &&& (BitVec.ofInt 64 1)).toNat=n%2:=by
  rw [BitVec.toNat_and,show (BitVec.ofInt 64 1).toNat=1 from rfl,Nat.and_one_is_mod]
  have:(BitVec.ofInt 64 (n:Int)).toNat=n:=by
   rw [BitVec.toNat_ofInt];simp;omega
  rw [this]
 show IntKind.i64.wrap (((BitVec.ofInt 64 (n:Int)) &&& (BitVec.ofInt 64 1)).toNat:Int)=_;rw [e,Qb1 (by omega) (by omega)];omega
theorem Qyg (q:Int) (h0:0<=q) (h1:q<50):(isv .i64 opsL)[0+q.toNat * 1]?=some (.i (opsL.getD q.toNat 0)):=by
 rw [Nat.zero_add,Nat.mul_one];exact Qie .i64 opsL q.toNat (by show q.toNat<50;omega)
theorem QxT (n:Int):FN 42 [.s (.i n)] [] (. =⟨.a (.agg (QfL n)),[],[]⟩):=by
 have hm:=QjB n 1;have ho:=QBY n;unfold QAy at ho;have hk:0<=ik n/\ik n<24:=by unfold ik;omega
 have hq:0<=mix n 1%50/\mix n 1%50<50:=by omega
 have a1:bits .and .i64 (mix n 1 / 1099511627776) 1=mix n 1 / 1099511627776%2:=QsP _ (by omega) (by omega);have c1:=Qcr (mix n 1) 50 (by omega) (by omega);have c2:=Qcr (mix n 1 / 256) 6 (by omega) (by omega);have c3:=Qcr (mix n 1 / 4096) 6 (by omega) (by omega);have c4:=Qcr (mix n 1 / 65536) 6 (by omega) (by omega);have c5:=Qcr (mix n 1 / 1048576) 24 (by omega) (by omega);have c0:=QB7 n 1;have gq:=Qyg _ hq.1 hq.2;have hb2:0<=mix n 1 / 1099511627776%2/\mix n 1 / 1099511627776%2<2:=by omega
 have hkm:0<=ik n*(mix n 1 / 1099511627776%2)/\ik n*(mix n 1 / 1099511627776%2)<24:=by
  rcases (by omega:mix n 1 / 1099511627776%2=0\/mix n 1 / 1099511627776%2=1) with e|e<;>rw [e]<;>omega
 have k1:IntKind.i64.wrap (ik n*(mix n 1 / 1099511627776%2))=ik n*(mix n 1 / 1099511627776%2):=Qb1 (by omega) (by omega);have k2:IntKind.i32.wrap (ik n*(mix n 1 / 1099511627776%2))=ik n*(mix n 1 / 1099511627776%2):=QC4 (by omega) (by omega);show Fn _ _ _ _ (. =⟨.a (.agg (QfL n)),[],[]⟩);unfold QfL;change Fn _ _ [.s (.i (mix n 1 / 1048576)),_] _ (. =⟨.a (.s (.i (ik n))),_,_⟩) at c5;change Fn _ _ [.s (.i (mix n 1 / 256)),_] _ (. =⟨.a (.s (.i (ir n 256))),_,_⟩) at c2;change Fn _ _ [.s (.i (mix n 1 / 4096)),_] _ (. =⟨.a (.s (.i (ir n 4096))),_,_⟩) at c3;change Fn _ _ [.s (.i (mix n 1 / 65536)),_] _ (. =⟨.a (.s (.i (ir n 65536))),_,_⟩) at c4;change _=some (SV.int .i64 (io n)) at gq;have fo:=QCj;have UH:Qad (isv .i64 opsL)=true:=QaP _ _;generalize isv .i64 opsL=Lc,io n=o,ik n=k,ir n 256=A,ir n 4096=B,ir n 65536=C,mix n 1=M at *;generalize M / 1099511627776%2=z at *;refine fnW Tryz.func42 ?_;(repeat' ((conv=>whnf);first|exact zi0|(refine zj0 ?_;intro hb)|(refine Qag (f:=97) fo [] [] rfl trivial trivial ⟨rfl,Qbn⟩ ?_)|(refine Qac (f:=98) (c0) rfl ?_)|(refine Qac (f:=6) (c1) rfl ?_)|(refine Qac (f:=6) (c2) rfl ?_)|(refine Qac (f:=6) (c3) rfl ?_)|(refine Qac (f:=6) (c4) rfl ?_)|(refine Qac (f:=6) (c5) rfl ?_)|(with_reducible first|refine zv (sh8 _) ?_|refine zv (QJc _) ?_|refine zv (QJd _) ?_|refine zv (QJe _) ?_|refine zv (QJf _) ?_|refine zv a1 ?_|refine zv k1 ?_|refine zv k2 ?_)|((with_reducible apply Ge.mk (α:=SV)); . exact gq)|refine zs0 ?_|refine zbb ?_ ?_));all_goals (conv=>whnf)
 all_goals first
  | (rw [zP (by omega)];exact Qan rfl rfl)
  | (rw [zN (by omega),zP (by omega)];first|(rw [zP (by omega)];exact Qan rfl rfl)|(rw [zN (by omega)];exact Qan rfl rfl))
  | (rw [zN (by omega),zN (by omega),zP (by omega)];exact Qan rfl rfl)
  | (rw [zN (by omega),zN (by omega),zN (by omega),zP (by omega)];exact Qan rfl rfl)
  | (rw [zN (by omega),zN (by omega),zN (by omega),zN (by omega),zP (by omega)];exact Qan rfl rfl)
  | (rw [zN (by omega),zN (by omega),zN (by omega),zN (by omega),zN (by omega),zP (by omega)];exact Qan rfl rfl)
  | (rw [zN (by omega),zN (by omega),zN (by omega),zN (by omega),zN (by omega),zN (by omega),zP (by omega)];exact Qan rfl rfl)
  | (rw [zN (by omega),zN (by omega),zN (by omega),zN (by omega),zN (by omega),zN (by omega),zN (by omega)];exact Qan rfl rfl)
def loV (f:Int):Int:=if f=3\/f=7 then -32768 else 0
def hiV (f:Int):Int:=if f=3\/f=7 then 32767 else if f=4\/f=6 then 65535 else if f=5 then 31 else if f=8 then 7 else if f=9 then 11 else 0
theorem QoI (f:Int):FN 96 [.s (.i f)] [] (. =⟨.tup [.s (.i (loV f)),.s (.i (hiV f))],[],[]⟩):=by
 refine fnW Tryz.func96 ?_;(repeat' ((conv=>whnf);first|exact zi0|(refine zj0 ?_;intro hb)|refine zs0 ?_|refine zbb ?_ ?_));all_goals (conv=>whnf)
 all_goals first
  | (subst hb;exact Qan rfl rfl)
  | (
    apply Qan
    (focus rfl)
    simp only [Qbc]
    rw [loV,hiV,zN (by omega),zN (by omega),zN (by omega),zN (by omega),zN (by omega),zN (by omega)])
def rgV (r:Int):Bool:=decide (0<=r/\r<=15)
theorem QCA (r:Int):FN 169 [.s (.i r)] [] (. =⟨.a (.s (.bool (rgV r))),[],[]⟩):=by
 refine fnW Tryz.func169 ?_;(repeat' ((conv=>whnf);first|exact zi0|(refine zj0 ?_;intro hb)|refine zs0 ?_|refine zbb ?_ ?_));all_goals (conv=>whnf)
 all_goals (apply Qan;(focus rfl);simp only [Qbc];congr 3;grind [rgV])
def rvV (o a b c m:Int):Bool :=
 decide (QaU o≠0/\(0<=a/\a<=15)/\(0<=b/\b<=15)/\(0<=c/\c<=15)/\loV (QaU o)<=m/\m<=hiV (QaU o)/\(QaU o=2\/c=0)/\(QaU o=1->a=0)/\(b=0\/2<=QaU o/\QaU o<=5))
theorem QjT (o a b c m:Int) (hm: -2147483648<=m/\m<=2147483647):FN 94 [.agg (iv o a b c m)] [] (. =⟨.a (.s (.bool (rvV o a b c m))),[],[]⟩):=by
 unfold rvV;have hf:=Qqb o;have YO:=QoI (QaU o);generalize QaU o=f at *;generalize loV f=lo,hiV f=hi at *;refine fnW Tryz.func94 ?_;unfold iv;(repeat' ((conv=>whnf);first|exact zi0|(refine zj0 ?_;intro hb)|(refine Qac (f:=95) (hf) rfl ?_)|(refine Qac (f:=96) (YO) rfl ?_)|(refine Qac (f:=169) (QCA _) rfl ?_)|refine zs0 ?_|refine zbb ?_ ?_));all_goals (conv=>whnf)
 all_goals
  apply Qan
  (focus rfl)
  simp only [Qbc];congr 3
  try simp only [rgV,zde,decide_eq_false_iff_not,Bool.not_eq_true',Bool.not_eq_false'] at *
  first
   | (refine (zdf ?_).symm;omega)
   | (refine (zdt ?_).symm;omega)
   | (rw [zbi];simp only [zde,beq_iff_eq];omega)
def Qvy (o a b c m:Int):Int:=o*16777216+a*1048576+b*65536+m%65536+c
theorem QCl (p q k:Nat) (h:q<2^k):(2^k*p) ||| q=2^k*p+q:=(Nat.two_pow_add_eq_or_of_lt h p).symm
theorem QHW (x:Int) (n:Nat) (hn:n<=32):x*2^min ((n:Nat):Int).toNat IntKind.u32.bits=x*2^n:=by
 have:min ((n:Nat):Int).toNat IntKind.u32.bits=n:=Qu7;rw [this]
theorem QA5 (a:Nat) (ha:a<4294967296):(BitVec.ofInt 32 (a:Int)).toNat=a:=by
 rw [BitVec.toNat_ofInt];simp;omega
theorem Qyi (a b:Nat) (ha:a<4294967296) (hb:b<4294967296):bits .or .u32 (a:Int) b=((a ||| b:Nat):Int):=by
 have h:a ||| b<2^32:=Nat.or_lt_two_pow (by simpa using ha) (by simpa using hb);show IntKind.u32.wrap (((BitVec.ofInt 32 (a:Int)) ||| (BitVec.ofInt 32 (b:Int))).toNat:Int)=_;rw [BitVec.toNat_or,QA5 a ha,QA5 b hb,Qcf];simp only [Nat.reducePow] at h;omega
theorem QjF (x y:Int) (k:Nat) (p q:Nat) (hx:x=((2^k*p:Nat):Int)) (hy:y=(q:Int)) (hq:q<2^k) (h1:2^k*p<4294967296) (h2:q<4294967296):bits .or .u32 x y=x+y:=by
 subst hx hy;rw [Qyi _ _ h1 h2,QCl p q k hq];simp
theorem QfY {o:Int} (h:QaU o≠0):1<=o/\o<=64:=by
 by_cases h1:1<=o/\o<=64
 .exact h1
 .refine absurd ?_ h
  unfold QaU
  repeat' first
   | rfl
   | (apply Qqt<;>intro _)
   | (exfalso;omega)
theorem QIY:loV 2=0/\hiV 2=0:=⟨rfl,rfl⟩
theorem Qpn (o a b c m:Int) (hm: -2147483648<=m/\m<=2147483647) (hv:rvV o a b c m=true):FN 40 [.agg (iv o a b c m)] [] (. =⟨.tup [.s (.u (Qvy o a b c m)),.s (.bool true)],[],[]⟩):=by
 have f1:=QjT o a b c m hm;rw [hv] at f1;have hv:=of_decide_eq_true hv;obtain ⟨v1,_,_,_,v5,v6,v7,_,_⟩:=hv;have ho:=QfY v1
 have hcm:c=0\/m=0:=by
  rcases v7 with h|h
  .rw [h] at v5 v6;have:=QIY;right;omega
  .exact .inl h
 have w1:IntKind.u32.wrap o=o:=Qe4 (by omega) (by omega);have w2:IntKind.u32.wrap a=a:=Qe4 (by omega) (by omega);have w3:IntKind.u32.wrap b=b:=Qe4 (by omega) (by omega);have w4:IntKind.u32.wrap c=c:=Qe4 (by omega) (by omega);have w5:IntKind.u32.wrap m=m%4294967296:=Qcf m
 have s1:IntKind.u32.wrap (o*2^min (Int.toNat 24) IntKind.u32.bits)=o*16777216:=by
  rw [show (2:Int)^min (Int.toNat 24) IntKind.u32.bits=16777216 from rfl];exact Qe4 (by omega) (by omega)
 have s2:IntKind.u32.wrap (a*2^min (Int.toNat 20) IntKind.u32.bits)=a*1048576:=by
  rw [show (2:Int)^min (Int.toNat 20) IntKind.u32.bits=1048576 from rfl];exact Qe4 (by omega) (by omega)
 have s3:IntKind.u32.wrap (b*2^min (Int.toNat 16) IntKind.u32.bits)=b*65536:=by
  rw [show (2:Int)^min (Int.toNat 16) IntKind.u32.bits=65536 from rfl];exact Qe4 (by omega) (by omega)
 have e1:bits .or .u32 (o*16777216) (a*1048576)=o*16777216+a*1048576:=QjF _ _ 24 o.toNat (a*1048576).toNat (by simp only [Nat.reducePow];omega) (by omega) (by simp only [Nat.reducePow];omega) (by simp only [Nat.reducePow];omega) (by omega);have e2:bits .or .u32 (o*16777216+a*1048576) (b*65536)=o*16777216+a*1048576+b*65536:=QjF _ _ 20 (16*o+a).toNat (b*65536).toNat (by simp only [Nat.reducePow];omega) (by omega) (by simp only [Nat.reducePow];omega) (by simp only [Nat.reducePow];omega) (by omega)
 have e3:bits .and .u32 (m%4294967296) 65535=m%65536:=by
  have:=Qbi (m%4294967296).toNat 16 (by omega) (by omega);rw [show (((m%4294967296).toNat:Nat):Int)=m%4294967296 by omega] at this;have e:bits .and .u32 (m%4294967296) 65535=(((m%4294967296).toNat%2^16:Nat):Int):=this;rw [e];simp only [Nat.reducePow];omega
 have e4:bits .or .u32 (o*16777216+a*1048576+b*65536) (m%65536)=o*16777216+a*1048576+b*65536+m%65536:=QjF _ _ 16 (256*o+16*a+b).toNat (m%65536).toNat (by simp only [Nat.reducePow];omega) (by omega) (by simp only [Nat.reducePow];omega) (by simp only [Nat.reducePow];omega) (by omega)
 have e5:bits .or .u32 (o*16777216+a*1048576+b*65536+m%65536) c=Qvy o a b c m:=by
  unfold Qvy;rcases hcm with h|h
  .subst h
   exact QjF _ _ 0 (o*16777216+a*1048576+b*65536+m%65536).toNat 0 (by simp only [Nat.pow_zero];omega) rfl (by simp) (by simp only [Nat.pow_zero];omega) (by omega)
  .subst h
   exact QjF _ _ 16 (256*o+16*a+b).toNat c.toNat (by simp only [Nat.reducePow];omega) (by omega) (by simp only [Nat.reducePow];omega) (by simp only [Nat.reducePow];omega) (by omega)
 refine fnW Tryz.func40 ?_;unfold iv;(repeat' ((conv=>whnf);first|exact zi0|(refine zj0 ?_;intro hb)|(refine Qac (f:=94) (f1) rfl ?_)|(with_reducible first|refine zv w1 ?_|refine zv w2 ?_|refine zv w3 ?_|refine zv w4 ?_|refine zv w5 ?_|refine zv s1 ?_|refine zv s2 ?_|refine zv s3 ?_|refine zv e1 ?_|refine zv e2 ?_|refine zv e3 ?_|refine zv e4 ?_|refine zv e5 ?_)|refine zs0 ?_|refine zbb ?_ ?_));all_goals (conv=>whnf)
 all_goals exact Qan rfl rfl
theorem Ql8:∀ k:Nat,k<65->QaU (k:Int)≠0->QcR k=true/\Qsg k= !(QaU k==1)/\QzF k=decide (2<=QaU k/\QaU k<=5)/\Qsh k=(QaU k==2)/\Qg5 k=loV (QaU k)/\Qhj k=hiV (QaU k):=by decide
theorem QBm {o a b c m:Int} (hv:rvV o a b c m=true):0<=Qvy o a b c m/\Qvy o a b c m<4294967296:=by
 obtain ⟨v1,_,_,_,_,_,_,_,_⟩:=of_decide_eq_true hv;have ho:=QfY v1;unfold Qvy;omega
theorem QxU (n:Int):∃ o a b c m:Int,QfL n=iv o a b c m/\rvV o a b c m=true/\ -2147483648<=m/\m<=2147483647/\o=io n:=by
 have ho:=QBY n;unfold QAy at ho;have hk:0<=ik n/\ik n<24:=by unfold ik;omega
 have hr:∀ d,0<=ir n d/\ir n d<6:=fun d=>by unfold ir;omega
 have r1:=hr 256;have r2:=hr 4096;have r3:=hr 65536
 have hkm:0<=ik n*(mix n 1 / 1099511627776%2)/\ik n*(mix n 1 / 1099511627776%2)<24:=by
  rcases (by omega:mix n 1 / 1099511627776%2=0\/mix n 1 / 1099511627776%2=1) with e|e<;>rw [e]<;>omega
 unfold QfL;generalize io n=o,ik n=k,ir n 256=A,ir n 4096=B,ir n 65536=C at *;generalize k*(mix n 1 / 1099511627776%2)=kz at *
 have fin:∀ (f a b c m:Int),QaU o=f->(f≠0/\(0<=a/\a<=15)/\(0<=b/\b<=15)/\(0<=c/\c<=15)/\loV f<=m/\m<=hiV f/\(f=2\/c=0)/\(f=1->a=0)/\(b=0\/2<=f/\f<=5))->rvV o a b c m=true:=fun f a b c m hf h=>by
  unfold rvV;rw [hf];exact zdt h
 have fv:∀ f:Int,(QaU o=f)↔(QaU o=f):=fun f=>Iff.rfl
 by_cases c1:o<=13
 .rw [zP c1]
  exact ⟨o,A,B,C,0,rfl,fin 2 _ _ _ _ (by unfold QaU;rw [zP (by omega)]) ⟨by omega,by omega,by omega,by omega,by decide,by decide,by omega,by omega,by omega⟩,by omega,by omega,rfl⟩
 rw [zN c1]
 by_cases c2:40<=o/\o<=48
 .rw [zP c2]
  by_cases c3:o=48
  .rw [zP c3]
   exact ⟨o,A,0,0,k-12,rfl,fin 7 _ _ _ _ (by subst c3;rfl) ⟨by omega,by omega,by omega,by omega,by show (-32768:Int)<=_;omega,by show _<=(32767:Int);omega,by omega,by omega,by omega⟩,by omega,by omega,rfl⟩
  .rw [zN c3]
   exact ⟨o,A,B,0,k-12,rfl,fin 3 _ _ _ _ (by unfold QaU;rw [zN (by omega),zP (by omega)]) ⟨by omega,by omega,by omega,by omega,by show (-32768:Int)<=_;omega,by show _<=(32767:Int);omega,by omega,by omega,by omega⟩,by omega,by omega,rfl⟩
 rw [zN c2]
 by_cases c4:o=16\/o=23\/32<=o/\o<=36\/o=49
 .rw [zP c4]
  exact ⟨o,A,B,0,8*k-32,rfl,fin 3 _ _ _ _ (by unfold QaU;rw [zN (by omega),zP (by omega)]) ⟨by omega,by omega,by omega,by omega,by show (-32768:Int)<=_;omega,by show _<=(32767:Int);omega,by omega,by omega,by omega⟩,by omega,by omega,rfl⟩
 rw [zN c4]
 by_cases c5:o=24
 .rw [zP c5]
  exact ⟨o,A,0,0,kz,rfl,fin 6 _ _ _ _ (by subst c5;rfl) ⟨by omega,by omega,by omega,by omega,by show (0:Int)<=_;omega,by show _<=(65535:Int);omega,by omega,by omega,by omega⟩,by omega,by omega,rfl⟩
 rw [zN c5]
 by_cases c6:17<=o/\o<=22
 .rw [zP c6]
  by_cases c7:o<=19
  .exact ⟨o,A,B,0,k,rfl,fin 4 _ _ _ _ (by unfold QaU;rw [zN (by omega),zN (by omega),zP (by omega)]) ⟨by omega,by omega,by omega,by omega,by show (0:Int)<=_;omega,by show _<=(65535:Int);omega,by omega,by omega,by omega⟩,by omega,by omega,rfl⟩
  .exact ⟨o,A,B,0,k,rfl,fin 5 _ _ _ _ (by unfold QaU;rw [zN (by omega),zN (by omega),zN (by omega),zP (by omega)]) ⟨by omega,by omega,by omega,by omega,by show (0:Int)<=_;omega,by show _<=(31:Int);omega,by omega,by omega,by omega⟩,by omega,by omega,rfl⟩
 rw [zN c6]
 by_cases c8:o=58\/o=59
 .rw [zP c8]
  exact ⟨o,A,0,0,k%8,rfl,fin 8 _ _ _ _ (by rcases c8 with rfl|rfl<;>rfl) ⟨by omega,by omega,by omega,by omega,by show (0:Int)<=_;omega,by show _<=(7:Int);omega,by omega,by omega,by omega⟩,by omega,by omega,rfl⟩
 rw [zN c8]
 by_cases c9:o=60\/o=61
 .rw [zP c9]
  exact ⟨o,A,0,0,k%12,rfl,fin 9 _ _ _ _ (by rcases c9 with rfl|rfl<;>rfl) ⟨by omega,by omega,by omega,by omega,by show (0:Int)<=_;omega,by show _<=(11:Int);omega,by omega,by omega,by omega⟩,by omega,by omega,rfl⟩
 rw [zN c9]
 exact ⟨o,0,0,0,0,rfl,fin 1 _ _ _ _ (by
  have:o=56\/o=57\/o=62\/o=63\/o=64:=by omega
  rcases this with rfl|rfl|rfl|rfl|rfl<;>rfl) ⟨by omega,by omega,by omega,by omega,by decide,by decide,by omega,by omega,by omega⟩,by omega,by omega,rfl⟩
def QAq:List SV->Nat
 | [.int _ o,.int _ a,.int _ b,.int _ c,.int _ m]=>(Qvy o a b c m).toNat
 | _=>0
theorem Qpm (n:Int):FN 40 [.agg (QfL n)] [] (. =⟨.tup [.s (.u (QAq (QfL n):Nat)),.s (.bool true)],[],[]⟩)/\QAq (QfL n)<4294967296/\∃ o a b c m:Int,QfL n=iv o a b c m:=by
 obtain ⟨o,a,b,c,m,h1,h2,h3,h4,_⟩:=QxU n;have he:=QBm h2;have e:QAq (QfL n)=(Qvy o a b c m).toNat:=by rw [h1];rfl
 rw [e,h1,Int.toNat_of_nonneg he.1];exact ⟨Qpn o a b c m ⟨h3,h4⟩ h2,by omega,o,a,b,c,m,rfl⟩
theorem QIP (w:Nat) (hw:w<4294967296):IntKind.i64.wrap ((w:Int) / 2^min (Int.toNat 24) IntKind.u32.bits)=dOp w:=by
 rw [show (2:Int)^min (Int.toNat 24) IntKind.u32.bits=16777216 from rfl,Qb1 (by omega) (by omega)];unfold dOp;simp only [Nat.reducePow];omega
theorem e_a (w:Nat) (hw:w<4294967296):bits .and .u32 ((w:Int) / 2^min (Int.toNat 20) IntKind.u32.bits) 15=dA w:=QeJ w 20 4 hw (by omega) (by omega)
theorem e_b (w:Nat) (hw:w<4294967296):bits .and .u32 ((w:Int) / 2^min (Int.toNat 16) IntKind.u32.bits) 15=dB w:=QeJ w 16 4 hw (by omega) (by omega)
theorem e_i (w:Nat) (hw:w<4294967296):bits .and .u32 (w:Int) 65535=((dI w:Nat):Int):=by
 have:=Qbi w 16 hw (by omega);unfold dI;rw [Nat.pow_zero,Nat.div_one];exact this
theorem Ql0 (w:Int) (l:Int):w / 2^min l.toNat IntKind.u32.bits=w / 2^min l.toNat IntKind.u32.bits:=rfl
theorem QIQ (x:Nat) (hx:x<65536):IntKind.i32.wrap (IntKind.i16.wrap (x:Int))=sx x:=by
 have e:IntKind.i16.wrap (x:Int)=sx x:=by
  unfold IntKind.wrap sx;simp only [IntKind.signed,IntKind.bits,Bool.true_and,zde]
  by_cases h:x<32768
  .rw [zP h,zN (by simp;omega)];omega
  .rw [zN h,zP (by simp;omega)];omega
 rw [e];have: -32768<=sx x/\sx x<=32767:=by unfold sx;split<;>omega
 exact QC4 (by omega) (by omega)
theorem Qqd (o:Int):0<=QaU o/\QaU o<=9:=by
 unfold QaU
 repeat' split
 all_goals omega
theorem Qqc (o:Int) (h:QaU o=0):QcR o=false:=by
 unfold QcR Qsg;rw [Bool.or_eq_false_iff,decide_eq_false_iff_not,decide_eq_false_iff_not];unfold QaU at h;constructor
 .intro h1
  repeat' split at h
  all_goals omega
 .intro h1
  repeat' split at h
  all_goals omega
theorem QCD (w:Nat) (hw:w<4294967296) (hF:QaU (dOp w)≠0):rvV (dOp w) (dA w) (dB w) (dC w) (dM w)=dOk w:=by
 have ho:=QfY hF;obtain ⟨u0,u1,u2,u3,u4,u5⟩:=Ql8 (dOp w).toNat (by omega) (by rw [Int.toNat_of_nonneg (by omega)];exact hF);rw [Int.toNat_of_nonneg (by omega)] at u0 u1 u2 u3 u4 u5;have ha:0<=dA w/\dA w<=15:=by unfold dA;simp only [Nat.reducePow];omega
 have hb:0<=dB w/\dB w<=15:=by unfold dB;simp only [Nat.reducePow];omega
 have fC:0<=dC w:=by unfold dC;split<;>omega
 have YR:QaU (dOp w)≠2->dC w=0:=fun h=>by unfold dC;rw [u3,zN (by simp [h])]
 have hr:=Qqd (dOp w);unfold rvV dOk QfG;rw [u0,u1,u2,u3,u4,u5,Bool.true_and,zbi];generalize QaU (dOp w)=F,dA w=a,dB w=b,dC w=c,dM w=m at *;generalize loV F=lo,hiV F=hi at *;clear u0 u1 u2 u3 u4 u5;have hcs:F=1\/F=2\/(3<=F/\F<=5)\/6<=F:=by omega
 simp only [zba,zde,Bool.true_and];rcases hcs with h|h|h|h
 .subst h
  have:=YR (by omega);subst this;simp only [show ((1:Int)==1)=true from rfl,show ((1:Int)==2)=false from rfl,Bool.not_true,Qmu,beq_iff_eq,show decide ((2:Int)<=1/\(1:Int)<=5)=false from rfl,Decidable.imp_iff_not_or,true_or,or_true,true_and,and_true,not_true_eq_false,false_or];omega
 .subst h
  simp only [show ((2:Int)==1)=false from rfl,show ((2:Int)==2)=true from rfl,Bool.not_false,Qmu,zba,zde,show decide ((2:Int)<=2/\(2:Int)<=5)=true from rfl,Decidable.imp_iff_not_or,true_or,or_true,true_and,and_true,not_true_eq_false,false_or];omega
 .have:=YR (by omega)
  subst this;have e1:(F==1)=false:=by simp;omega
  have e2:(F==2)=false:=by simp;omega
  have e3:decide ((2:Int)<=F/\F<=5)=true:=zdt (by omega);simp only [e1,e2,e3,Bool.not_false,Qmu,zba,zde,beq_iff_eq,Decidable.imp_iff_not_or,true_or,or_true,true_and,and_true,not_true_eq_false,false_or];omega
 .have:=YR (by omega)
  subst this;have e1:(F==1)=false:=by simp;omega
  have e2:(F==2)=false:=by simp;omega
  have e3:decide ((2:Int)<=F/\F<=5)=false:=zdf (by omega);simp only [e1,e2,e3,Bool.not_false,Qmu,zba,zde,beq_iff_eq,Decidable.imp_iff_not_or,true_or,or_true,true_and,and_true,not_true_eq_false,false_or];omega
theorem Qrf (w:Nat) (hw:w<4294967296):FN 111 [.s (.u w)] [] (. =⟨.tup [.agg (iv (kz (dOk w) (dOp w)) (kz (dOk w) (dA w)) (kz (dOk w) (dB w)) (kz (dOk w) (dC w)) (kz (dOk w) (dM w))),.s (.bool (dOk w))],[],[]⟩):=by
 have hf:=Qqb (dOp w);have w1:=QIP w hw;have w2:=e_a w hw;have w3:=e_b w hw;have w4:=e_i w hw;have ha:0<=dA w/\dA w<=15:=by unfold dA;simp only [Nat.reducePow];omega
 have fV:0<=dB w/\dB w<=15:=by unfold dB;simp only [Nat.reducePow];omega
 have w5:IntKind.i64.wrap (dA w)=dA w:=Qb1 (by omega) (by omega);have w6:IntKind.i64.wrap (dB w)=dB w:=Qb1 (by omega) (by omega);have hIl:dI w<65536:=by unfold dI;simp only [Nat.reducePow];omega
 by_cases hF:QaU (dOp w)=0
 .have hd:dOk w=false:=by unfold dOk;rw [Qqc _ hF];rfl
  rw [hF] at hf;rw [hd];generalize dOp w=o,dA w=a,dB w=b at *;refine fnW Tryz.func111 ?_;(repeat' ((conv=>whnf);first|exact zi0|(refine zj0 ?_;intro hb)|(with_reducible first|refine zv (Ql0 _ _) ?_|refine zv w1 ?_|refine zv w2 ?_|refine zv w3 ?_|refine zv w5 ?_|refine zv w6 ?_)|(refine Qac (f:=95) (hf) rfl ?_)|refine zs0 ?_|refine zbb ?_ ?_));all_goals (conv=>whnf)
  all_goals first|exact Qan rfl rfl
 .have ho:=QfY hF
  obtain ⟨u0,u1,u2,u3,u4,u5⟩:=Ql8 (dOp w).toNat (by omega) (by rw [Int.toNat_of_nonneg (by omega)];exact hF);rw [Int.toNat_of_nonneg (by omega)] at u3 u4
  have hm: -32768<=dM w/\dM w<=65535:=by
   unfold dM sx
   repeat' split
   all_goals omega
  have hval:=QjT (dOp w) (dA w) (dB w) (dC w) (dM w) (by omega);rw [QCD w hw hF] at hval;have VW:QaU (dOp w)=2->dC w=((dI w:Nat):Int)/\dM w=0:=fun h=>by unfold dC dM;rw [u3,zP (by simp [h]),zP (by simp [h])];exact ⟨rfl,rfl⟩
  have ZH:QaU (dOp w)=3\/QaU (dOp w)=7->dC w=0/\dM w=sx (dI w):=fun h=>by
   have e1:loV (QaU (dOp w))= -32768:=by unfold loV;rw [zP h]
   unfold dC dM;rw [u3,zN (by simp;omega),zN (by simp;omega),u4,e1,zP (by omega)];exact ⟨rfl,rfl⟩
  have ZI:QaU (dOp w)≠2->QaU (dOp w)≠3->QaU (dOp w)≠7->dC w=0/\dM w=((dI w:Nat):Int):=fun h h3 h7=>by
   have e1:loV (QaU (dOp w))=0:=by unfold loV;rw [zN (by omega)]
   unfold dC dM;rw [u3,zN (by simp [h]),zN (by simp [h]),u4,e1,zN (by omega)];exact ⟨rfl,rfl⟩
  have w7:IntKind.i64.wrap ((dI w:Nat):Int)=((dI w:Nat):Int):=Qb1 (by omega) (by omega);have w8:IntKind.i32.wrap (IntKind.i16.wrap ((dI w:Nat):Int))=sx (dI w):=QIQ _ hIl;have w9:IntKind.i32.wrap ((dI w:Nat):Int)=((dI w:Nat):Int):=QC4 (by omega) (by omega);have k16:IntKind.i16.wrap ((dI w:Nat):Int)=IntKind.i16.wrap ((dI w:Nat):Int):=rfl;have hcase:QaU (dOp w)=2\/(QaU (dOp w)=3\/QaU (dOp w)=7)\/(QaU (dOp w)≠2/\QaU (dOp w)≠3/\QaU (dOp w)≠7):=by omega
  rcases hcase with h|h|h
  .obtain ⟨q1,q2⟩:=VW h
   rw [q1,q2] at hval |-;clear VW ZH ZI u0 u1 u2 u3 u4 u5 q1 q2 hm ho;generalize QaU (dOp w)=F,dOk w=ok at *;generalize dOp w=o,dA w=a,dB w=b,dI w=I at *;cases ok
   all_goals
    refine fnW Tryz.func111 ?_;(repeat' ((conv=>whnf);first|exact zi0|(refine zj0 ?_;intro hb)|(with_reducible first|refine zv (Ql0 _ _) ?_|refine zv w1 ?_|refine zv w2 ?_|refine zv w3 ?_|refine zv w4 ?_|refine zv w5 ?_|refine zv w6 ?_|refine zv w7 ?_)|(refine Qac (f:=95) (hf) rfl ?_)|(refine Qac (f:=94) (hval) rfl ?_)|refine zs0 ?_|refine zbb ?_ ?_));all_goals (conv=>whnf)
    all_goals first|exact Qan rfl rfl
  .obtain ⟨q1,q2⟩:=ZH h
   rw [q1,q2] at hval |-;clear VW ZH ZI u0 u1 u2 u3 u4 u5 q1 q2 hm ho;generalize QaU (dOp w)=F,dOk w=ok at *;generalize dOp w=o,dA w=a,dB w=b,sx (dI w)=S at *;generalize dI w=I at *;cases ok
   all_goals
    refine fnW Tryz.func111 ?_;(repeat' ((conv=>whnf);first|exact zi0|(refine zj0 ?_;intro hb)|(with_reducible first|refine zv (Ql0 _ _) ?_|refine zv w1 ?_|refine zv w2 ?_|refine zv w3 ?_|refine zv w4 ?_|refine zv w5 ?_|refine zv w6 ?_|refine zv k16 ?_|refine zv w8 ?_)|(refine Qac (f:=95) (hf) rfl ?_)|(refine Qac (f:=94) (hval) rfl ?_)|refine zs0 ?_|refine zbb ?_ ?_));all_goals (conv=>whnf)
    all_goals first|exact Qan rfl rfl
  .obtain ⟨q1,q2⟩:=ZI h.1 h.2.1 h.2.2
   rw [q1,q2] at hval |-;clear VW ZH ZI u0 u1 u2 u3 u4 u5 q1 q2 hm ho;generalize QaU (dOp w)=F,dOk w=ok at *;generalize dOp w=o,dA w=a,dB w=b,dI w=I at *;cases ok
   all_goals
    refine fnW Tryz.func111 ?_;(repeat' ((conv=>whnf);first|exact zi0|(refine zj0 ?_;intro hb)|(with_reducible first|refine zv (Ql0 _ _) ?_|refine zv w1 ?_|refine zv w2 ?_|refine zv w3 ?_|refine zv w4 ?_|refine zv w5 ?_|refine zv w6 ?_|refine zv w9 ?_)|(refine Qac (f:=95) (hf) rfl ?_)|(refine Qac (f:=94) (hval) rfl ?_)|refine zs0 ?_|refine zbb ?_ ?_));all_goals (conv=>whnf)
    all_goals first|exact Qan rfl rfl
theorem QDc (P:Nat) (h:P<4294967296):IntKind.u32.wrap (P:Int)=(P:Nat):=Qe4 (by omega) (by omega)
def anV (a b:Nat):Nat:=(bits .andNot .u32 (a:Int) (b:Int)).toNat
theorem QiV (a b:Nat):bits .andNot .u32 (a:Int) (b:Int)=((anV a b:Nat):Int)/\anV a b<4294967296:=by
 have h:0<=bits .andNot .u32 (a:Int) (b:Int)/\bits .andNot .u32 (a:Int) (b:Int)<4294967296:=by
  show 0<=IntKind.u32.wrap _/\IntKind.u32.wrap _<4294967296;rw [Qcf];omega
 unfold anV;omega
def zrL (xs:List Nat) (v:Nat):Nat->List Nat
 | 0=>xs
 | j+1=>(zrL xs v j).set (v*32+j) 0
theorem Qfo (xs:List Nat) (v:Nat):∀ j,(zrL xs v j).length=xs.length
 | 0=>rfl
 | j+1=>by unfold zrL;rw [List.length_set,Qfo xs v j]
theorem Qwl (xs:List Nat) (v:Nat) (h:ZL xs):∀ j,∀ y∈zrL xs v j,y<4294967296
 | 0=>h
 | j+1=>fun y hy=>by
  unfold zrL at hy;rcases List.mem_or_eq_of_mem_set hy with h1|h1
  .exact Qwl xs v h j y h1
  .omega
def gvQ (bg n:Nat) (p:Int) (v:Nat):Prop:=p=10/\QbC n v=true/\bg / 2^v%2=0
instance (bg n:Nat) (p:Int) (v:Nat):Decidable (gvQ bg n p v):=by unfold gvQ;infer_instance
def Qhd (bg n:Nat) (p:Int) (v:Nat):Nat:=if gvQ bg n p v then bg ||| 2^v else if p=11/\(v:Int)<32 then anV bg (2^v) else bg
def QfK (xs:List Nat) (bg n:Nat) (p:Int) (v:Nat):List Nat:=if gvQ bg n p v then zrL xs v 32 else xs
def QBS (n v j:Nat) (X:List SV) (bt bg:Nat):St :=
 ⟨[(1,.a (.s (.sl 0 0 n))),(3,.a (.s (.u v))),(4,.a (.s (.ptr 1 0))),(8,.a (.s (.ptr 2 0))),(9,.a (.s (.i j)))],[(0,some ⟨true,1,X⟩),(1,some ⟨true,1,[.u bt,.u bg]⟩),(2,some ⟨true,1,[.u 0,.u 0]⟩)],[0]⟩
theorem Quh (bt bg:Nat) (hb:bg<4294967296) (xs:List Nat) (n:Nat) (hl:xs.length=n) (hn:n<=1000000) (p:Int) (v:Nat) (hv:v<4294967296) (hq:¬ gvQ bg n p v) :
  FN 161 [.agg [.u bt,.u bg],.s (.sl 0 0 n),.s (.i p),.s (.u v)] [⟨true,1,wsv xs⟩] (. =⟨.a (.agg [.u bt,.u (Qhd bg n p v)]),[(0,some ⟨true,1,wsv (QfK xs bg n p v)⟩)],[]⟩):=by
 have q1:=Qgb xs n hl (by omega) v hv;have gL:=Qaa xs;have uK:=QaS n;have hmn:mpg n*32<=n:=QsC;have JO:=(QiV bg (2^v)).1;have yZ:QbC n v=true->v<mpg n:=fun h=>by unfold QbC at h;have:=of_decide_eq_true h;omega
 unfold Qhd QfK;rw [zN hq,zN hq];unfold gvQ at hq
 by_cases yS:p=11
 .subst yS
  by_cases zZ:(v:Int)<32
  .rw [zP ⟨rfl,zZ⟩]
   have KM:(2:Nat)^v<4294967296:=by
    have:=Nat.pow_lt_pow_right (a:=2) (by omega) (show v<32 by omega);simpa using this
   have s3:(1:Int)*2^min ((v:Nat):Int).toNat IntKind.u32.bits=((2^v:Nat):Int):=by rw [QHW 1 v (by omega)];simp
   have s4:IntKind.u32.wrap ((2^v:Nat):Int)=((2^v:Nat):Int):=QDc _ KM;have s4':IntKind.u32.wrap ((1:Int)*2^min ((v:Nat):Int).toNat IntKind.u32.bits)=((2^v:Nat):Int):=by rw [s3,s4]
   clear hq yZ;generalize 2^v=pw at *;generalize anV bg pw=b2,wsv xs=XX at *;refine fnW Tryz.func161 ?_;(repeat' ((conv=>whnf);first|exact zi2|(refine zj0 ?_;intro hb)|(with_reducible first|refine zv s4' ?_|refine zv s3 ?_|refine zv s4 ?_|refine zv JO ?_)|refine zse ?_|refine zbb ?_ ?_))
   all_goals exact QD4
  .rw [zN (fun h=>zZ h.2)]
   clear hq yZ JO;generalize wsv xs=XX at *;refine fnW Tryz.func161 ?_;(repeat' ((conv=>whnf);first|exact zi2|(refine zj0 ?_;intro hb)|refine zse ?_|refine zbb ?_ ?_))
   all_goals exact QD4
 rw [zN (fun h=>yS h.1)]
 by_cases jZ:p=10
 .subst jZ
  by_cases h2:QbC n v=true
  .rw [h2] at q1
   have hvm:=yZ h2;have zZ:v<32:=by omega
   have h3:bg / 2^v%2=1:=by
    have:¬ bg / 2^v%2=0:=fun h=>hq ⟨rfl,h2,h⟩
    omega
   have s1:=QnQ bg v zZ;have s2:=QiW (bg / 2^v) (Nat.lt_of_le_of_lt (Nat.div_le_self _ _) hb);rw [h3] at s2;clear hq yZ JO h3;generalize bg / 2^v=bv,wsv xs=XX at *;refine fnW Tryz.func161 ?_;(repeat' ((conv=>whnf);first|exact zi2|(refine zj0 ?_;intro hb)|refine QHn ?_|(refine Qaz q1 ?_)|refine zse ?_|refine zbb ?_ ?_))
   all_goals exact QD4
  .rw [Bool.eq_false_iff.2 h2] at q1
   clear hq yZ JO;generalize wsv xs=XX at *;refine fnW Tryz.func161 ?_;(repeat' ((conv=>whnf);first|exact zi2|(refine zj0 ?_;intro hb)|(refine Qaz q1 ?_)|refine zse ?_|refine zbb ?_ ?_))
   all_goals exact QD4
 clear hq yZ JO;generalize wsv xs=XX at *;refine fnW Tryz.func161 ?_;exact QzV
theorem Qrm (bt bg:Nat) (hb:bg<4294967296) (xs:List Nat) (n:Nat) (hl:xs.length=n) (hn:n<=1000000) (p:Int) (v:Nat) (hv:v<4294967296) (hq:gvQ bg n p v) :
  FN 161 [.agg [.u bt,.u bg],.s (.sl 0 0 n),.s (.i p),.s (.u v)] [⟨true,1,wsv xs⟩] (. =⟨.a (.agg [.u bt,.u (Qhd bg n p v)]),[(0,some ⟨true,1,wsv (QfK xs bg n p v)⟩)],[]⟩):=by
 have q1:=Qgb xs n hl (by omega) v hv;have gL:=Qaa xs;have uK:=QaS n;have hmn:mpg n*32<=n:=QsC;have JO:=(QiV bg (2^v)).1;have yZ:QbC n v=true->v<mpg n:=fun h=>by unfold QbC at h;have:=of_decide_eq_true h;omega
 unfold Qhd QfK;rw [zP hq,zP hq];obtain ⟨ZZ,JK⟩:∃ ZZ,∀ k,k=32->zrL xs v k=ZZ:=⟨zrL xs v 32,fun k h=>by rw [h]⟩;rw [JK 32 rfl];obtain ⟨rfl,h2,h3⟩:=hq;rw [h2] at q1;have hvm:=yZ h2;have zZ:v<32:=by omega
 have s1:=QnQ bg v zZ;have s2:=QiW (bg / 2^v) (Nat.lt_of_le_of_lt (Nat.div_le_self _ _) hb);rw [h3] at s2
 have KM:(2:Nat)^v<4294967296:=by
  have:=Nat.pow_lt_pow_right (a:=2) (by omega) zZ;simpa using this
 have s3:(1:Int)*2^min ((v:Nat):Int).toNat IntKind.u32.bits=((2^v:Nat):Int):=by rw [QHW 1 v (by omega)];simp
 have s4:IntKind.u32.wrap ((2^v:Nat):Int)=((2^v:Nat):Int):=QDc _ KM;have s4':IntKind.u32.wrap ((1:Int)*2^min ((v:Nat):Int).toNat IntKind.u32.bits)=((2^v:Nat):Int):=by rw [s3,s4]
 have s5:=Qyi bg (2^v) hb KM;have q0:IntKind.i64.wrap (v:Int)=v:=QDY;have q3:IntKind.i64.wrap ((v:Int)*32)=((v*32:Nat):Int):=QaR;clear yZ uK h2 h3 JO;generalize bg / 2^v=bv at *;generalize 2^v=pw at *;generalize bg ||| pw=b2,hX:wsv xs=XX at *;refine fnW Tryz.func161 ?_;(repeat' ((conv=>whnf);first|exact zi2|(refine zj0 ?_;intro hb)|(with_reducible first|refine zv s1 ?_|refine zv s2 ?_|refine zv s4' ?_|refine zv s5 ?_)|(refine Qaz q1 ?_)|refine zse ?_|refine zbb ?_ ?_));all_goals (conv=>whnf)
 all_goals try (exfalso;simp at hb;done)
 refine Lp.inv (fun mm σ=>∃ j:Nat,mm+j=32/\σ=QBS n v j (wsv (zrL xs v j)) bt b2) ?_ ?_
 .refine ⟨32,QBS n v 0 XX bt b2,?_,0,by omega,by rw [<- hX];rfl⟩
  (exact zwL [(0,some 0),(1,some _),(2,some _)])
 clear s1 s2 s3 s4 s4' s5 q1;rintro mm σ ⟨j,yY,rfl⟩;unfold QBS;have hZ:=Qaa (zrL xs v (j+1));have UZ:=Qaa (zrL xs v j)
 by_cases hj:j<32
 .have gZ:QaC (wsv (zrL xs v j)) (v*32+j) [QlL (Value.int IntKind.u32 0)]=wsv (zrL xs v (j+1)) :=
    Qbx (zrL xs v j) (v*32+j) 0 (by rw [Qfo];omega)
  have hlz:(wsv (zrL xs v j)).length=n:=by simp [Qfo,hl]
  have q2:IntKind.i64.wrap ((j:Int)+1)=((j+1:Nat):Int):=QaR;have q4:IntKind.i64.wrap (((v*32:Nat):Int)+(j:Int))=((v*32+j:Nat):Int):=QaR;have ZF:(0:Int)<=((v*32+j:Nat):Int)/\((v*32+j:Nat):Int)<(n:Int):=by omega
  generalize wsv (zrL xs v j)=Z0,hZ1:wsv (zrL xs v (j+1))=Z1,v*32+j=ix at *;generalize v*32=v32 at *;have hsd:ix+1<=Z0.length:=by omega
  (repeat' ((conv=>whnf);first|exact zi2|(refine zj0 ?_;intro hb)|(with_reducible first|refine zv q0 ?_|refine zv q2 ?_|refine zv q3 ?_|refine zv q4 ?_)|(apply Sd.mk; . first|with_reducible exact ZF|exact ⟨rfl,rfl,rfl,hsd⟩)|refine zq7 ?_|refine zse ?_|refine zbb ?_ ?_));all_goals (conv=>whnf)
  all_goals first
   | (
     refine ⟨mm-1,QBS n v (j+1) Z1 bt b2,by omega,?_,j+1,by omega,by unfold QBS;rw [hZ1]⟩
     (exact zwL [(0,some 0),(1,some 1),(2,some 2)]))
 .obtain rfl:j=32:=by omega
  clear hZ;rw [JK 32 rfl] at UZ |-;clear JK;generalize wsv ZZ=Z0 at *;exact Qfq
theorem Qug (bt bg:Nat) (hb:bg<4294967296) (xs:List Nat) (n:Nat) (hl:xs.length=n) (hn:n<=1000000) (p:Int) (v:Nat) (hv:v<4294967296) :
  FN 161 [.agg [.u bt,.u bg],.s (.sl 0 0 n),.s (.i p),.s (.u v)] [⟨true,1,wsv xs⟩] (. =⟨.a (.agg [.u bt,.u (Qhd bg n p v)]),[(0,some ⟨true,1,wsv (QfK xs bg n p v)⟩)],[]⟩):=by grind [gvQ,Qrm,Quh,Fn,wsv,Qhd,QfK]
theorem QxJ (bg n:Nat) (hb:bg<4294967296) (p:Int) (v:Nat):Qhd bg n p v<4294967296:=by
 unfold Qhd;split
 .rename_i h
  have hv:v<32:=by
   have:=h.2.1;have hm:=QaS n;unfold QbC at this;have:=of_decide_eq_true this;omega
  have KM:(2:Nat)^v<2^32:=Nat.pow_lt_pow_right (a:=2) (by omega) hv;exact Nat.or_lt_two_pow (n:=32) hb KM
 .split
  .exact (QiV bg (2^v)).2
  .exact hb
theorem QeN (xs:List Nat) (bg n:Nat) (p:Int) (v:Nat):(QfK xs bg n p v).length=xs.length:=by grind [QfK,Qfo]
theorem QxK (xs:List Nat) (bg n:Nat) (p:Int) (v:Nat) (h:ZL xs):∀ y∈QfK xs bg n p v,y<4294967296:=by
 unfold QfK;split
 .exact Qwl xs v h 32
 .exact h
theorem Qq6 (xs:List Nat) (n f:Nat):(pgV xs n f).size<=128:=by
 unfold pgV;split
 .rw [strOfNums_size,QgN];omega
 .exact Nat.zero_le _
theorem Qpi (d:Dk) (hd:d.ok) (xs:List Nat) (n:Nat) (p:Int) (v:Nat) (hv:v<4294967296) (c:Nat):(Qa9 d xs n p v c).1.ok:=by
 obtain ⟨e1,e2,e3,e4,e5,e6,e7,e8⟩:=hd;have w:∀ i:Int,0<=i->i<4294967296->(Lit.int .i64 i).wf=true:=fun i h h'=>by simp [Lit.wf];exact ⟨by show (-9223372036854775808:Int)<=i;omega,by omega⟩
 unfold Qa9;split
 .exact ⟨e1,hv,e3,e4,e5,e6,e7,e8⟩
 split
 .exact ⟨e1,e2,hv,e4,e5,e6,e7,e8⟩
 split
 .exact ⟨e1,e2,e3,e4,e5,e6,e7,e8⟩
 split
 .exact ⟨e1,e2,e3,e4,e5,e6,w 0 (by omega) (by omega),e8⟩
 split
 .split
  .exact ⟨e1,e2,e3,e4,e5,e6,w 3 (by omega) (by omega),e8⟩
  split
  .exact ⟨e1,e2,e3,e4,e5,e6,w 3 (by omega) (by omega),e8⟩
  .refine ⟨e1,e2,e3,e2,e3,?_,w 1 (by omega) (by omega),w v (by omega) (by omega)⟩
   show (if (v:Int)=2 then pgV xs n d.fr else ⟨#[]⟩:ByteArray).size<=1000000;split
   .grind [Qq6,Qa9]
   .exact Nat.zero_le _
 .exact ⟨e1,e2,e3,e4,e5,e6,e7,e8⟩
def QjG (O:Option (List SV)):Prop:=∀ l,O=some l->l.length=4/\Qad l=true/\Qat l=true
theorem QdI (d:Dk) (xs:List Nat) (n:Nat) (p:Int) (v c:Nat):QjG (Qa9 d xs n p v c).2:=by
 unfold Qa9 QjG;intro l h;split at h
 .cases h
 split at h
 .cases h
 split at h
 .cases h
 split at h
 .cases h
 split at h
 .split at h
  .cases h
  split at h
  .cases h
  .injection h with h
   subst h;unfold Qoj;split<;>(try split)<;>(try split)<;>exact ⟨rfl,rfl,rfl⟩
 .cases h
theorem QqU (d:Nk) (hd:d.ok) (xs:List Nat) (n:Nat) (p:Int) (v:Nat) (hv:v<4294967296) (c:Nat):(Qbj d xs n p v c).1.ok:=by
 obtain ⟨e1,e2,e3,e4⟩:=hd;unfold Qbj;split
 .exact ⟨hv,e2,e3,e4⟩
 split
 .exact ⟨e1,hv,e3,e4⟩
 split
 .exact ⟨e1,e2,e3,e4⟩
 split
 .exact ⟨e1,e2,e3,by show (0:Nat)<_;omega⟩
 split
 .exact ⟨e1,e2,e3,e4⟩
 split
 .exact ⟨e1,e2,e1,e4⟩
 .exact ⟨e1,e2,e3,e4⟩
theorem QdO (d:Nk) (xs:List Nat) (n:Nat) (p:Int) (v c:Nat):QjG (Qbj d xs n p v c).2:=by
 unfold Qbj QjG;intro l h;split at h
 .cases h
 split at h
 .cases h
 split at h
 .cases h
 split at h
 .cases h
 split at h
 .injection h with h
  subst h;exact ⟨rfl,rfl,rfl⟩
 split at h
 .cases h
 .cases h
theorem QBW (M:Mc) (hM:M.ok) (p:Int):(inM M p).ok:=by
 unfold inM;split
 .obtain ⟨h1,h2,h3,h4,h5,h6,h7,h8,h9,g1,g2,g3,g4,g5⟩:=hM
  refine ⟨h1,h2,h3,h4,h5,h6,h7,h8,h9,g1,g2,g3,g4,?_⟩;show (QkG M.ks p).size<=1000000;unfold QkG;split
  .grind [ByteArray.size_extract,inM]
  .exact g5
 .exact hM
def QbA (M:Mc) (p:Int) (v:Nat):Mc × Option (List SV) :=
 if p=0 then (M,some [.i 1,.w M.ct,.u 0,.str (strOfNums [v%256])])
 else if p<=2 then (M,none)
 else if p=3 then ({ M with ta:=decide (¬ (v:Int)=0),td:=v,tf:=false },none)
 else if p<=6 then ({ M with d:=(Qa9 M.d M.m M.m.length p v M.ct).1 },(Qa9 M.d M.m M.m.length p v M.ct).2)
 else if p<=9 then ({ M with n:=(Qbj M.n M.m M.m.length p v M.ct).1 },(Qbj M.n M.m M.m.length p v M.ct).2)
 else ({ M with bg:=Qhd M.bg M.m.length p v,m:=QfK M.m M.bg M.m.length p v },none)
theorem Qio (M:Mc) (p:Int) (v:Nat):QjG (QbA M p v).2:=by
 unfold QbA;split
 .intro l h;injection h with h;subst h;exact ⟨rfl,rfl,rfl⟩
 split
 .intro l h;cases h
 split
 .intro l h;cases h
 split
 .exact QdI _ _ _ _ _ _
 split
 .exact QdO _ _ _ _ _ _
 .intro l h;cases h
theorem Qyo (M:Mc) (hM:M.ok) (p:Int) (v:Nat) (hv:v<4294967296):(QbA M p v).1.ok:=by
 have k:=hM;obtain ⟨h1,h2,h3,h4,h5,h6,h7,h8,h9,g1,g2,g3,g4,g5⟩:=hM;unfold QbA;split
 .exact k
 split
 .exact k
 split
 .exact ⟨h1,h2,h3,h4,h5,h6,h7,h8,h9,hv,g2,g3,g4,g5⟩
 split
 .exact ⟨h1,h2,h3,h4,h5,h6,h7,Qpi _ h8 _ _ _ _ hv _,h9,g1,g2,g3,g4,g5⟩
 split
 .exact ⟨h1,h2,h3,h4,h5,h6,h7,h8,QqU _ h9 _ _ _ _ hv _,g1,g2,g3,g4,g5⟩
 .refine ⟨h1,h2,h3,h4,h5,QxK _ _ _ _ _ h6,?_,h8,h9,g1,g2,QxJ _ _ g3 _ _,g4,g5⟩
  show (QfK M.m M.bg M.m.length p v).length<=1000000;rw [QeN];exact h7
theorem Qin (M:Mc) (p:Int) (v:Nat):(QbA M p v).1.m.length=M.m.length:=by
 unfold QbA;split
 .rfl
 split
 .rfl
 split
 .rfl
 split
 .rfl
 split
 .rfl
 .exact QeN _ _ _ _ _
end Go.Proofs.YtpgkkfajljekpaaGreat
