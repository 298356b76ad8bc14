import Derived.Test.YtflaceijiphfdaaGreatP6
import Derived.Test.YtflaceijiphfdaaGreatP9
set_option linter.unusedSimpArgs false
set_option linter.unusedVariables false
set_option maxHeartbeats 0
set_option maxRecDepth 100000
namespace Go.Proofs.YtflaceijiphfdaaGreat
open Go Go.RowKit
def opsL:List Int:= [1,2,3,4,5,6,7,8,9,10,11,12,13,16,16,17,18,19,20,21,22,23,24,24,32,32,33,34,35,35,36,40,41,42,43,44,45,48,49,56,57,58,59,60,60,61,61,62,63,64]
theorem QBU:FN 19 [] [] (. =⟨.a (.s (.sl 0 0 50)),[],[⟨true,1,isv .i64 opsL⟩]⟩):=by
 refine fnW Tryz.func19 ?_;(conv=>whnf);(repeat' ((first|exact zi0|refine zj0 fun hb=>?_|refine zs0 ?_|refine zbb ?_ ?_)<;>conv=>whnf))
 all_goals (exact QHc)
def io (n:Int):Int:=opsL.getD (mix n 1%50).toNat 0
def Qz8 (o:Int):Prop:=1<=o/\o<=13\/16<=o/\o<=24\/32<=o/\o<=36\/40<=o/\o<=45\/o=48\/o=49\/56<=o/\o<=64
instance (o:Int):Decidable (Qz8 o):=by unfold Qz8;infer_instance
theorem QBV:∀ q:Nat,q<50->Qz8 (opsL.getD q 0):=by decide
theorem QBC (n:Int):Qz8 (io n):=QBV _ (by omega)
def ir (n:Int) (d:Int):Int:=mix n 1 / d%6
def ik (n:Int):Int:=mix n 1 / 1048576%24
def Qg1 (n:Int):List SV :=
 if io n<=13 then iv (io n) (ir n 256) (ir n 4096) (ir n 65536) 0
 else if 40<=io n/\io n<=48 then iv (io n) (ir n 256) (if io n=48 then 0 else ir n 4096) 0 (ik n-12)
 else if io n=16\/io n=23\/32<=io n/\io n<=36\/io n=49 then iv (io n) (ir n 256) (ir n 4096) 0 (8*ik n-32)
 else if io n=24 then iv (io n) (ir n 256) 0 0 (ik n*(mix n 1 / 1099511627776%2))
 else if 17<=io n/\io n<=22 then iv (io n) (ir n 256) (ir n 4096) 0 (ik n)
 else if io n=58\/io n=59 then iv (io n) (ir n 256) 0 0 (ik n%8)
 else if io n=60\/io n=61 then iv (io n) (ir n 256) 0 0 (ik n%12)
 else iv (io n) 0 0 0 0
theorem sh8 (x:Int):x / 2^min (Int.toNat 8) IntKind.i64.bits=x / 256:=by rw [show (2:Int)^min (Int.toNat 8) IntKind.i64.bits=256 from rfl]
theorem QH9 (x:Int):x / 2^min (Int.toNat 12) IntKind.i64.bits=x / 4096:=by rw [show (2:Int)^min (Int.toNat 12) IntKind.i64.bits=4096 from rfl]
theorem QIa (x:Int):x / 2^min (Int.toNat 16) IntKind.i64.bits=x / 65536:=by rw [show (2:Int)^min (Int.toNat 16) IntKind.i64.bits=65536 from rfl]
theorem QIb (x:Int):x / 2^min (Int.toNat 20) IntKind.i64.bits=x / 1048576:=by rw [show (2:Int)^min (Int.toNat 20) IntKind.i64.bits=1048576 from rfl]
theorem QIc (x:Int):x / 2^min (Int.toNat 40) IntKind.i64.bits=x / 1099511627776:=by rw [show (2:Int)^min (Int.toNat 40) IntKind.i64.bits=1099511627776 from rfl]
theorem Qsv (x:Int) (h0:0<=x) (h1:x<9223372036854775808):bits .and .i64 x 1=x%2:=by
 obtain ⟨n,rfl⟩:=Int.eq_ofNat_of_zero_le h0
 have e:((BitVec.ofInt 64 (n:Int)) &&& (BitVec.ofInt 64 1)).toNat=n%2:=by
  rw [BitVec.toNat_and,show (BitVec.ofInt 64 1).toNat=1 from rfl,Nat.and_one_is_mod]
  have:(BitVec.ofInt 64 (n:Int)).toNat=n:=by
   rw [BitVec.toNat_ofInt];simp;omega
  rw [this]
 show IntKind.i64.wrap (((BitVec.ofInt 64 (n:Int)) &&& (BitVec.ofInt 64 1)).toNat:Int)=_;rw [e,Qb3 (by omega) (by omega)];omega
theorem QxO (q:Int) (h0:0<=q) (h1:q<50):(isv .i64 opsL)[0+q.toNat * 1]?=some (.i (opsL.getD q.toNat 0)):=by
 rw [Nat.zero_add,Nat.mul_one];exact Qqc .i64 opsL q.toNat (by show q.toNat<50;omega)
theorem Qxr (n:Int):FN 5 [.s (.i n)] [] (. =⟨.a (.agg (Qg1 n)),[],[]⟩):=by
 have hm:=Qjn n 1;have ho:=QBC n;unfold Qz8 at ho;have hk:0<=ik n/\ik n<24:=by unfold ik;omega
 have hq:0<=mix n 1%50/\mix n 1%50<50:=by omega
 have a1:bits .and .i64 (mix n 1 / 1099511627776) 1=mix n 1 / 1099511627776%2:=Qsv _ (by omega) (by omega);have c1:=QgH (mix n 1) 50 (by omega) (by omega);have c2:=QgH (mix n 1 / 256) 6 (by omega) (by omega);have c3:=QgH (mix n 1 / 4096) 6 (by omega) (by omega);have c4:=QgH (mix n 1 / 65536) 6 (by omega) (by omega);have c5:=QgH (mix n 1 / 1048576) 24 (by omega) (by omega);have c0:=QBI n 1;have gq:=QxO _ hq.1 hq.2;have jU:0<=mix n 1 / 1099511627776%2/\mix n 1 / 1099511627776%2<2:=by omega
 have hkm:0<=ik n*(mix n 1 / 1099511627776%2)/\ik n*(mix n 1 / 1099511627776%2)<24:=by
  rcases (by omega:mix n 1 / 1099511627776%2=0\/mix n 1 / 1099511627776%2=1) with e|e<;>rw [e]<;>omega
 have k1:IntKind.i64.wrap (ik n*(mix n 1 / 1099511627776%2))=ik n*(mix n 1 / 1099511627776%2):=Qb3 (by omega) (by omega);have k2:IntKind.i32.wrap (ik n*(mix n 1 / 1099511627776%2))=ik n*(mix n 1 / 1099511627776%2):=Qsq (by omega) (by omega);show Fn _ _ _ _ (. =⟨.a (.agg (Qg1 n)),[],[]⟩);unfold Qg1;change Fn _ _ [.s (.i (mix n 1 / 1048576)),_] _ (. =⟨.a (.s (.i (ik n))),_,_⟩) at c5;change Fn _ _ [.s (.i (mix n 1 / 256)),_] _ (. =⟨.a (.s (.i (ir n 256))),_,_⟩) at c2;change Fn _ _ [.s (.i (mix n 1 / 4096)),_] _ (. =⟨.a (.s (.i (ir n 4096))),_,_⟩) at c3;change Fn _ _ [.s (.i (mix n 1 / 65536)),_] _ (. =⟨.a (.s (.i (ir n 65536))),_,_⟩) at c4;change _=some (SV.int .i64 (io n)) at gq;have fo:=QBU;have hls:Qaq (isv .i64 opsL)=true:=Qbe _ _;generalize isv .i64 opsL=Lc,io n=o,ik n=k,ir n 256=A,ir n 4096=B,ir n 65536=C,mix n 1=M at *;generalize M / 1099511627776%2=z at *;refine fnW Tryz.func5 ?_;(conv=>whnf);(repeat' ((first|exact zi0|refine zj0 fun hb=>?_|(refine Qae (f:=19) fo [] [] rfl trivial trivial ⟨rfl,Qbm⟩ ?_)|(refine Qac (f:=20) (c0) rfl ?_)|(refine Qac (f:=8) (c1) rfl ?_)|(refine Qac (f:=8) (c2) rfl ?_)|(refine Qac (f:=8) (c3) rfl ?_)|(refine Qac (f:=8) (c4) rfl ?_)|(refine Qac (f:=8) (c5) rfl ?_)|(with_reducible first|refine zv (sh8 _) ?_|refine zv (QH9 _) ?_|refine zv (QIa _) ?_|refine zv (QIb _) ?_|refine zv (QIc _) ?_|refine zv a1 ?_|refine zv k1 ?_|refine zv k2 ?_)|((with_reducible apply Ge.mk (α:=SV)); . exact gq)|refine zs0 ?_|refine zbb ?_ ?_)<;>conv=>whnf))
 all_goals first
  | (rw [zP (by omega)];exact Qam rfl rfl)
  | (rw [zN (by omega),zP (by omega)];first|(rw [zP (by omega)];exact Qam rfl rfl)|(rw [zN (by omega)];exact Qam rfl rfl))
  | (rw [zN (by omega),zN (by omega),zP (by omega)];exact Qam rfl rfl)
  | (rw [zN (by omega),zN (by omega),zN (by omega),zP (by omega)];exact Qam rfl rfl)
  | (rw [zN (by omega),zN (by omega),zN (by omega),zN (by omega),zP (by omega)];exact Qam rfl rfl)
  | (rw [zN (by omega),zN (by omega),zN (by omega),zN (by omega),zN (by omega),zP (by omega)];exact Qam rfl rfl)
  | (rw [zN (by omega),zN (by omega),zN (by omega),zN (by omega),zN (by omega),zN (by omega),zP (by omega)];exact Qam rfl rfl)
  | (rw [zN (by omega),zN (by omega),zN (by omega),zN (by omega),zN (by omega),zN (by omega),zN (by omega)];exact Qam rfl rfl)
def loV (f:Int):Int:=if f=3\/f=7 then -32768 else 0
def hiV (f:Int):Int:=if f=3\/f=7 then 32767 else if f=4\/f=6 then 65535 else if f=5 then 31 else if f=8 then 7 else if f=9 then 11 else 0
theorem Qeq (f:Int):FN 39 [.s (.i f)] [] (. =⟨.tup [.s (.i (loV f)),.s (.i (hiV f))],[],[]⟩):=by
 refine fnW Tryz.func39 ?_;(conv=>whnf);(repeat' ((first|exact zi0|refine zj0 fun hb=>?_|refine zs0 ?_|refine zbb ?_ ?_)<;>conv=>whnf))
 all_goals first
  | (subst hb;exact Qam rfl rfl)
  | (
    apply Qam
    (focus rfl)
    simp only [Qba]
    rw [loV,hiV,zN (by omega),zN (by omega),zN (by omega),zN (by omega),zN (by omega),zN (by omega)])
def rgV (r:Int):Bool:=decide (0<=r/\r<=15)
theorem QCd (r:Int):FN 38 [.s (.i r)] [] (. =⟨.a (.s (.bool (rgV r))),[],[]⟩):=by
 refine fnW Tryz.func38 ?_;(conv=>whnf);(repeat' ((first|exact zi0|refine zj0 fun hb=>?_|refine zs0 ?_|refine zbb ?_ ?_)<;>conv=>whnf))
 all_goals (apply Qam;(focus rfl);simp only [Qba];congr 3;grind [rgV])
def rvV (o a b c m:Int):Bool :=
 decide (QaK o≠0/\(0<=a/\a<=15)/\(0<=b/\b<=15)/\(0<=c/\c<=15)/\loV (QaK o)<=m/\m<=hiV (QaK o)/\(QaK o=2\/c=0)/\(QaK o=1->a=0)/\(b=0\/2<=QaK o/\QaK o<=5))
theorem QjF (o a b c m:Int) (hm: -2147483648<=m/\m<=2147483647):FN 18 [.agg (iv o a b c m)] [] (. =⟨.a (.s (.bool (rvV o a b c m))),[],[]⟩):=by
 unfold rvV;have hf:=Qgl o;have VX:=Qeq (QaK o);generalize QaK o=f at *;generalize loV f=lo,hiV f=hi at *;refine fnW Tryz.func18 ?_;unfold iv;(conv=>whnf);(repeat' ((first|exact zi0|refine zj0 fun hb=>?_|(refine Qac (f:=37) (hf) rfl ?_)|(refine Qac (f:=39) (VX) rfl ?_)|(refine Qac (f:=38) (QCd _) rfl ?_)|refine zs0 ?_|refine zbb ?_ ?_)<;>conv=>whnf))
 all_goals
  apply Qam
  (focus rfl)
  simp only [Qba];congr 3
  try simp only [rgV,zde,decide_eq_false_iff_not,Bool.not_eq_true',Bool.not_eq_false'] at *
  first
   | (refine (zdf ?_).symm;omega)
   | (refine (zdt ?_).symm;omega)
   | (rw [zbi];simp only [zde,beq_iff_eq];omega)
def QsV (o a b c m:Int):Int:=o*16777216+a*1048576+b*65536+m%65536+c
theorem QBW (p q k:Nat) (h:q<2^k):(2^k*p) ||| q=2^k*p+q:=(Nat.two_pow_add_eq_or_of_lt h p).symm
theorem QG8 (x:Int) (n:Nat) (hn:n<=32):x*2^min ((n:Nat):Int).toNat IntKind.u32.bits=x*2^n:=by
 have:min ((n:Nat):Int).toNat IntKind.u32.bits=n:=QuI;rw [this]
theorem QAH (a:Nat) (ha:ZU a):(BitVec.ofInt 32 (a:Int)).toNat=a:=by
 rw [BitVec.toNat_ofInt];simp;omega
theorem QxQ (a b:Nat) (ha:ZU a) (hb:ZU b):bits .or .u32 (a:Int) b=((a ||| b:Nat):Int):=by
 have h:a ||| b<2^32:=Nat.or_lt_two_pow (by simpa using ha) (by simpa using hb);show IntKind.u32.wrap (((BitVec.ofInt 32 (a:Int)) ||| (BitVec.ofInt 32 (b:Int))).toNat:Int)=_;rw [BitVec.toNat_or,QAH a ha,QAH b hb,Qce];simp only [Nat.reducePow] at h;omega
theorem Qjr (x y:Int) (k:Nat) (p q:Nat) (hx:x=((2^k*p:Nat):Int)) (hy:y=(q:Int)) (hq:q<2^k) (h1:2^k*p<4294967296) (h2:ZU q):bits .or .u32 x y=x+y:=by
 subst hx hy;rw [QxQ _ _ h1 h2,QBW p q k hq];simp
theorem QfM {o:Int} (h:QaK o≠0):1<=o/\o<=64:=by
 by_cases h1:1<=o/\o<=64
 .exact h1
 .refine absurd ?_ h
  unfold QaK
  repeat' first
   | rfl
   | (apply Qqa<;>intro _)
   | (exfalso;omega)
theorem QHX:loV 2=0/\hiV 2=0:=⟨rfl,rfl⟩
theorem Qi3 (o a b c m:Int) (hm: -2147483648<=m/\m<=2147483647) (hv:rvV o a b c m=true):FN 4 [.agg (iv o a b c m)] [] (. =⟨.tup [.s (.u (QsV o a b c m)),.s (.bool true)],[],[]⟩):=by
 have f1:=QjF o a b c m hm;rw [hv] at f1;have hv:=of_decide_eq_true hv;obtain ⟨v1,_,_,_,v5,v6,v7,_,_⟩:=hv;have ho:=QfM v1
 have hcm:c=0\/m=0:=by
  rcases v7 with h|h
  .rw [h] at v5 v6;have:=QHX;right;omega
  .exact .inl h
 have w1:IntKind.u32.wrap o=o:=QeO (by omega) (by omega);have w2:IntKind.u32.wrap a=a:=QeO (by omega) (by omega);have w3:IntKind.u32.wrap b=b:=QeO (by omega) (by omega);have w4:IntKind.u32.wrap c=c:=QeO (by omega) (by omega);have w5:IntKind.u32.wrap m=m%4294967296:=Qce m
 have s1:IntKind.u32.wrap (o*2^min (Int.toNat 24) IntKind.u32.bits)=o*16777216:=by
  rw [show (2:Int)^min (Int.toNat 24) IntKind.u32.bits=16777216 from rfl];exact QeO (by omega) (by omega)
 have s2:IntKind.u32.wrap (a*2^min (Int.toNat 20) IntKind.u32.bits)=a*1048576:=by
  rw [show (2:Int)^min (Int.toNat 20) IntKind.u32.bits=1048576 from rfl];exact QeO (by omega) (by omega)
 have s3:IntKind.u32.wrap (b*2^min (Int.toNat 16) IntKind.u32.bits)=b*65536:=by
  rw [show (2:Int)^min (Int.toNat 16) IntKind.u32.bits=65536 from rfl];exact QeO (by omega) (by omega)
 have e1:bits .or .u32 (o*16777216) (a*1048576)=o*16777216+a*1048576:=Qjr _ _ 24 o.toNat (a*1048576).toNat (by simp only [Nat.reducePow];omega) (by omega) (by simp only [Nat.reducePow];omega) (by simp only [Nat.reducePow];omega) (by omega);have e2:bits .or .u32 (o*16777216+a*1048576) (b*65536)=o*16777216+a*1048576+b*65536:=Qjr _ _ 20 (16*o+a).toNat (b*65536).toNat (by simp only [Nat.reducePow];omega) (by omega) (by simp only [Nat.reducePow];omega) (by simp only [Nat.reducePow];omega) (by omega)
 have e3:bits .and .u32 (m%4294967296) 65535=m%65536:=by
  have:=QaS (m%4294967296).toNat 16 (by omega) (by omega);rw [show (((m%4294967296).toNat:Nat):Int)=m%4294967296 by omega] at this;have e:bits .and .u32 (m%4294967296) 65535=(((m%4294967296).toNat%2^16:Nat):Int):=this;rw [e];simp only [Nat.reducePow];omega
 have e4:bits .or .u32 (o*16777216+a*1048576+b*65536) (m%65536)=o*16777216+a*1048576+b*65536+m%65536:=Qjr _ _ 16 (256*o+16*a+b).toNat (m%65536).toNat (by simp only [Nat.reducePow];omega) (by omega) (by simp only [Nat.reducePow];omega) (by simp only [Nat.reducePow];omega) (by omega)
 have e5:bits .or .u32 (o*16777216+a*1048576+b*65536+m%65536) c=QsV o a b c m:=by
  unfold QsV;rcases hcm with h|h
  .subst h
   exact Qjr _ _ 0 (o*16777216+a*1048576+b*65536+m%65536).toNat 0 (by simp only [Nat.pow_zero];omega) rfl (by simp) (by simp only [Nat.pow_zero];omega) (by omega)
  .subst h
   exact Qjr _ _ 16 (256*o+16*a+b).toNat c.toNat (by simp only [Nat.reducePow];omega) (by omega) (by simp only [Nat.reducePow];omega) (by simp only [Nat.reducePow];omega) (by omega)
 refine fnW Tryz.func4 ?_;unfold iv;(conv=>whnf);(repeat' ((first|exact zi0|refine zj0 fun hb=>?_|(refine Qac (f:=18) (f1) rfl ?_)|(with_reducible first|refine zv w1 ?_|refine zv w2 ?_|refine zv w3 ?_|refine zv w4 ?_|refine zv w5 ?_|refine zv s1 ?_|refine zv s2 ?_|refine zv s3 ?_|refine zv e1 ?_|refine zv e2 ?_|refine zv e3 ?_|refine zv e4 ?_|refine zv e5 ?_)|refine zs0 ?_|refine zbb ?_ ?_)<;>conv=>whnf))
 all_goals exact Qam rfl rfl
theorem QlU:∀ k:Nat,k<65->QaK (k:Int)≠0->QcP k=true/\QrX k= !(QaK k==1)/\Qzf k=decide (2<=QaK k/\QaK k<=5)/\QrY k=(QaK k==2)/\QgS k=loV (QaK k)/\Qg5 k=hiV (QaK k):=by decide
theorem Qu7 {o a b c m:Int} (hv:rvV o a b c m=true):0<=QsV o a b c m/\QsV o a b c m<4294967296:=by
 obtain ⟨v1,_,_,_,_,_,_,_,_⟩:=of_decide_eq_true hv;have ho:=QfM v1;unfold QsV;omega
theorem Qxs (n:Int):∃ o a b c m:Int,Qg1 n=iv o a b c m/\rvV o a b c m=true/\ -2147483648<=m/\m<=2147483647/\o=io n:=by
 have ho:=QBC n;unfold Qz8 at ho;have hk:0<=ik n/\ik n<24:=by unfold ik;omega
 have hr:∀ d,0<=ir n d/\ir n d<6:=fun d=>by unfold ir;omega
 have r1:=hr 256;have r2:=hr 4096;have r3:=hr 65536
 have hkm:0<=ik n*(mix n 1 / 1099511627776%2)/\ik n*(mix n 1 / 1099511627776%2)<24:=by
  rcases (by omega:mix n 1 / 1099511627776%2=0\/mix n 1 / 1099511627776%2=1) with e|e<;>rw [e]<;>omega
 unfold Qg1;generalize io n=o,ik n=k,ir n 256=A,ir n 4096=B,ir n 65536=C at *;generalize k*(mix n 1 / 1099511627776%2)=kz at *
 have fin:∀ (f a b c m:Int),QaK o=f->(f≠0/\(0<=a/\a<=15)/\(0<=b/\b<=15)/\(0<=c/\c<=15)/\loV f<=m/\m<=hiV f/\(f=2\/c=0)/\(f=1->a=0)/\(b=0\/2<=f/\f<=5))->rvV o a b c m=true:=fun f a b c m hf h=>by
  unfold rvV;rw [hf];exact zdt h
 have fv:∀ f:Int,(QaK o=f)↔(QaK o=f):=fun f=>Iff.rfl
 by_cases c1:o<=13
 .rw [zP c1]
  exact ⟨o,A,B,C,0,rfl,fin 2 _ _ _ _ (by unfold QaK;rw [zP (by omega)]) ⟨by omega,by omega,by omega,by omega,by decide,by decide,by omega,by omega,by omega⟩,by omega,by omega,rfl⟩
 rw [zN c1]
 by_cases c2:40<=o/\o<=48
 .rw [zP c2]
  by_cases c3:o=48
  .rw [zP c3]
   exact ⟨o,A,0,0,k-12,rfl,fin 7 _ _ _ _ (by subst c3;rfl) ⟨by omega,by omega,by omega,by omega,by show (-32768:Int)<=_;omega,by show _<=(32767:Int);omega,by omega,by omega,by omega⟩,by omega,by omega,rfl⟩
  .rw [zN c3]
   exact ⟨o,A,B,0,k-12,rfl,fin 3 _ _ _ _ (by unfold QaK;rw [zN (by omega),zP (by omega)]) ⟨by omega,by omega,by omega,by omega,by show (-32768:Int)<=_;omega,by show _<=(32767:Int);omega,by omega,by omega,by omega⟩,by omega,by omega,rfl⟩
 rw [zN c2]
 by_cases c4:o=16\/o=23\/32<=o/\o<=36\/o=49
 .rw [zP c4]
  exact ⟨o,A,B,0,8*k-32,rfl,fin 3 _ _ _ _ (by unfold QaK;rw [zN (by omega),zP (by omega)]) ⟨by omega,by omega,by omega,by omega,by show (-32768:Int)<=_;omega,by show _<=(32767:Int);omega,by omega,by omega,by omega⟩,by omega,by omega,rfl⟩
 rw [zN c4]
 by_cases c5:o=24
 .rw [zP c5]
  exact ⟨o,A,0,0,kz,rfl,fin 6 _ _ _ _ (by subst c5;rfl) ⟨by omega,by omega,by omega,by omega,by show (0:Int)<=_;omega,by show _<=(65535:Int);omega,by omega,by omega,by omega⟩,by omega,by omega,rfl⟩
 rw [zN c5]
 by_cases c6:17<=o/\o<=22
 .rw [zP c6]
  by_cases c7:o<=19
  .exact ⟨o,A,B,0,k,rfl,fin 4 _ _ _ _ (by unfold QaK;rw [zN (by omega),zN (by omega),zP (by omega)]) ⟨by omega,by omega,by omega,by omega,by show (0:Int)<=_;omega,by show _<=(65535:Int);omega,by omega,by omega,by omega⟩,by omega,by omega,rfl⟩
  .exact ⟨o,A,B,0,k,rfl,fin 5 _ _ _ _ (by unfold QaK;rw [zN (by omega),zN (by omega),zN (by omega),zP (by omega)]) ⟨by omega,by omega,by omega,by omega,by show (0:Int)<=_;omega,by show _<=(31:Int);omega,by omega,by omega,by omega⟩,by omega,by omega,rfl⟩
 rw [zN c6]
 by_cases c8:o=58\/o=59
 .rw [zP c8]
  exact ⟨o,A,0,0,k%8,rfl,fin 8 _ _ _ _ (by rcases c8 with rfl|rfl<;>rfl) ⟨by omega,by omega,by omega,by omega,by show (0:Int)<=_;omega,by show _<=(7:Int);omega,by omega,by omega,by omega⟩,by omega,by omega,rfl⟩
 rw [zN c8]
 by_cases c9:o=60\/o=61
 .rw [zP c9]
  exact ⟨o,A,0,0,k%12,rfl,fin 9 _ _ _ _ (by rcases c9 with rfl|rfl<;>rfl) ⟨by omega,by omega,by omega,by omega,by show (0:Int)<=_;omega,by show _<=(11:Int);omega,by omega,by omega,by omega⟩,by omega,by omega,rfl⟩
 rw [zN c9]
 exact ⟨o,0,0,0,0,rfl,fin 1 _ _ _ _ (by
  have:o=56\/o=57\/o=62\/o=63\/o=64:=by omega
  rcases this with rfl|rfl|rfl|rfl|rfl<;>rfl) ⟨by omega,by omega,by omega,by omega,by decide,by decide,by omega,by omega,by omega⟩,by omega,by omega,rfl⟩
def QEm:List SV->Nat
 | [.int _ o,.int _ a,.int _ b,.int _ c,.int _ m]=>(QsV o a b c m).toNat
 | _=>0
theorem QwL (n:Int):FN 4 [.agg (Qg1 n)] [] (. =⟨.tup [.s (.u (QEm (Qg1 n):Nat)),.s (.bool true)],[],[]⟩)/\QEm (Qg1 n)<4294967296/\∃ o a b c m:Int,Qg1 n=iv o a b c m:=by
 obtain ⟨o,a,b,c,m,h1,h2,h3,h4,_⟩:=Qxs n;have he:=Qu7 h2;have e:QEm (Qg1 n)=(QsV o a b c m).toNat:=by rw [h1];rfl
 rw [e,h1,Int.toNat_of_nonneg he.1];exact ⟨Qi3 o a b c m ⟨h3,h4⟩ h2,by omega,o,a,b,c,m,rfl⟩
theorem QHR (w:Nat) (hw:ZU w):IntKind.i64.wrap ((w:Int) / 2^min (Int.toNat 24) IntKind.u32.bits)=dOp w:=by
 rw [show (2:Int)^min (Int.toNat 24) IntKind.u32.bits=16777216 from rfl,Qb3 (by omega) (by omega)];unfold dOp;simp only [Nat.reducePow];omega
theorem e_a (w:Nat) (hw:ZU w):bits .and .u32 ((w:Int) / 2^min (Int.toNat 20) IntKind.u32.bits) 15=dA w:=Qex w 20 4 hw (by omega) (by omega)
theorem e_b (w:Nat) (hw:ZU w):bits .and .u32 ((w:Int) / 2^min (Int.toNat 16) IntKind.u32.bits) 15=dB w:=Qex w 16 4 hw (by omega) (by omega)
theorem e_i (w:Nat) (hw:ZU w):bits .and .u32 (w:Int) 65535=((dI w:Nat):Int):=by
 have:=QaS w 16 hw (by omega);unfold dI;rw [Nat.pow_zero,Nat.div_one];exact this
theorem QlN (w:Int) (l:Int):w / 2^min l.toNat IntKind.u32.bits=w / 2^min l.toNat IntKind.u32.bits:=rfl
theorem QHS (x:Nat) (hx:x<65536):IntKind.i32.wrap (IntKind.i16.wrap (x:Int))=sx x:=by
 have e:IntKind.i16.wrap (x:Int)=sx x:=by
  unfold IntKind.wrap sx;simp only [IntKind.signed,IntKind.bits,Bool.true_and,zde]
  by_cases h:x<32768
  .rw [zP h,zN (by simp;omega)];omega
  .rw [zN h,zP (by simp;omega)];omega
 rw [e];have: -32768<=sx x/\sx x<=32767:=by unfold sx;split<;>omega
 exact Qsq (by omega) (by omega)
theorem QpT (o:Int):0<=QaK o/\QaK o<=9:=by
 unfold QaK
 repeat' split
 all_goals omega
theorem QpS (o:Int) (h:QaK o=0):QcP o=false:=by
 unfold QcP QrX;rw [Bool.or_eq_false_iff,decide_eq_false_iff_not,decide_eq_false_iff_not];unfold QaK at h;constructor
 .intro h1
  repeat' split at h
  all_goals omega
 .intro h1
  repeat' split at h
  all_goals omega
theorem QCg (w:Nat) (hw:ZU w) (hF:QaK (dOp w)≠0):rvV (dOp w) (dA w) (dB w) (dC w) (dM w)=dOk w:=by
 have ho:=QfM hF;obtain ⟨u0,u1,u2,u3,u4,u5⟩:=QlU (dOp w).toNat (by omega) (by rw [Int.toNat_of_nonneg (by omega)];exact hF);rw [Int.toNat_of_nonneg (by omega)] at u0 u1 u2 u3 u4 u5;have ha:0<=dA w/\dA w<=15:=by unfold dA;simp only [Nat.reducePow];omega
 have hb:0<=dB w/\dB w<=15:=by unfold dB;simp only [Nat.reducePow];omega
 have fF:0<=dC w:=by unfold dC;split<;>omega
 have GQ:QaK (dOp w)≠2->dC w=0:=fun h=>by unfold dC;rw [u3,zN (by simp [h])]
 have hr:=QpT (dOp w);unfold rvV dOk Qfw;rw [u0,u1,u2,u3,u4,u5,Bool.true_and,zbi];generalize QaK (dOp w)=F,dA w=a,dB w=b,dC w=c,dM w=m at *;generalize loV F=lo,hiV F=hi at *;clear u0 u1 u2 u3 u4 u5;have HD:F=1\/F=2\/(3<=F/\F<=5)\/6<=F:=by omega
 simp only [zba,zde,Bool.true_and];rcases HD with h|h|h|h
 .subst h
  have:=GQ (by omega);subst this;simp only [show ((1:Int)==1)=true from rfl,show ((1:Int)==2)=false from rfl,Bool.not_true,Qmf,beq_iff_eq,show decide ((2:Int)<=1/\(1:Int)<=5)=false from rfl,Decidable.imp_iff_not_or,true_or,or_true,true_and,and_true,not_true_eq_false,false_or];omega
 .subst h
  simp only [show ((2:Int)==1)=false from rfl,show ((2:Int)==2)=true from rfl,Bool.not_false,Qmf,zba,zde,show decide ((2:Int)<=2/\(2:Int)<=5)=true from rfl,Decidable.imp_iff_not_or,true_or,or_true,true_and,and_true,not_true_eq_false,false_or];omega
 .have:=GQ (by omega)
  subst this;have e1:(F==1)=false:=by simp;omega
  have e2:(F==2)=false:=by simp;omega
  have e3:decide ((2:Int)<=F/\F<=5)=true:=zdt (by omega);simp only [e1,e2,e3,Bool.not_false,Qmf,zba,zde,beq_iff_eq,Decidable.imp_iff_not_or,true_or,or_true,true_and,and_true,not_true_eq_false,false_or];omega
 .have:=GQ (by omega)
  subst this;have e1:(F==1)=false:=by simp;omega
  have e2:(F==2)=false:=by simp;omega
  have e3:decide ((2:Int)<=F/\F<=5)=false:=zdf (by omega);simp only [e1,e2,e3,Bool.not_false,Qmf,zba,zde,beq_iff_eq,Decidable.imp_iff_not_or,true_or,or_true,true_and,and_true,not_true_eq_false,false_or];omega
theorem QqY (w:Nat) (hw:ZU w):FN 88 [.s (.u w)] [] (. =⟨.tup [.agg (iv (kz (dOk w) (dOp w)) (kz (dOk w) (dA w)) (kz (dOk w) (dB w)) (kz (dOk w) (dC w)) (kz (dOk w) (dM w))),.s (.bool (dOk w))],[],[]⟩):=by
 have hf:=Qgl (dOp w);have w1:=QHR w hw;have w2:=e_a w hw;have w3:=e_b w hw;have w4:=e_i w hw;have ha:0<=dA w/\dA w<=15:=by unfold dA;simp only [Nat.reducePow];omega
 have fM:0<=dB w/\dB w<=15:=by unfold dB;simp only [Nat.reducePow];omega
 have w5:IntKind.i64.wrap (dA w)=dA w:=Qb3 (by omega) (by omega);have w6:IntKind.i64.wrap (dB w)=dB w:=Qb3 (by omega) (by omega);have hIl:dI w<65536:=by unfold dI;simp only [Nat.reducePow];omega
 by_cases hF:QaK (dOp w)=0
 .have hd:dOk w=false:=by unfold dOk;rw [QpS _ hF];rfl
  rw [hF] at hf;rw [hd];generalize dOp w=o,dA w=a,dB w=b at *;refine fnW Tryz.func88 ?_;(conv=>whnf);(repeat' ((first|exact zi0|refine zj0 fun hb=>?_|(with_reducible first|refine zv (QlN _ _) ?_|refine zv w1 ?_|refine zv w2 ?_|refine zv w3 ?_|refine zv w5 ?_|refine zv w6 ?_)|(refine Qac (f:=37) (hf) rfl ?_)|refine zs0 ?_|refine zbb ?_ ?_)<;>conv=>whnf))
  all_goals first|exact Qam rfl rfl
 .have ho:=QfM hF
  obtain ⟨u0,u1,u2,u3,u4,u5⟩:=QlU (dOp w).toNat (by omega) (by rw [Int.toNat_of_nonneg (by omega)];exact hF);rw [Int.toNat_of_nonneg (by omega)] at u3 u4
  have hm: -32768<=dM w/\dM w<=65535:=by
   unfold dM sx
   repeat' split
   all_goals omega
  have hval:=QjF (dOp w) (dA w) (dB w) (dC w) (dM w) (by omega);rw [QCg w hw hF] at hval;have JO:QaK (dOp w)=2->dC w=((dI w:Nat):Int)/\dM w=0:=fun h=>by unfold dC dM;rw [u3,zP (by simp [h]),zP (by simp [h])];exact ⟨rfl,rfl⟩
  have WP:QaK (dOp w)=3\/QaK (dOp w)=7->dC w=0/\dM w=sx (dI w):=fun h=>by
   have e1:loV (QaK (dOp w))= -32768:=by unfold loV;rw [zP h]
   unfold dC dM;rw [u3,zN (by simp;omega),zN (by simp;omega),u4,e1,zP (by omega)];exact ⟨rfl,rfl⟩
  have WQ:QaK (dOp w)≠2->QaK (dOp w)≠3->QaK (dOp w)≠7->dC w=0/\dM w=((dI w:Nat):Int):=fun h h3 h7=>by
   have e1:loV (QaK (dOp w))=0:=by unfold loV;rw [zN (by omega)]
   unfold dC dM;rw [u3,zN (by simp [h]),zN (by simp [h]),u4,e1,zN (by omega)];exact ⟨rfl,rfl⟩
  have w7:IntKind.i64.wrap ((dI w:Nat):Int)=((dI w:Nat):Int):=Qb3 (by omega) (by omega);have w8:IntKind.i32.wrap (IntKind.i16.wrap ((dI w:Nat):Int))=sx (dI w):=QHS _ hIl;have w9:IntKind.i32.wrap ((dI w:Nat):Int)=((dI w:Nat):Int):=Qsq (by omega) (by omega);have k16:IntKind.i16.wrap ((dI w:Nat):Int)=IntKind.i16.wrap ((dI w:Nat):Int):=rfl;have hcase:QaK (dOp w)=2\/(QaK (dOp w)=3\/QaK (dOp w)=7)\/(QaK (dOp w)≠2/\QaK (dOp w)≠3/\QaK (dOp w)≠7):=by omega
  rcases hcase with h|h|h
  .obtain ⟨q1,q2⟩:=JO h
   rw [q1,q2] at hval |-;clear JO WP WQ u0 u1 u2 u3 u4 u5 q1 q2 hm ho;generalize QaK (dOp w)=F,dOk w=ok at *;generalize dOp w=o,dA w=a,dB w=b,dI w=I at *;cases ok
   all_goals
    refine fnW Tryz.func88 ?_;(conv=>whnf);(repeat' ((first|exact zi0|refine zj0 fun hb=>?_|(with_reducible first|refine zv (QlN _ _) ?_|refine zv w1 ?_|refine zv w2 ?_|refine zv w3 ?_|refine zv w4 ?_|refine zv w5 ?_|refine zv w6 ?_|refine zv w7 ?_)|(refine Qac (f:=37) (hf) rfl ?_)|(refine Qac (f:=18) (hval) rfl ?_)|refine zs0 ?_|refine zbb ?_ ?_)<;>conv=>whnf))
    all_goals first|exact Qam rfl rfl
  .obtain ⟨q1,q2⟩:=WP h
   rw [q1,q2] at hval |-;clear JO WP WQ u0 u1 u2 u3 u4 u5 q1 q2 hm ho;generalize QaK (dOp w)=F,dOk w=ok at *;generalize dOp w=o,dA w=a,dB w=b,sx (dI w)=S at *;generalize dI w=I at *;cases ok
   all_goals
    refine fnW Tryz.func88 ?_;(conv=>whnf);(repeat' ((first|exact zi0|refine zj0 fun hb=>?_|(with_reducible first|refine zv (QlN _ _) ?_|refine zv w1 ?_|refine zv w2 ?_|refine zv w3 ?_|refine zv w4 ?_|refine zv w5 ?_|refine zv w6 ?_|refine zv k16 ?_|refine zv w8 ?_)|(refine Qac (f:=37) (hf) rfl ?_)|(refine Qac (f:=18) (hval) rfl ?_)|refine zs0 ?_|refine zbb ?_ ?_)<;>conv=>whnf))
    all_goals first|exact Qam rfl rfl
  .obtain ⟨q1,q2⟩:=WQ h.1 h.2.1 h.2.2
   rw [q1,q2] at hval |-;clear JO WP WQ u0 u1 u2 u3 u4 u5 q1 q2 hm ho;generalize QaK (dOp w)=F,dOk w=ok at *;generalize dOp w=o,dA w=a,dB w=b,dI w=I at *;cases ok
   all_goals
    refine fnW Tryz.func88 ?_;(conv=>whnf);(repeat' ((first|exact zi0|refine zj0 fun hb=>?_|(with_reducible first|refine zv (QlN _ _) ?_|refine zv w1 ?_|refine zv w2 ?_|refine zv w3 ?_|refine zv w4 ?_|refine zv w5 ?_|refine zv w6 ?_|refine zv w9 ?_)|(refine Qac (f:=37) (hf) rfl ?_)|(refine Qac (f:=18) (hval) rfl ?_)|refine zs0 ?_|refine zbb ?_ ?_)<;>conv=>whnf))
    all_goals first|exact Qam rfl rfl
end Go.Proofs.YtflaceijiphfdaaGreat
