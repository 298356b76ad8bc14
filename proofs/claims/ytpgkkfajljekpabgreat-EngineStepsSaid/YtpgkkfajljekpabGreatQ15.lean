import Derived.Test.YtpgkkfajljekpabGreatQ8
import Derived.Test.YtpgkkfajljekpabGreatQ14
set_option linter.unusedSimpArgs false
set_option linter.unusedVariables false
set_option maxHeartbeats 0
set_option maxRecDepth 100000
namespace Go.Proofs.YtpgkkfajljekpabGreat
open Go Go.RowKit
theorem Qnf (k:ByteArray):FN 112 [.agg [.str k]] [] (. =⟨.a (.s (.bool (Qb7 k))),[],[]⟩):=by
 unfold Qb7;refine fnW Tryz.func112 ?_;exact QlZ
theorem Qnp (a:Bool) (d:Nat) (f:Bool):FN 113 [.agg [.bool a,.u d,.bool f]] [] (. =⟨.a (.s (.bool (Qd7 a d f))),[],[]⟩):=by
 cases a<;>cases f
 all_goals
  refine fnW Tryz.func113 ?_;exact QEy
theorem Qnl (n:Nk) (hn:n.ok) (p:Int):FN 115 [.agg n.C,.s (.i p)] [] (. =⟨.a (.s (.bool (Qb8 n p))),[],[]⟩):=by
 cases hn;obtain ⟨fr,ln,po,bu,re,go_⟩:=n;dsimp only at *;dsimp only [Nk.C];generalize hB:Qb8 ⟨fr,ln,po,bu,re,go_⟩ p=B;unfold Qb8 at hB;dsimp only at hB;cases po<;>cases re
 all_goals
  refine fnW Tryz.func115 ?_;exact QEz
theorem Qk0 (a:Bool) (d:Nat) (f:Bool):FN 145 [.agg [.bool a,.u d,.bool f]] [] (. =⟨.a (.s (.bool f)),[],[]⟩):=by
 refine fnW Tryz.func145 ?_;exact QlZ
theorem Qgt (d:Dk):FN 147 [.agg d.C] [] (. =⟨.a (.s (.bool (QbS d.st))),[],[]⟩):=by
 obtain ⟨_,_,_,st⟩:=d;dsimp only [Dk.C];obtain ⟨B,hB⟩:∃ B,QbS st=B:=⟨_,rfl⟩;rw [hB];unfold QbS at hB;refine fnW Tryz.func147 ?_;exact QDQ
theorem QkR (n:Nk):FN 148 [.agg n.C] [] (. =⟨.a (.s (.bool n.re)),[],[]⟩):=by
 obtain ⟨_,_,_,_,re⟩:=n;dsimp only [Nk.C];refine fnW Tryz.func148 ?_;exact QlZ
theorem Qpk (a:Bool) (d:Nat) (f:Bool):FN 233 [.agg [.bool a,.u d,.bool f]] [] (. =⟨.a (.s (.u (Qn7 f:Nat))),[],[]⟩):=by
 cases f
 all_goals
  refine fnW Tryz.func233 ?_;exact QiW
theorem Qo1 (d:Dk) (p:Int):FN 234 [.agg d.C,.s (.i p)] [] (. =⟨.a (.s (.u (Qhi d p:Nat))),[],[]⟩):=by
 have qs:=Qau d.st;obtain ⟨B,hB⟩:∃ B,Qhi d p=B:=⟨_,rfl⟩;rw [hB];unfold Qhi at hB;obtain ⟨_,_,_,st⟩:=d;dsimp only [Dk.C] at *;generalize w32 st=ws at *
 by_cases h4:p=4
 .rw [zP h4] at hB
  subst h4 hB;refine fnW Tryz.func234 ?_;exact Qfv
 rw [zN h4] at hB
 by_cases h5:p=5
 .rw [zP h5] at hB
  subst h5 hB;refine fnW Tryz.func234 ?_;exact Qfv
 rw [zN h5] at hB
 by_cases h6:p=6
 .rw [zP h6] at hB
  subst h6 hB;refine fnW Tryz.func234 ?_;exact QEp
 rw [zN h6] at hB;subst hB;refine fnW Tryz.func234 ?_;exact Qoj
theorem Qo8 (n:Nk) (p:Int):FN 235 [.agg n.C,.s (.i p)] [] (. =⟨.a (.s (.u (Qhm n p:Nat))),[],[]⟩):=by
 obtain ⟨B,hB⟩:∃ B,Qhm n p=B:=⟨_,rfl⟩;rw [hB];unfold Qhm at hB;obtain ⟨_,_,po,_,re⟩:=n;dsimp only [Nk.C] at *
 by_cases h4:p=7
 .rw [zP h4] at hB
  subst h4 hB;refine fnW Tryz.func235 ?_;exact Qfv
 rw [zN h4] at hB
 by_cases h5:p=8
 .rw [zP h5] at hB
  subst h5 hB;refine fnW Tryz.func235 ?_;exact Qfv
 rw [zN h5] at hB
 by_cases h6:p=9
 .rw [zP h6] at hB
  subst h6 hB;cases po<;>cases re
  all_goals
   refine fnW Tryz.func235 ?_;exact Qfv
 rw [zN h6] at hB;subst hB;refine fnW Tryz.func235 ?_;exact Qoj
theorem QwS (a:Bool) (d0:Nat) (f:Bool) (d:Nat):FN 237 [.agg [.bool a,.u d0,.bool f],.s (.u d)] [] (. =⟨.a (.agg (QAo d)),[],[]⟩):=by
 unfold QAo
 by_cases h:(d:Int)=0
 .rw [zP h]
  obtain rfl:d=0:=by omega
  refine fnW Tryz.func237 ?_;exact QiW
 .rw [zN h]
  have hv:((d:Int) !=0)=true:=by simp;omega
  refine fnW Tryz.func237 ?_;(repeat' ((conv=>whnf);first|exact zi2|refine zj0 fun hb=>?_|((with_reducible apply Vl.mk (α:=Bool)); . with_reducible exact hv)|refine zse ?_|refine zbb ?_ ?_))
  all_goals exact QiV
theorem Qiv (k:ByteArray):noD k=decide (k.size=0):=by
 unfold noD;rw [zbi,beq_iff_eq,zde,ByteArray.toList_eq,ByteArray.toList_eq];show k.data.toList= []↔k.data.size=0;rw [<- Array.length_toList];exact List.length_eq_zero_iff.symm
theorem QkP (k:ByteArray):FN 146 [.agg [.str k]] [] (. =⟨.a (.s (.bool (Qcm k))),[],[]⟩):=by
 have qH:(!(k.toList==(⟨#[]⟩:ByteArray).toList))=Qcm k:=by
  show (!noD k)=_;unfold Qcm;rw [Qiv,<- decide_not];exact decide_eq_decide.2 (by omega)
 generalize Qcm k=B at *;refine fnW Tryz.func146 ?_;(repeat' ((conv=>whnf);first|exact zi2|refine zj0 fun hb=>?_|refine QDx ?_|refine zse ?_|refine zbb ?_ ?_))
 all_goals exact zf_
def Qjo (d:Dk):Bool:=decide (d.cmd=1/\noD d.od=true\/d.cmd=2/\d.od.size=128)
theorem Qng (d:Dk):FN 180 [.agg d.C] [] (. =⟨.a (.s (.bool (Qjo d))),[],[]⟩):=by
 obtain ⟨bs,bl,fr,st,cmd,ob,of_,od⟩:=d;dsimp only [Dk.C];obtain ⟨B,hB⟩:∃ B,Qjo ⟨bs,bl,fr,st,cmd,ob,of_,od⟩=B:=⟨_,rfl⟩;rw [hB];unfold Qjo at hB;dsimp only at hB;have qH:(od.toList==(⟨#[]⟩:ByteArray).toList)=noD od:=rfl;generalize noD od=nd at *;refine fnW Tryz.func180 ?_;exact QDN
theorem Qnh (d:Dk) (hd:d.ok) (p:Int):FN 114 [.agg d.C,.s (.i p)] [] (. =⟨.a (.s (.bool (QbP d p))),[],[]⟩):=by
 have qc:=Qng d;cases hd;obtain ⟨B,hB⟩:∃ B,QbP d p=B:=⟨_,rfl⟩;rw [hB];obtain ⟨Q,hQ⟩:∃ Q,Qjo d=Q:=⟨_,rfl⟩;rw [hQ] at qc;unfold Qjo at hQ;unfold QbP at hB;obtain ⟨_,_,_,_,_,_,_,od⟩:=d;dsimp only [Dk.C] at *;have qH:(od.toList==(⟨#[]⟩:ByteArray).toList)=noD od:=rfl;generalize noD od=nd at *;refine fnW Tryz.func114 ?_;(conv=>whnf);(repeat' ((first|exact zi2|refine zj0 fun hb=>?_|refine QDx ?_|(refine zpu qc ?_)|refine zse ?_|refine zbb ?_ ?_)<;>conv=>whnf))
 all_goals first|(refine QcJ ?_ ?_;(focus (exact zf_));rw [<- hB];first|(symm;exact zdf (by omega))|(rw [zbi];simp;grind))
theorem QdS (b k:Nat):∀ j,QbL b (k+j)=QbL b k+QbL (b / 2^k) j
 | 0=>rfl
 | j+1=>by
  show QbL b (k+j)+b / 2^(k+j)%2=QbL b k+(QbL (b / 2^k) j+b / 2^k / 2^j%2);rw [QdS b k j,Nat.div_div_eq_div_mul,<- Nat.pow_add];omega
theorem QiA (b:Nat):QbL (b%256) 8=QbL b 8:=by
 simp only [QbL,Nat.pow_succ,Nat.pow_zero,Nat.one_mul,Nat.reduceMul];omega
def Qrn (i:Nat):UInt8:=UInt8.ofNat (QbL i 8)
theorem Qfn {a:ByteArray} {f:Nat->UInt8} (h:((List.range 256).all fun i=>a[i]?==some (f i))=true) (i:Nat) (hi:i<256):a[i]?=some (f i):=eq_of_beq (List.all_eq_true.1 h i (List.mem_range.2 hi))
theorem QjS (i:Nat):(Qrn i).toNat=QbL i 8:=by
 have:=Qb5 i 8;unfold Qrn;rw [UInt8.toNat_ofNat'];exact Nat.mod_eq_of_lt (by omega)
theorem Qyu (b:Nat):QbL b 32=QbL (b / 16777216) 8+QbL (b / 65536%256) 8+QbL (b / 256%256) 8+QbL (b%256) 8:=by
 rw [QiA,QiA,QiA];have e1:=QdS b 8 24;have e2:=QdS b 16 16;have e3:=QdS b 24 8;have e4:=QdS b 8 8;have e5:=QdS b 16 8;simp only [Nat.reduceAdd,Nat.reducePow] at e1 e2 e3 e4 e5;omega
theorem Qme (b:Nat) (hb:ZU b):FN 256 [.s (.u b)] [] (. =⟨.a (.s (.i (QbL b 32:Nat))),[],[]⟩):=by
 have g1:=QjS (b / 16777216);have g2:=QjS (b / 65536%256);have g3:=QjS (b / 256%256);have g4:=QjS (b%256);have l1:=Qb5 (b / 16777216) 8;have l2:=Qb5 (b / 65536%256) 8;have l3:=Qb5 (b / 256%256) 8;have l4:=Qb5 (b%256) 8;have s1:(b:Int) / 2^min (Int.toNat 24) IntKind.u32.bits=((b / 16777216:Nat):Int):=rfl;have s2:(b:Int) / 2^min (Int.toNat 16) IntKind.u32.bits=((b / 65536:Nat):Int):=rfl;have s3:(b:Int) / 2^min (Int.toNat 8) IntKind.u32.bits=((b / 256:Nat):Int):=rfl;have m2:bits .and .u32 ((b / 65536:Nat):Int) 255=((b / 65536%256:Nat):Int):=Qbm _ 8 (by omega) (by omega);have m3:bits .and .u32 ((b / 256:Nat):Int) 255=((b / 256%256:Nat):Int):=Qbm _ 8 (by omega) (by omega);have m4:bits .and .u32 (b:Int) 255=((b%256:Nat):Int):=Qbm _ 8 (by omega) (by omega);have k1:b / 16777216<256:=by omega
 have k2:b / 65536%256<256:=by omega
 have k3:b / 256%256<256:=by omega
 have k4:b%256<256:=by omega
 rw [Qyu];generalize b / 16777216=i1,b / 65536%256=i2,b / 256%256=i3,b%256=i4 at *;generalize b / 65536=j2,b / 256=j3 at *;have c1:∀ i,((Qrn i).toNat:Int)=((QbL i 8:Nat):Int):=fun i=>by rw [QjS]
 have w1:IntKind.u8.wrap (((Qrn i1).toNat:Int)+((Qrn i2).toNat:Int))=((QbL i1 8+QbL i2 8:Nat):Int):=by rw [c1,c1,Qow];omega
 have w2:IntKind.u8.wrap (((QbL i1 8+QbL i2 8:Nat):Int)+((Qrn i3).toNat:Int))=((QbL i1 8+QbL i2 8+QbL i3 8:Nat):Int):=by rw [c1,Qow];omega
 have w3:IntKind.u8.wrap (((QbL i1 8+QbL i2 8+QbL i3 8:Nat):Int)+((Qrn i4).toNat:Int))=((QbL i1 8+QbL i2 8+QbL i3 8+QbL i4 8:Nat):Int):=by rw [c1,Qow];omega
 have w4:IntKind.i64.wrap ((QbL i1 8+QbL i2 8+QbL i3 8+QbL i4 8:Nat):Int)=((QbL i1 8+QbL i2 8+QbL i3 8+QbL i4 8:Nat):Int):=Qb4 (by omega) (by omega);refine fnW Tryz.func256 ?_;(repeat' ((conv=>whnf);first|exact zi2|refine zj0 fun hb=>?_|(with_reducible first|refine zv s1 ?_|refine zv s2 ?_|refine zv s3 ?_|refine zv m2 ?_|refine zv m3 ?_|refine zv m4 ?_|refine zv w1 ?_|refine zv w2 ?_|refine zv w3 ?_|refine zv w4 ?_)|refine QDy ?_|((with_reducible apply Ge.mk (α:=UInt8)); . first|exact Qfn (f:=Qrn) (by kernel_rfl) i1 k1|exact Qfn (f:=Qrn) (by kernel_rfl) i2 k2|exact Qfn (f:=Qrn) (by kernel_rfl) i3 k3|exact Qfn (f:=Qrn) (by kernel_rfl) i4 k4)|refine zse ?_|refine zbb ?_ ?_))
 all_goals exact zf_
def Qe3 (i:Nat):Nat:=if i<1 then 0 else if i<2 then 1 else if i<4 then 2 else if i<8 then 3 else if i<16 then 4 else if i<32 then 5 else if i<64 then 6 else if i<128 then 7 else 8
theorem Ql7 (i:Nat) (hi:i<256):i<2^Qe3 i/\(i≠0->1<=Qe3 i/\2^(Qe3 i-1)<=i)/\Qe3 i<=8:=by
 unfold Qe3
 repeat' split
 all_goals refine ⟨?_,?_,?_⟩<;>simp<;>omega
def blN (b:Nat):Nat:=if 65536<=b then (if 16777216<=b then 24+Qe3 (b / 16777216) else 16+Qe3 (b / 65536)) else if 256<=b then 8+Qe3 (b / 256) else Qe3 b
theorem QoS (b k:Nat) (h:b / 2^k<256) (h0:b / 2^k≠0):b<2^(k+Qe3 (b / 2^k))/\1<=k+Qe3 (b / 2^k)/\2^(k+Qe3 (b / 2^k)-1)<=b:=by
 obtain ⟨h1,h2,_⟩:=Ql7 _ h;obtain ⟨h4,h5⟩:=h2 h0;have hp:0<2^k:=Nat.two_pow_pos k;refine ⟨?_,by omega,?_⟩
 .rw [Nat.pow_add,Nat.mul_comm]
  exact (Nat.div_lt_iff_lt_mul hp).1 h1
 .rw [Nat.add_sub_assoc h4,Nat.pow_add,Nat.mul_comm]
  exact (Nat.le_div_iff_mul_le hp).1 h5
theorem QFC (b:Nat) (hb:ZU b):b<2^blN b/\(b≠0->1<=blN b/\2^(blN b-1)<=b):=by
 unfold blN;split
 .split
  .have:=QoS b 24 (by omega) (by omega)
   exact ⟨this.1,fun _=>this.2⟩
  .have:=QoS b 16 (by omega) (by omega)
   exact ⟨this.1,fun _=>this.2⟩
 .split
  .have:=QoS b 8 (by omega) (by omega)
   exact ⟨this.1,fun _=>this.2⟩
  .have:=Ql7 b (by omega)
   exact ⟨this.1,this.2.1⟩
theorem QoM (b:Nat) (hb:ZU b) (p:Int):QbZ b p=decide ((blN b:Int)<=max p 0):=by
 obtain ⟨h1,h2⟩:=QFC b hb;unfold QbZ;rw [decide_eq_decide];constructor
 .intro h
  by_cases h0:b=0
  .subst h0
   show (0:Int)<=_;omega
  .obtain ⟨h3,h4⟩:=h2 h0
   have hp:0<2^(blN b-1):=Nat.two_pow_pos _
   have e:2^blN b=2*2^(blN b-1):=by
    rw [<- Nat.pow_succ',Nat.succ_eq_add_one,Nat.sub_add_cancel h3]
   have d:b / 2^(blN b-1)=1:=Nat.div_eq_of_lt_le (by omega) (by omega)
   have l:blN b-1<32:=by
    have:2^(blN b-1)<2^32:=Nat.lt_of_le_of_lt h4 hb;exact (Nat.pow_lt_pow_iff_right (by omega)).1 this
   have:=h (blN b-1) l (by rw [d]);omega
 .intro h i hi wY
  have jZ:2^i<=b:=by
   rcases Nat.lt_or_ge b (2^i) with h3|h3
   .rw [Nat.div_eq_of_lt h3] at wY
    omega
   .exact h3
  have:i<blN b:=(Nat.pow_lt_pow_iff_right (by omega)).1 (Nat.lt_of_le_of_lt jZ h1);omega
def ln8 (i:Nat):UInt8:=UInt8.ofNat (Qe3 i)
theorem QF7 (i:Nat) (hi:i<256):(ln8 i).toNat=Qe3 i:=by
 have:=(Ql7 i hi).2.2;unfold ln8;rw [UInt8.toNat_ofNat'];exact Nat.mod_eq_of_lt (by omega)
theorem Qje (b:Nat) (hb:ZU b):FN 181 [.s (.u b)] [] (. =⟨.a (.s (.i (blN b:Nat))),[],[]⟩):=by
 have s1:(b:Int) / 2^min (Int.toNat 16) IntKind.u32.bits=((b / 65536:Nat):Int):=rfl;have s2:(b:Int) / 2^min (Int.toNat 8) IntKind.u32.bits=((b / 256:Nat):Int):=rfl;have s3:((b / 65536:Nat):Int) / 2^min (Int.toNat 8) IntKind.u32.bits=((b / 65536 / 256:Nat):Int):=rfl;have e3:b / 65536 / 256=b / 16777216:=by omega
 rw [e3] at s3;unfold blN;have key:∀ i,i<256->((ln8 i).toNat:Int)=(Qe3 i:Nat)/\Qe3 i<=8:=fun i hi=>⟨by rw [QF7 i hi],(Ql7 i hi).2.2⟩
 by_cases h1:65536<=b
 .rw [zP h1]
  by_cases h2:16777216<=b
  .rw [zP h2]
   have k:=key (b / 16777216) (by omega);have kk:b / 16777216<256:=by omega
   have h4:((256:Nat):Int)<=((b / 65536:Nat):Int):=by omega
   have h3:(65536:Int)<=(b:Int):=by omega
   generalize b / 16777216=i,b / 65536=j at *;have w1:IntKind.u8.wrap ((i:Nat):Int)=(i:Nat):=by rw [Qow];omega
   have w2:IntKind.i64.wrap (((ln8 i).toNat:Nat):Int)=(Qe3 i:Nat):=Qvj;have w3:IntKind.i64.wrap (24+(Qe3 i:Nat):Int)=((24+Qe3 i:Nat):Int):=QaS;refine fnW Tryz.func181 ?_;(repeat' ((conv=>whnf);first|exact zi2|refine zj0 fun hb=>?_|(with_reducible first|refine zv s1 ?_|refine zv s3 ?_|refine zv w1 ?_|refine zv w2 ?_)|refine QDy ?_|refine QHh ?_|refine zse ?_|refine zbb ?_ ?_))
   all_goals exact QiV
  .rw [zN h2]
   have k:=key (b / 65536) (by omega);have kk:b / 65536<256:=by omega
   have h3:(65536:Int)<=(b:Int):=by omega
   clear e3 s2 s3;generalize b / 65536=i at *;have w1:IntKind.u8.wrap ((i:Nat):Int)=(i:Nat):=by rw [Qow];omega
   have w2:IntKind.i64.wrap (((ln8 i).toNat:Nat):Int)=(Qe3 i:Nat):=Qvj;have w3:IntKind.i64.wrap (16+(Qe3 i:Nat):Int)=((16+Qe3 i:Nat):Int):=QaS;refine fnW Tryz.func181 ?_;(repeat' ((conv=>whnf);first|exact zi2|refine zj0 fun hb=>?_|(with_reducible first|refine zv s1 ?_|refine zv w1 ?_|refine zv w2 ?_|refine zv w3 ?_)|refine QDy ?_|refine QHh ?_|refine zse ?_|refine zbb ?_ ?_))
   all_goals exact QiV
 .rw [zN h1]
  by_cases h2:256<=b
  .rw [zP h2]
   have k:=key (b / 256) (by omega);have kk:b / 256<256:=by omega
   clear e3 s1 s3;have h3:(256:Int)<=(b:Int):=by omega
   have h4:¬ (65536:Int)<=(b:Int):=by omega
   generalize b / 256=i at *;have w1:IntKind.u8.wrap ((i:Nat):Int)=(i:Nat):=by rw [Qow];omega
   have w2:IntKind.i64.wrap (((ln8 i).toNat:Nat):Int)=(Qe3 i:Nat):=Qvj;have w3:IntKind.i64.wrap (8+(Qe3 i:Nat):Int)=((8+Qe3 i:Nat):Int):=QaS;refine fnW Tryz.func181 ?_;(repeat' ((conv=>whnf);first|exact zi2|refine zj0 fun hb=>?_|(with_reducible first|refine zv s2 ?_|refine zv w1 ?_|refine zv w2 ?_)|refine QDy ?_|refine QHh ?_|refine zse ?_|refine zbb ?_ ?_))
   all_goals exact QiV
  .rw [zN h2]
   have k:=key b (by omega);have kk:b<256:=by omega
   clear e3 s1 s2 s3;have w1:IntKind.u8.wrap ((b:Nat):Int)=(b:Nat):=by rw [Qow];omega
   have w2:IntKind.i64.wrap (((ln8 b).toNat:Nat):Int)=(Qe3 b:Nat):=Qvj;have w3:IntKind.i64.wrap (0+(Qe3 b:Nat):Int)=((Qe3 b:Nat):Int):=QaS;refine fnW Tryz.func181 ?_;(repeat' ((conv=>whnf);first|exact zi2|refine zj0 fun hb=>?_|(with_reducible first|refine zv w1 ?_|refine zv w2 ?_|refine zv w3 ?_)|refine QDy ?_|((with_reducible apply Ge.mk (α:=UInt8)); . exact Qfn (f:=ln8) (by kernel_rfl) b kk)|refine zse ?_|refine zbb ?_ ?_))
   all_goals exact QiV
theorem Qfy (bt bg:Nat) (h2:ZU bg):FN 215 [.agg [.u bt,.u bg]] [] (. =⟨.a (.s (.i (QbL bg 32:Nat))),[],[]⟩):=by
 have hg:=Qme bg h2;generalize QbL bg 32=P at *;refine fnW Tryz.func215 ?_;exact Qz1
theorem QkO (bt bg:Nat) (h1:ZU bt) (h2:ZU bg):FN 149 [.agg [.u bt,.u bg]] [] (. =⟨.a (.s (.bool (Qc2 bt bg))),[],[]⟩):=by
 have hg:=Qfy bt bg h2;have jZ:=Qb5 bg 32;unfold Qc2;generalize QbL bg 32=P at *;refine fnW Tryz.func149 ?_;exact Qz1
theorem Qhx (bt bg:Nat) (h2:ZU bg) (p:Int):FN 116 [.agg [.u bt,.u bg],.s (.i p)] [] (. =⟨.a (.s (.bool (QbZ bg p))),[],[]⟩):=by
 have hg:=Qje bg h2;rw [QoM bg h2];have hm:QAB p [(0:Int)]=max p 0:=by show QGi _ _=_;unfold QGi;split<;>omega
 generalize max p 0=q,blN bg=L at *;refine fnW Tryz.func116 ?_;(repeat' ((conv=>whnf);first|exact zi2|refine zj0 fun hb=>?_|(with_reducible refine zv hm ?_)|(refine zpu hg ?_)|refine zse ?_|refine zbb ?_ ?_))
 all_goals exact zf_
def lnL (l:List Bool):Nat->Nat
 | 0=>0
 | j+1=>if l.getD j false=true then lnL l j ||| 2^j else lnL l j
theorem Qv1 (l:List Bool):∀ j,j<32->lnL l j<4294967296
 | 0,_=>by show (0:Nat)<4294967296;decide
 | j+1,h=>by
  have:=Qv1 l j (by omega);unfold lnL;split
  .exact Nat.or_lt_two_pow (n:=32) this (Nat.pow_lt_pow_right (by decide) (by omega))
  .exact this
theorem Qzs (j:Nat) (hj:j<32):(1:Int)*2^min (((j:Nat):Int)).toNat IntKind.u32.bits%4294967296=((2^j:Nat):Int):=by
 have hp:2^j<2^32:=Nat.pow_lt_pow_right (by omega) hj;have e:(2:Int)^j=((2^j:Nat):Int):=by rw [Int.natCast_pow];rfl
 rw [show min (((j:Nat):Int)).toNat IntKind.u32.bits=j by show min j 32=j;omega,Int.one_mul,e];clear e;generalize 2^j=p at *;omega
def QwV (j L:Nat) (b1 b2 b3 b4 b5:Bool) (XX:List SV):St :=
 ⟨[(4,.a (.s (.u L))),(23,.a (.agg [.bool b1,.bool b2,.bool b3,.bool b4,.bool b5])),(24,.a (.s (.i j)))],[(0,some ⟨false,1,XX⟩)],[0]⟩
theorem Qds (M:Mc) (hM:M.ok):FN 89 [.agg (M.C 0)] [⟨false,1,wsv M.m⟩] (. =⟨.a (.s (.u (QfD M:Nat))),[],[]⟩):=by
 have p1:=Qk0 M.ta M.td M.tf;have p2:=QkP M.ks;have p3:=Qgt M.d;have p4:=QkR M.n;have p5:=QkO M.bt M.bg hM.dv.2.1 hM.dv.2.2.1;have gL:=Qaa M.m;unfold QfD;generalize Qcm M.ks=b2,QbS M.d.st=b3,Qc2 M.bt M.bg=b5 at *;obtain ⟨hx,hc,hY,gA,_,gB,_,gE,gD,_⟩:=hM;obtain ⟨_,_,_,m,ks,ta,td,tf,d,n,bt,bg⟩:=M;dsimp only at *;cases QaJ hx;cases zC8 hc;cases d;obtain ⟨_,_,_,_,n4⟩:=n;dsimp only [Mc.C,Mc.D,Dk.C,Nk.C,Dk.ok,Nk.ok] at *;generalize m.length=nn,wsv m=XX at *;clear hY gA gE gD gB;refine fnW Tryz.func89 ?_;(conv=>whnf);(repeat' ((first|exact zi2|refine zj0 fun hb=>?_|(refine zpu p1 ?_)|(refine zpu p2 ?_)|(refine zpu p3 ?_)|(refine zpu p4 ?_)|(refine zpu p5 ?_)|refine zse ?_|refine zbb ?_ ?_)<;>conv=>whnf))
 have key:lnL [tf,b2,b3,n4,b5] 5=(((lnN tf 0 ||| lnN b2 1) ||| lnN b3 2) ||| lnN n4 3) ||| lnN b5 4:=by
  unfold lnN;cases tf<;>cases b2<;>cases b3<;>cases n4<;>cases b5<;>rfl
 rw [<- key];clear p1 p2 p3 p4 p5 key;refine Lp.inv (fun mm σ=>∃ j:Nat,mm+j=5/\σ=QwV j (lnL [tf,b2,b3,n4,b5] j) tf b2 b3 n4 b5 XX) ?_ ?_
 .refine ⟨5,QwV 0 0 tf b2 b3 n4 b5 XX,?_,0,by omega,rfl⟩
  unfold QwV
  (exact zwL [(0,some 0)])
 rintro mm σ ⟨j,yT,rfl⟩;unfold QwV
 by_cases hj:j<5
 .have jZ:=Qv1 [tf,b2,b3,n4,b5] j (by omega)
  have q2:IntKind.i64.wrap ((j:Int)+1)=((j+1:Nat):Int):=QaS;have hp:2^j<4294967296:=Nat.lt_of_le_of_lt (Nat.pow_le_pow_right (by decide) (show j<=5 by omega)) (by decide);have ho:=(Qlm _ _ jZ hp).1;have hs:(1:Int)*2^min (((j:Nat):Int)).toNat IntKind.u32.bits%4294967296=((2^j:Nat):Int):=Qzs j (by omega);obtain ⟨bj,hbj⟩:∃ b,[tf,b2,b3,n4,b5].getD j false=b:=⟨_,rfl⟩
  have hg:Qiy ty4 [SV.bool tf,.bool b2,.bool b3,.bool n4,.bool b5] (((j:Nat):Int).toNat * ty4.size)=some (.s (.bool bj)):=by
   rw [<- hbj];have e:j=0\/j=1\/j=2\/j=3\/j=4:=by omega
   rcases e with rfl|rfl|rfl|rfl|rfl<;>rfl
  have hL:lnL [tf,b2,b3,n4,b5] (j+1)=if bj=true then lnL [tf,b2,b3,n4,b5] j ||| 2^j else lnL [tf,b2,b3,n4,b5] j:=by rw [<- hbj];rfl
  generalize lnL [tf,b2,b3,n4,b5] j=L at *;have vP:∀ L2,L2=(if bj=true then L ||| 2^j else L)->QwV (j+1) L2 tf b2 b3 n4 b5 XX=QwV (j+1) (lnL [tf,b2,b3,n4,b5] (j+1)) tf b2 b3 n4 b5 XX:=fun L2 h=>by rw [h,hL]
  generalize L ||| 2^j=Lj at *;clear hL hbj;cases bj
  all_goals
   (conv=>whnf);(repeat' ((first|exact zi2|refine zj0 fun hb=>?_|((with_reducible apply Vl.mk (α:=Int)); . first|with_reducible exact q2|with_reducible exact ho|exact hs)|((with_reducible apply Ge.mk (α:=AV)); . exact hg)|refine zse ?_|refine zbb ?_ ?_)<;>conv=>whnf))
   all_goals first
    | (exfalso;omega)
    | (exfalso;simp at hb;omega)
    | (exfalso;simp at hb;done)
    | (refine ⟨mm-1,_,by omega,?_,j+1,by omega,vP _ rfl⟩;unfold QwV;(exact zwL [(0,some 0)]))
 .obtain rfl:j=5:=by omega
  generalize lnL [tf,b2,b3,n4,b5] 5=P at *;exact Qdi
theorem Qgu (M:Mc) (hM:M.ok):FN 138 [.agg (M.C 0)] [⟨false,1,wsv M.m⟩] (. =⟨.a (.s (.u (QiX M:Nat))),[],[]⟩):=by
 have hl:=Qds M hM;have ha:=QcF (QfD M) (M.c.getD 7 0) (Qfd M) (Qab hM.cr 7);have gL:=Qaa M.m;unfold QiX;obtain ⟨E,hE⟩:∃ E,QfD M &&& M.c.getD 7 0=E:=⟨_,rfl⟩;rw [hE] at ha |-;clear hE;generalize QfD M=L at *;obtain ⟨hx,hc,hY,gA,_,gB,_,gE,gD,_⟩:=hM;obtain ⟨_,_,c,m,_,_,_,_,d,n⟩:=M;dsimp only at *;cases QaJ hx;obtain ⟨_,_,_,_,_,_,_,c7,rfl⟩:=QfC hc;cases d;cases n;dsimp only [Mc.C,Mc.D,Dk.C,Nk.C,Dk.ok,Nk.ok] at *;generalize m.length=nn,wsv m=XX at *;change bits .and .u32 (L:Int) (c7:Int)=(E:Int) at ha;clear hY gA gE gD gB;refine fnW Tryz.func138 ?_;exact QDV
theorem QeF (M:Mc) (hM:M.ok):FN 82 [.agg (M.C 0)] [⟨false,1,wsv M.m⟩] (. =⟨.a (.s (.bool (Qhk M))),[],[]⟩):=by
 have hl:=Qgu M hM;have gL:=Qaa M.m;unfold Qhk;generalize QiX M=E at *;obtain ⟨B,hB⟩:∃ B,(M.wt&&decide (E=0))=B:=⟨_,rfl⟩;rw [hB];obtain ⟨hx,hc,hY,gA,_,gB,_,gE,gD,_⟩:=hM;obtain ⟨_,_,_,m,_,_,_,_,d,n,_,_,_,wt⟩:=M;dsimp only at *;cases QaJ hx;cases zC8 hc;cases d;cases n;dsimp only [Mc.C,Mc.D,Dk.C,Nk.C,Dk.ok,Nk.ok] at *;generalize m.length=nn,wsv m=XX at *;clear hY gA gE gD gB;cases wt
 all_goals
  refine fnW Tryz.func82 ?_;(conv=>whnf);(repeat' ((first|exact zi2|refine zj0 fun hb=>?_|(refine QaA hl ?_)|refine zse ?_|refine zbb ?_ ?_)<;>conv=>whnf))
  all_goals first
   | (refine QcJ ?_ ?_;(focus (exact Qb9));rw [<- hB,zbi];simp;done)
   | (refine QcJ ?_ ?_;(focus (exact Qb9));rw [<- hB,zbi];simp;omega)
   | (exfalso;simp at hb;done)
def QBr (M:Mc):Bool:=Qb7 M.ks&&Qd7 M.ta M.td M.tf&&QbP M.d (mpg M.m.length:Nat)&&Qb8 M.n (mpg M.m.length:Nat)&&QbZ M.bg (mpg M.m.length:Nat)
theorem Qnk (M:Mc) (hM:M.ok):FN 59 [.agg (M.C 0)] [⟨false,1,wsv M.m⟩] (. =⟨.a (.s (.bool (QBr M))),[],[]⟩):=by
 have hp:=QbI M.m _ (by have:=hM.ml;omega:M.m.length<4294967296);have q1:=Qnf M.ks;have q2:=Qnp M.ta M.td M.tf;have q3:=Qnh M.d hM.dk (mpg M.m.length:Nat);have q4:=Qnl M.n hM.nk (mpg M.m.length:Nat);have q5:=Qhx M.bt M.bg hM.dv.2.2.1 (mpg M.m.length:Nat);have gL:=Qaa M.m;obtain ⟨B,hB⟩:∃ B,QBr M=B:=⟨_,rfl⟩;rw [hB];unfold QBr at hB;generalize Qb7 M.ks=b1,Qd7 M.ta M.td M.tf=b2,QbP M.d (mpg M.m.length:Nat)=b3,Qb8 M.n (mpg M.m.length:Nat)=b4,QbZ M.bg (mpg M.m.length:Nat)=b5 at *;obtain ⟨hx,hc,hY,gA,_,gB,_,gE,gD,gG⟩:=hM;obtain ⟨_,_,_,m,ks,ta,td,tf,d,n,bt,bg⟩:=M;dsimp only at *;cases QaJ hx;cases zC8 hc;cases d;cases n;dsimp only [Mc.C,Mc.D,Dk.C,Nk.C,Dk.ok,Nk.ok] at *;generalize mpg m.length=P at *;generalize m.length=nn,wsv m=XX at *;clear hY gA gE gD gB gG;refine fnW Tryz.func59 ?_;(conv=>whnf);(repeat' ((first|exact zi2|refine zj0 fun hb=>?_|(refine QaA hp ?_)|(refine zpu q1 ?_)|(refine zpu q2 ?_)|(refine zpu q3 ?_)|(refine zpu q4 ?_)|(refine zpu q5 ?_)|refine zse ?_|refine zbb ?_ ?_)<;>conv=>whnf))
 all_goals first
  | (refine QcJ ?_ ?_;(focus (exact Qb9));rw [<- hB];symm;first|(rw [zbi];simp;done)|(rw [zbi];simp_all;done)|(rw [zbi];simp;grind))
theorem Qo7 (M:Mc) (hM:M.ok):FN 28 [.agg (M.C 0)] [⟨false,1,wsv M.m⟩] (. =⟨.a (.s (.bool (Qbg M))),[],[]⟩):=by
 have hp:=QbI M.m _ (by have:=hM.ml;omega:M.m.length<4294967296);have qd:=Qnk M hM;have gL:=Qaa M.m;have uF:=QaT M.m.length;obtain ⟨B,hB⟩:∃ B,Qbg M=B:=⟨_,rfl⟩;rw [hB];obtain ⟨D,hD⟩:∃ D,QBr M=D:=⟨_,rfl⟩;rw [hD] at qd;unfold Qbg at hB;unfold QBr at hD;generalize Qb7 M.ks=b1,Qd7 M.ta M.td M.tf=b2,QbP M.d (mpg M.m.length:Nat)=b3,Qb8 M.n (mpg M.m.length:Nat)=b4,QbZ M.bg (mpg M.m.length:Nat)=b5 at *;have hD2:(b1=true/\b2=true/\b3=true/\b4=true/\b5=true)↔D=true:=by rw [<- hD];simp [and_assoc]
 clear hD;have h1:=Qab hM.cr 1;obtain ⟨hx,hc,hY,gA,_,gB,_,gE,gD,gG⟩:=hM;obtain ⟨_,_,_,m,ks,ta,td,tf,d,n,_,bg⟩:=M;dsimp only at *;cases QaJ hx;obtain ⟨_,c1,_,_,_,_,_,_,rfl⟩:=QfC hc;cases d;cases n;dsimp only [Mc.C,Mc.D,Dk.C,Nk.C,Dk.ok,Nk.ok] at *;generalize mpg m.length=P at *;generalize m.length=nn,wsv m=XX at *;simp only [List.getD_cons_zero,List.getD_cons_succ] at hB h1;have m1:Int.tmod (c1:Int) 4=((c1%4:Nat):Int):=Qvg;have fM:=gG.2.2.2.1;clear hY gA gE gD gB gG;generalize c1%4=c14 at *;refine fnW Tryz.func28 ?_;(conv=>whnf);(repeat' ((first|exact zi2|refine zj0 fun hb=>?_|(with_reducible refine zv m1 ?_)|(refine QaA hp ?_)|(refine QaA qd ?_)|refine zse ?_|refine zbb ?_ ?_)<;>conv=>whnf))
 all_goals first
  | (refine QcJ ?_ ?_;(focus (exact Qb9));rw [<- hB];symm;first|exact zdf (by omega)|(rw [zbi];simp;done)|(rw [zbi];simp;omega)|(rw [zbi];simp;grind))
def inV (M:Mc) (p:Int) (w:Nat):Nat:=if p<=1 then Qoq M.ks p else if p=2 then w else if p=3 then Qn7 M.tf else if p<=6 then Qhi M.d p else if p<=9 then Qhm M.n p else Qgq M.bt M.bg p
def inM (M:Mc) (p:Int):Mc:=if p<=1 then { M with ks:=QkV M.ks p } else M
theorem QCJ (M:Mc) (hM:M.ok) (p:Int) (w:Nat):FN 55 [.s (.ptr 0 0),.s (.i p),.s (.u w)] [⟨true,1,M.C 1⟩,⟨true,1,wsv M.m⟩]
  (. =⟨.a (.s (.u (inV M p w:Nat))),[(0,some ⟨true,1,(inM M p).C 1⟩)],[]⟩):=by
 have q1:=Qrt M.ks hM.dv.2.2.2.2 p;have q2:=QrJ M.ta M.td M.tf;have q3:=Qrv M.d p;have q4:=QrD M.n p;have q5:=Qrs M.bt M.bg hM.dv.2.2.1 p;have gL:=Qaa M.m;obtain ⟨B,hB⟩:∃ B,inV M p w=B:=⟨_,rfl⟩;obtain ⟨_,wE⟩:∃ B,inM M p=B:=⟨_,rfl⟩;rw [hB,wE];unfold inV at hB;unfold inM at wE;generalize Qoq M.ks p=v1,QkV M.ks p=k2,Qn7 M.tf=v2,Qhi M.d p=v3,Qhm M.n p=v4,Qgq M.bt M.bg p=v5 at *;obtain ⟨hx,hc,hY,gA,gH,gB,_,gE,gD,gG⟩:=hM;obtain ⟨_,_,_,m,ks,ta,td,tf,d,n,bt,bg⟩:=M;dsimp only at *;cases QaJ hx;cases zC8 hc;cases d;cases n;dsimp only [Mc.C,Mc.D,Dk.C,Nk.C,Dk.ok,Nk.ok] at *;generalize gJ:m.length=nn,wsv m=XX at *;clear hY gA gE gD gB gG gH
 by_cases h1:p<=1
 .rw [zP h1] at hB wE
  subst hB wE;dsimp only;rw [gJ];refine fnW Tryz.func55 ?_;(repeat' ((conv=>whnf);first|exact zi2|refine zj0 fun hb=>?_|(refine zpu q1 ?_)|refine zse ?_|refine zbb ?_ ?_))
  all_goals exact Qva
 rw [zN h1] at hB wE;subst wE
 by_cases h2:p=2
 .rw [zP h2] at hB
  subst hB h2;dsimp only;rw [gJ];refine fnW Tryz.func55 ?_;exact QAl
 rw [zN h2] at hB
 by_cases h3:p=3
 .rw [zP h3] at hB
  subst hB h3;dsimp only;rw [gJ];refine fnW Tryz.func55 ?_;(repeat' ((conv=>whnf);first|exact zi2|refine zj0 fun hb=>?_|(refine zpu q2 ?_)|refine zse ?_|refine zbb ?_ ?_))
  all_goals exact Qhs
 rw [zN h3] at hB
 by_cases h4:p<=6
 .rw [zP h4] at hB
  subst hB;dsimp only;rw [gJ];refine fnW Tryz.func55 ?_;(repeat' ((conv=>whnf);first|exact zi2|refine zj0 fun hb=>?_|(refine zpu q3 ?_)|refine zse ?_|refine zbb ?_ ?_))
  all_goals exact Qva
 rw [zN h4] at hB
 by_cases h5:p<=9
 .rw [zP h5] at hB
  subst hB;dsimp only;rw [gJ];refine fnW Tryz.func55 ?_;(repeat' ((conv=>whnf);first|exact zi2|refine zj0 fun hb=>?_|(refine zpu q4 ?_)|refine zse ?_|refine zbb ?_ ?_))
  all_goals exact Qva
 rw [zN h5] at hB;subst hB;dsimp only;rw [gJ];refine fnW Tryz.func55 ?_;(repeat' ((conv=>whnf);first|exact zi2|refine zj0 fun hb=>?_|(refine zpu q5 ?_)|refine zse ?_|refine zbb ?_ ?_))
 all_goals exact Qva
def Qe4 (x:Nat):Nat->List Int
 | 0=> []
 | j+1=>Qe4 x j++ [((x / 2^(8*j)%256:Nat):Int)]
theorem Qga (x:Nat):∀ j,(Qe4 x j).length=j
 | 0=>rfl
 | j+1=>by unfold Qe4;rw [zla,Qga x j];rfl
def QEZ (x j:Nat) (R:List SV):St :=
 ⟨[(0,.a (.s (.u x))),(1,.a (.s (.i 4))),(5,.a (.s (.sl 0 0 j))),(6,.a (.s (.i j)))],[(0,some ⟨true,1,R⟩)],[0]⟩
theorem QdZ:∀ l:List Int,Qd8 (isv .u8 l)=some l
 | []=>rfl
 | x::l=>by
  have:=QdZ l;unfold isv at *;rw [List.map_cons];simp only [Qd8,this]
theorem QyN (x:Nat) (hx:ZU x):FN 241 [.s (.u x),.s (.i 4)] [] (. =⟨.a (.s (.str (strOfNums (Qe4 x 4)))),[],[]⟩):=by
 refine fnW Tryz.func241 ?_;(conv=>whnf);(repeat' ((first|exact zi0|refine zj0 fun hb=>?_|refine zst ?_|refine zbb ?_ ?_)<;>conv=>whnf))
 refine Lp.inv (fun mm σ=>∃ j:Nat,mm+j=4/\σ=QEZ x j (isv .u8 (Qe4 x j))) ?_ ?_
 .refine ⟨4,QEZ x 0 [],?_,0,by omega,rfl⟩
  apply Qcg (m:= [(0,none)])
  .repeat' (first|exact QaY|apply QaN)
   all_goals first|exact QcN (Qcx (QaK rfl))|exact QcN (Qcx (QeZ rfl))
  .show HlS _ _ [] _
   refine Qas (QcU rfl rfl) ?_;exact QaL
  .rfl
 rintro mm σ ⟨j,yT,rfl⟩;unfold QEZ;have vT:=QaM .u8 (Qe4 x (j+1));have VY:=QaM .u8 (Qe4 x j);have gF:(isv .u8 (Qe4 x j)).length=j:=by unfold isv;rw [List.length_map,Qga]
 by_cases hj:j<4
 .have s1:=Qn3 x (8*j) (by omega)
  have jH:isv .u8 (Qe4 x j)++ [.int .u8 ((x / 2^(8*j)%256:Nat):Int)]=isv .u8 (Qe4 x (j+1)):=by unfold isv;rw [Qe4,List.map_append];rfl
  have q1:IntKind.i64.wrap (8*(j:Int))=((8*j:Nat):Int):=QaS;have q2:IntKind.i64.wrap ((j:Int)+1)=((j+1:Nat):Int):=QaS;have q3:IntKind.u64.wrap ((8*j:Nat):Int)=((8*j:Nat):Int):=Ql0;have q4:∀ y:Nat,IntKind.u8.wrap (y:Int)=((y%256:Nat):Int):=fun y=>by rw [Qow];omega
  have q4':=q4 (x / 2^(8*j));clear q4;generalize x / 2^(8*j)=y,isv .u8 (Qe4 x j)=R0,hR1:isv .u8 (Qe4 x (j+1))=R1 at *;generalize 8*j=j8,y%256=z at *;(conv=>whnf);(repeat' ((first|exact zi2|refine zj0 fun hb=>?_|(with_reducible first|refine zv q1 ?_|refine zv q2 ?_|refine zv q3 ?_|refine zv q4' ?_|refine zv s1 ?_)|(apply Sd.mk; . refine ⟨rfl,rfl,?_,?_,?_⟩;(focus (show R0.length=j*1;omega));(focus (show (j+1)*1<=_;omega));(focus omega))|refine QDv ?_|refine zse ?_|refine zbb ?_ ?_)<;>conv=>whnf))
  all_goals first
   | (
     refine ⟨mm-1,QEZ x (j+1) R1,by omega,?_,j+1,by omega,by rw [hR1];rfl⟩
     (exact zwL [(0,some _)]))
 .obtain rfl:j=4:=by omega
  have ht:=QdZ (Qe4 x 4);have sg:(isv .u8 (Qe4 x 4)).length=4/\∀ (i:Nat) s,(isv .u8 (Qe4 x 4))[i]?=some s->(isv .u8 (Qe4 x 4))[0+i]?=some s:=⟨gF,fun i s hs=>by rw [Nat.zero_add];exact hs⟩;generalize isv .u8 (Qe4 x 4)=R0 at *;generalize Qe4 x 4=L at *;(repeat' ((conv=>whnf);first|exact zi2|refine zj0 fun hb=>?_|(apply Sg.mk; . exact sg)|refine QHo ?_|refine zse ?_|refine zbb ?_ ?_))
  all_goals exact QiV
theorem Qnc (l:List Int) (h:∀ y∈l,0<=y/\y<256):QcA (strOfNums l)=isv .u8 l:=by
 unfold QcA strOfNums isv;simp;intro y hy;have:=h y hy;omega
theorem QqL (x:Nat):∀ j,∀ y∈Qe4 x j,0<=y/\y<256
 | 0=>fun y hy=>by cases hy
 | j+1=>fun y hy=>by
  unfold Qe4 at hy;rcases List.mem_append.1 hy with h|h
  .exact QqL x j y h
  .rw [List.mem_singleton] at h;subst h;omega
def pgL (xs:List Nat) (p:Nat):Nat->List Int
 | 0=> []
 | j+1=>pgL xs p j++Qe4 (xs.getD (p*32+j) 0) 4
theorem QgU (xs:List Nat) (p:Nat):∀ j,(pgL xs p j).length=4*j
 | 0=>rfl
 | j+1=>by unfold pgL;rw [zla,QgU xs p j,Qga];omega
def QE3 (n p j r:Nat) (X R:List SV):St :=
 ⟨[(0,.a (.s (.sl 0 0 n))),(1,.a (.s (.i p))),(6,.a (.s (.sl 1 0 r))),(7,.a (.s (.i j)))],[(0,some ⟨false,1,X⟩),(1,some ⟨true,1,R⟩)],[0]⟩
def pgV (xs:List Nat) (n p:Nat):ByteArray:=if p<mpg n then strOfNums (pgL xs p 32) else ⟨#[]⟩
theorem Qj2 (xs:List Nat) (n:Nat) (hl:xs.length=n) (hn:n<=1000000) (hY:ZL xs) (p:Nat):FN 178 [.s (.sl 0 0 n),.s (.i p)] [⟨false,1,wsv xs⟩] (. =⟨.tup [.s (.str (pgV xs n p)),.s (.bool (decide (p<mpg n)))],[],[]⟩):=by
 have hp:=Qck xs n (by omega);have gL:=Qaa xs;have uF:=QaT n;have hmn:mpg n*32<=n:=Qeu;unfold pgV
 by_cases gU:p<mpg n
 .rw [zP gU,zdt gU]
  generalize mpg n=P,hX:wsv xs=XX at *;refine fnW Tryz.func178 ?_;(conv=>whnf);(repeat' ((first|exact zi2|refine zj0 fun hb=>?_|(refine QaA hp ?_)|refine zse ?_|refine zbb ?_ ?_)<;>conv=>whnf))
  all_goals try (exfalso;simp at hb;omega)
  refine Lp.inv (fun mm σ=>∃ j:Nat,mm+j=32/\σ=QE3 n p j (4*j) XX (isv .u8 (pgL xs p j))) ?_ ?_
  .refine ⟨32,QE3 n p 0 0 XX [],?_,0,by omega,rfl⟩
   apply Qcg (m:= [(0,some 0),(1,none)])
   .repeat' (first|exact QaY|apply QaN)
    all_goals exact Qz6
   .show HlS _ _ [] _
    refine Qas (Qan rfl rfl rfl rfl (Qaj gL)) ?_;refine Qas (QcU rfl rfl) ?_;exact QaL
   .rfl
  rintro mm σ ⟨j,yT,rfl⟩;unfold QE3;have vT:=QaM .u8 (pgL xs p (j+1));have VY:=QaM .u8 (pgL xs p j);have gF:(isv .u8 (pgL xs p j)).length=4*j:=by unfold isv;rw [List.length_map,QgU]
  by_cases hj:j<32
  .have qJ:=QyN (xs.getD (p*32+j) 0) (Qab hY _)
   have jH:isv .u8 (pgL xs p j)++QcA (strOfNums (Qe4 (xs.getD (p*32+j) 0) 4))=isv .u8 (pgL xs p (j+1)):=by rw [Qnc _ (QqL _ _),pgL];unfold isv;rw [List.map_append]
   have qA:(strOfNums (Qe4 (xs.getD (p*32+j) 0) 4)).size=4:=by rw [strOfNums_size,Qga]
   have HG:XX[p*32+j]?=some (.u (xs.getD (p*32+j) 0:Nat)):=by
    rw [<- hX];unfold wsv;rw [zgm,zgd,zgg (by omega)];rfl
   have q1:IntKind.i64.wrap ((p:Int)*32)=((p*32:Nat):Int):=QaS;have q2:IntKind.i64.wrap ((j:Int)+1)=((j+1:Nat):Int):=QaS;have q3:IntKind.i64.wrap (((p*32:Nat):Int)+(j:Int))=((p*32+j:Nat):Int):=QaS;generalize xs.getD (p*32+j) 0=v at *;generalize strOfNums (Qe4 v 4)=S at *;have vI:4*j+S.size=4*(j+1):=by omega
   generalize isv .u8 (pgL xs p j)=R0,hR1:isv .u8 (pgL xs p (j+1))=R1 at *;have YY:(0:Int)<=((p*32+j:Nat):Int)/\((p*32+j:Nat):Int)<(n:Int):=by omega
   generalize p*32+j=ix at *;generalize p*32=p32,4*j=r0,yV:4*(j+1)=r1 at *;(conv=>whnf);(repeat' ((first|exact zi2|refine zj0 fun hb=>?_|refine QHj ?_|((with_reducible apply Vl.mk (α:=Nat)); . with_reducible exact vI)|refine Qu8 ?_|(refine zpu qJ ?_)|(apply Sd.mk; . first|exact YY|(refine ⟨rfl,rfl,?_,?_,?_⟩;(focus (show R0.length=r0*1;omega));(focus (show (r0+S.size)*1<=_;omega));(focus omega)))|refine QDv ?_|refine zse ?_|refine zbb ?_ ?_)<;>conv=>whnf))
   all_goals first
    | (
      refine ⟨mm-1,QE3 n p (j+1) r1 XX R1,by omega,?_,j+1,by omega,by rw [hR1,yV];rfl⟩
      (exact zwL [(0,some 0),(1,some _)]))
  .clear vT
   obtain rfl:j=32:=by omega
   have ht:=QdZ (pgL xs p 32);have sg:(isv .u8 (pgL xs p 32)).length=4*32/\∀ (i:Nat) s,(isv .u8 (pgL xs p 32))[i]?=some s->(isv .u8 (pgL xs p 32))[0+i]?=some s:=⟨gF,fun i s hs=>by rw [Nat.zero_add];exact hs⟩;generalize isv .u8 (pgL xs p 32)=R0 at *;generalize pgL xs p 32=L,4*32=r0 at *;(repeat' ((conv=>whnf);first|exact zi2|refine zj0 fun hb=>?_|(apply Sg.mk; . exact sg)|refine QHo ?_|refine zse ?_|refine zbb ?_ ?_))
   all_goals exact Qet
 .rw [zN gU,zdf gU]
  generalize mpg n=P,wsv xs=XX at *;refine fnW Tryz.func178 ?_;(repeat' ((conv=>whnf);first|exact zi2|refine zj0 fun hb=>?_|(refine QaA hp ?_)|refine zse ?_|refine zbb ?_ ?_))
  all_goals exact Qet
def oS (k:Nat):Option (List SV)->SV
 | none=> .nilsl
 | some _=> .sl k 0 1
def oR:Option (List SV)->List Row
 | none=> []
 | some l=> [⟨true,4,l⟩]
def Qps (d:Dk) (v c:Nat) (b:ByteArray):Dk:=⟨d.bs,d.bl,d.fr,1,v,d.bl,d.fr,if (v:Int)=2 then b else ⟨#[]⟩⟩
def Qa4 (d:Dk) (xs:List Nat) (n:Nat) (p:Int) (v c:Nat):Dk × Option (List SV) :=
 if p=4 then (⟨d.bs,v,d.fr,d.st,d.cmd,d.ob,d.of_,d.od⟩,none)
 else if p=5 then (⟨d.bs,d.bl,v,d.st,d.cmd,d.ob,d.of_,d.od⟩,none)
 else if ¬ p=6 then (d,none)
 else if (v:Int)=0/\(d.st=2\/d.st=3) then (⟨d.bs,d.bl,d.fr,0,d.cmd,d.ob,d.of_,d.od⟩,none)
 else if ((v:Int)=1\/(v:Int)=2)/\d.st=0 then
  (if (d.bs:Int)<=d.bl then (⟨d.bs,d.bl,d.fr,3,d.cmd,d.ob,d.of_,d.od⟩,none)
   else if QbE n d.fr=false then (⟨d.bs,d.bl,d.fr,3,d.cmd,d.ob,d.of_,d.od⟩,none)
   else (Qps d v c (pgV xs n d.fr),some (QnL (Qps d v c (pgV xs n d.fr)) c)))
 else (d,none)
theorem QnI (d:Dk) (hd:d.ok) (xs:List Nat) (n:Nat) (hl:xs.length=n) (hn:n<=1000000) (hY:ZL xs) (p:Int) (v:Nat) (hv:ZU v) (c:Nat) :
  FN 109 [.agg d.C,.s (.sl 0 0 n),.s (.i p),.s (.u v),.s (.w c)] [⟨false,1,wsv xs⟩] (. =⟨.tup [.agg (Qa4 d xs n p v c).1.C,.s (oS 1 (Qa4 d xs n p v c).2)],[],oR (Qa4 d xs n p v c).2⟩):=by
 obtain ⟨_,_,e3,_,_,_,_,_⟩:=hd;have q1:=Qgg xs n hl (by omega) d.fr e3;have q2:=Qj2 xs n hl hn hY d.fr;have q3:=Qlz (Qps d v c (pgV xs n d.fr)) c;have gL:=Qaa xs;obtain ⟨D,hD⟩:∃ D,Qa4 d xs n p v c=D:=⟨_,rfl⟩;rw [hD];unfold Qa4 at hD;generalize hO:QnL (Qps d v c (pgV xs n d.fr)) c=O at *
 have YE:O.length=4/\Qao O=true/\Qat O=true:=by
  rw [<- hO];unfold QnL;split<;>(try split)<;>(try split)<;>exact ⟨rfl,rfl,rfl⟩
 generalize Qv9 (Qps d v c (pgV xs n d.fr))=RB at *;unfold Qps at *;generalize pgV xs n d.fr=PG,decide (d.fr<mpg n)=PB,QbE n d.fr=pb,wsv xs=XX at *;obtain ⟨bs,bl,fr,st⟩:=d;dsimp only [Dk.C] at *;have cv:IntKind.i64.wrap (v:Int)=v:=Qht;have cf:IntKind.i64.wrap (fr:Int)=fr:=Qht
 by_cases h4:p=4
 .rw [zP h4] at hD
  subst hD h4;dsimp only [oS,oR];refine fnW Tryz.func109 ?_;exact QsO
 rw [zN h4] at hD
 by_cases h5:p=5
 .rw [zP h5] at hD
  subst hD h5;dsimp only [oS,oR];refine fnW Tryz.func109 ?_;exact QsO
 rw [zN h5] at hD
 by_cases h6:¬ p=6
 .rw [zP h6] at hD
  subst hD;dsimp only [oS,oR];refine fnW Tryz.func109 ?_;exact QsO
 rw [zN h6] at hD;obtain rfl:p=6:=by omega
 by_cases h7:(v:Int)=0/\(st=2\/st=3)
 .rw [zP h7] at hD
  subst hD;dsimp only [oS,oR];refine fnW Tryz.func109 ?_;exact QsO
 rw [zN h7] at hD
 by_cases h8:((v:Int)=1\/(v:Int)=2)/\st=0
 .rw [zP h8] at hD
  by_cases h9:(bs:Int)<=bl
  .rw [zP h9] at hD
   subst hD;dsimp only [oS,oR];refine fnW Tryz.func109 ?_;exact QsO
  rw [zN h9] at hD;cases pb
  .rw [zP rfl] at hD
   subst hD;dsimp only [oS,oR];refine fnW Tryz.func109 ?_;(repeat' ((conv=>whnf);first|exact zi2|refine zj0 fun hb=>?_|(refine QaA q1 ?_)|refine zse ?_|refine zbb ?_ ?_))
   all_goals exact QD1
  rw [zN (by decide)] at hD
  by_cases h2:(v:Int)=2
  .rw [zP h2] at hD q3
   obtain rfl:v=2:=by omega
   obtain rfl:O= [.i 4,.w c,.u bl,.str PG]:=by rw [<- hO];rfl
   clear hO YE;subst hD;dsimp only [oS,oR];refine fnW Tryz.func109 ?_;exact QEl
  .rw [zN h2] at hD q3
   obtain rfl:v=1:=by omega
   obtain rfl:O= [.i 3,.w c,.u bl,.str ⟨#[]⟩]:=by rw [<- hO];rfl
   clear hO YE;subst hD;dsimp only [oS,oR];refine fnW Tryz.func109 ?_;exact QEl
 rw [zN h8] at hD;subst hD;dsimp only [oS,oR];refine fnW Tryz.func109 ?_;exact QDS
def Qbk (d:Nk) (xs:List Nat) (n:Nat) (p:Int) (v c:Nat):Nk × Option (List SV) :=
 if p=7 then (⟨v,d.ln,d.po,d.bu,d.re,d.go_⟩,none)
 else if p=8 then (⟨d.fr,v,d.po,d.bu,d.re,d.go_⟩,none)
 else if ¬ p=9 then (d,none)
 else if (v:Int)=0 then (⟨d.fr,d.ln,d.po,d.bu,false,0⟩,none)
 else if (v:Int)=1/\1<=(d.ln:Int)/\(d.ln:Int)<=128/\QbE n d.fr=true then (d,some [.i 2,.w c,.u 0,.str ((pgV xs n d.fr).extract 0 d.ln)])
 else if (v:Int)=2/\QbE n d.fr=true/\d.po=false/\d.re=false then (⟨d.fr,d.ln,true,d.fr,d.re,d.go_⟩,none)
 else (d,none)
theorem Qiz {xs:List Nat} {n f:Nat} (h:QbE n f=true):(pgV xs n f).size=128:=by
 unfold QbE at h;have:=of_decide_eq_true h;unfold pgV;rw [zP (by omega),strOfNums_size,QgU]
theorem QnR (d:Nk) (hd:d.ok) (xs:List Nat) (n:Nat) (hl:xs.length=n) (hn:n<=1000000) (hY:ZL xs) (p:Int) (v:Nat) (hv:ZU v) (c:Nat) :
  FN 110 [.agg d.C,.s (.sl 0 0 n),.s (.i p),.s (.u v),.s (.w c)] [⟨false,1,wsv xs⟩] (. =⟨.tup [.agg (Qbk d xs n p v c).1.C,.s (oS 1 (Qbk d xs n p v c).2)],[],oR (Qbk d xs n p v c).2⟩):=by
 obtain ⟨e1,_,_,_⟩:=hd;have q1:=Qgg xs n hl (by omega) d.fr e1;have q2:=Qj2 xs n hl hn hY d.fr;have vY:=@Qiz xs n d.fr;have gL:=Qaa xs;obtain ⟨D,hD⟩:∃ D,Qbk d xs n p v c=D:=⟨_,rfl⟩;rw [hD];unfold Qbk at hD;generalize pgV xs n d.fr=PG,decide (d.fr<mpg n)=PB,QbE n d.fr=pb,wsv xs=XX at *;obtain ⟨fr,ln,po,_,re⟩:=d;dsimp only [Nk.C] at *;have cf:IntKind.i64.wrap (fr:Int)=fr:=Qht;have cl:IntKind.i64.wrap (ln:Int)=ln:=Qht
 by_cases h4:p=7
 .rw [zP h4] at hD
  subst hD h4;dsimp only [oS,oR];refine fnW Tryz.func110 ?_;exact Qdi
 rw [zN h4] at hD
 by_cases h5:p=8
 .rw [zP h5] at hD
  subst hD h5;dsimp only [oS,oR];refine fnW Tryz.func110 ?_;exact Qdi
 rw [zN h5] at hD
 by_cases h6:¬ p=9
 .rw [zP h6] at hD
  subst hD;dsimp only [oS,oR];refine fnW Tryz.func110 ?_;exact Qdi
 rw [zN h6] at hD;obtain rfl:p=9:=by omega
 by_cases h7:(v:Int)=0
 .rw [zP h7] at hD
  subst hD;obtain rfl:v=0:=by omega
  dsimp only [oS,oR];refine fnW Tryz.func110 ?_;exact Qdi
 rw [zN h7] at hD
 by_cases h8:(v:Int)=1/\1<=(ln:Int)/\(ln:Int)<=128/\pb=true
 .rw [zP h8] at hD
  obtain ⟨_,_,_,rfl⟩:=h8;have vY:=vY rfl;have sb:(0:Int)<=0/\(0:Int)<=(ln:Int)/\(ln:Int)<=(PG.size:Nat):=by omega
  subst hD;obtain rfl:v=1:=by omega
  dsimp only [oS,oR];refine fnW Tryz.func110 ?_;exact QEn
 rw [zN h8] at hD
 by_cases h9:(v:Int)=2/\pb=true/\po=false/\re=false
 .rw [zP h9] at hD
  obtain ⟨_,rfl,rfl,rfl⟩:=h9;subst hD;obtain rfl:v=2:=by omega
  dsimp only [oS,oR];refine fnW Tryz.func110 ?_;exact Qon
 rw [zN h9] at hD
 by_cases w1:v=1
 .obtain rfl:=w1
  by_cases w2:1<=(ln:Int)
  .by_cases w3:(ln:Int)<=128
   .obtain rfl:pb=false:=by cases pb;rfl;exact absurd ⟨rfl,w2,w3,rfl⟩ h8
    subst hD;dsimp only [oS,oR];refine fnW Tryz.func110 ?_;exact Qon
   .subst hD
    dsimp only [oS,oR];refine fnW Tryz.func110 ?_;exact Qdi
  .subst hD
   dsimp only [oS,oR];refine fnW Tryz.func110 ?_;exact Qdi
 by_cases w2:v=2
 .obtain rfl:=w2
  subst hD;cases pb
  all_goals cases po
  all_goals cases re
  all_goals try (exfalso;exact h9 ⟨rfl,rfl,rfl,rfl⟩)
  all_goals
   skip;dsimp only [oS,oR];refine fnW Tryz.func110 ?_;exact Qon
 subst hD;dsimp only [oS,oR];refine fnW Tryz.func110 ?_;exact Qz2
theorem QDm (P:Nat) (h:ZU P):IntKind.u32.wrap (P:Int)=(P:Nat):=Qe7 (by omega) (by omega)
def anV (a b:Nat):Nat:=(bits .andNot .u32 (a:Int) (b:Int)).toNat
theorem Qi2 (a b:Nat):bits .andNot .u32 (a:Int) (b:Int)=((anV a b:Nat):Int)/\anV a b<4294967296:=by
 have h:0<=bits .andNot .u32 (a:Int) (b:Int)/\bits .andNot .u32 (a:Int) (b:Int)<4294967296:=by
  show 0<=IntKind.u32.wrap _/\IntKind.u32.wrap _<4294967296;rw [Qch];omega
 unfold anV;omega
def zrL (xs:List Nat) (v:Nat):Nat->List Nat
 | 0=>xs
 | j+1=>(zrL xs v j).set (v*32+j) 0
theorem Qft (xs:List Nat) (v:Nat):∀ j,(zrL xs v j).length=xs.length
 | 0=>rfl
 | j+1=>by unfold zrL;rw [List.length_set,Qft xs v j]
theorem Qwx (xs:List Nat) (v:Nat) (h:ZL xs):∀ j,∀ y∈zrL xs v j,y<4294967296
 | 0=>h
 | j+1=>fun y hy=>by
  unfold zrL at hy;rcases List.mem_or_eq_of_mem_set hy with h1|h1
  .exact Qwx xs v h j y h1
  .omega
def gvQ (bg n:Nat) (p:Int) (v:Nat):Prop:=p=10/\QbE n v=true/\bg / 2^v%2=0
instance (bg n:Nat) (p:Int) (v:Nat):Decidable (gvQ bg n p v):=by unfold gvQ;infer_instance
def Qhj (bg n:Nat) (p:Int) (v:Nat):Nat:=if gvQ bg n p v then bg ||| 2^v else if p=11/\(v:Int)<32 then anV bg (2^v) else bg
def QfO (xs:List Nat) (bg n:Nat) (p:Int) (v:Nat):List Nat:=if gvQ bg n p v then zrL xs v 32 else xs
def QB2 (n v j:Nat) (X:List SV) (bt bg:Nat):St :=
 ⟨[(1,.a (.s (.sl 0 0 n))),(3,.a (.s (.u v))),(4,.a (.s (.ptr 1 0))),(8,.a (.s (.ptr 2 0))),(9,.a (.s (.i j)))],[(0,some ⟨true,1,X⟩),(1,some ⟨true,1,[.u bt,.u bg]⟩),(2,some ⟨true,1,[.u 0,.u 0]⟩)],[0]⟩
theorem Qur (bt bg:Nat) (hb:ZU bg) (xs:List Nat) (n:Nat) (hl:xs.length=n) (hn:n<=1000000) (p:Int) (v:Nat) (hv:ZU v) (hq:¬ gvQ bg n p v) :
  FN 111 [.agg [.u bt,.u bg],.s (.sl 0 0 n),.s (.i p),.s (.u v)] [⟨true,1,wsv xs⟩] (. =⟨.a (.agg [.u bt,.u (Qhj bg n p v)]),[(0,some ⟨true,1,wsv (QfO xs bg n p v)⟩)],[]⟩):=by
 have q1:=Qgg xs n hl (by omega) v hv;have gL:=Qaa xs;have uF:=QaT n;have hmn:mpg n*32<=n:=Qeu;have JO:=(Qi2 bg (2^v)).1;have yU:QbE n v=true->v<mpg n:=fun h=>by unfold QbE at h;have:=of_decide_eq_true h;omega
 unfold Qhj QfO;rw [zN hq,zN hq];unfold gvQ at hq
 by_cases yN:p=11
 .subst yN
  by_cases zR:(v:Int)<32
  .rw [zP ⟨rfl,zR⟩]
   have FY:(2:Nat)^v<4294967296:=by
    have:=Nat.pow_lt_pow_right (a:=2) (by omega) (show v<32 by omega);simpa using this
   have s3:(1:Int)*2^min ((v:Nat):Int).toNat IntKind.u32.bits=((2^v:Nat):Int):=by rw [QHT 1 v (by omega)];simp
   have s4:IntKind.u32.wrap ((2^v:Nat):Int)=((2^v:Nat):Int):=QDm _ FY;have s4':IntKind.u32.wrap ((1:Int)*2^min ((v:Nat):Int).toNat IntKind.u32.bits)=((2^v:Nat):Int):=by rw [s3,s4]
   clear hq yU;generalize 2^v=pw at *;generalize anV bg pw=b2,wsv xs=XX at *;refine fnW Tryz.func111 ?_;(repeat' ((conv=>whnf);first|exact zi2|refine zj0 fun hb=>?_|(with_reducible first|refine zv s4' ?_|refine zv s3 ?_|refine zv s4 ?_|refine zv JO ?_)|refine zse ?_|refine zbb ?_ ?_))
   all_goals exact Qve
  .rw [zN (fun h=>zR h.2)]
   clear hq yU JO;generalize wsv xs=XX at *;refine fnW Tryz.func111 ?_;(repeat' ((conv=>whnf);first|exact zi2|refine zj0 fun hb=>?_|refine zse ?_|refine zbb ?_ ?_))
   all_goals exact Qve
 rw [zN (fun h=>yN h.1)]
 by_cases jW:p=10
 .subst jW
  by_cases h2:QbE n v=true
  .rw [h2] at q1
   have hvm:=yU h2;have zR:v<32:=by omega
   have h3:bg / 2^v%2=1:=by
    have:¬ bg / 2^v%2=0:=fun h=>hq ⟨rfl,h2,h⟩
    omega
   have s1:=Qn3 bg v zR;have s2:=Qi3 (bg / 2^v) (Nat.lt_of_le_of_lt (Nat.div_le_self _ _) hb);rw [h3] at s2;clear hq yU JO h3;generalize bg / 2^v=bv,wsv xs=XX at *;refine fnW Tryz.func111 ?_;(repeat' ((conv=>whnf);first|exact zi2|refine zj0 fun hb=>?_|refine QHq ?_|(refine QaA q1 ?_)|refine zse ?_|refine zbb ?_ ?_))
   all_goals exact Qve
  .rw [Bool.eq_false_iff.2 h2] at q1
   clear hq yU JO;generalize wsv xs=XX at *;refine fnW Tryz.func111 ?_;(repeat' ((conv=>whnf);first|exact zi2|refine zj0 fun hb=>?_|(refine QaA q1 ?_)|refine zse ?_|refine zbb ?_ ?_))
   all_goals exact Qve
 clear hq yU JO;generalize wsv xs=XX at *;refine fnW Tryz.func111 ?_;exact QDS
theorem QrB (bt bg:Nat) (hb:ZU bg) (xs:List Nat) (n:Nat) (hl:xs.length=n) (hn:n<=1000000) (p:Int) (v:Nat) (hv:ZU v) (hq:gvQ bg n p v) :
  FN 111 [.agg [.u bt,.u bg],.s (.sl 0 0 n),.s (.i p),.s (.u v)] [⟨true,1,wsv xs⟩] (. =⟨.a (.agg [.u bt,.u (Qhj bg n p v)]),[(0,some ⟨true,1,wsv (QfO xs bg n p v)⟩)],[]⟩):=by
 have q1:=Qgg xs n hl (by omega) v hv;have gL:=Qaa xs;have uF:=QaT n;have hmn:mpg n*32<=n:=Qeu;have JO:=(Qi2 bg (2^v)).1;have yU:QbE n v=true->v<mpg n:=fun h=>by unfold QbE at h;have:=of_decide_eq_true h;omega
 unfold Qhj QfO;rw [zP hq,zP hq];obtain ⟨ZZ,JM⟩:∃ ZZ,∀ k,k=32->zrL xs v k=ZZ:=⟨zrL xs v 32,fun k h=>by rw [h]⟩;rw [JM 32 rfl];obtain ⟨rfl,h2,h3⟩:=hq;rw [h2] at q1;have hvm:=yU h2;have zR:v<32:=by omega
 have s1:=Qn3 bg v zR;have s2:=Qi3 (bg / 2^v) (Nat.lt_of_le_of_lt (Nat.div_le_self _ _) hb);rw [h3] at s2
 have FY:(2:Nat)^v<4294967296:=by
  have:=Nat.pow_lt_pow_right (a:=2) (by omega) zR;simpa using this
 have s3:(1:Int)*2^min ((v:Nat):Int).toNat IntKind.u32.bits=((2^v:Nat):Int):=by rw [QHT 1 v (by omega)];simp
 have s4:IntKind.u32.wrap ((2^v:Nat):Int)=((2^v:Nat):Int):=QDm _ FY;have s4':IntKind.u32.wrap ((1:Int)*2^min ((v:Nat):Int).toNat IntKind.u32.bits)=((2^v:Nat):Int):=by rw [s3,s4]
 have s5:=Qyn bg (2^v) hb FY;have q0:IntKind.i64.wrap (v:Int)=v:=Qht;have q3:IntKind.i64.wrap ((v:Int)*32)=((v*32:Nat):Int):=QaS;clear yU uF h2 h3 JO;generalize bg / 2^v=bv at *;generalize 2^v=pw at *;generalize bg ||| pw=b2,hX:wsv xs=XX at *;refine fnW Tryz.func111 ?_;(conv=>whnf);(repeat' ((first|exact zi2|refine zj0 fun hb=>?_|(with_reducible first|refine zv s1 ?_|refine zv s2 ?_|refine zv s4' ?_|refine zv s5 ?_)|(refine QaA q1 ?_)|refine zse ?_|refine zbb ?_ ?_)<;>conv=>whnf))
 all_goals try (exfalso;simp at hb;done)
 refine Lp.inv (fun mm σ=>∃ j:Nat,mm+j=32/\σ=QB2 n v j (wsv (zrL xs v j)) bt b2) ?_ ?_
 .refine ⟨32,QB2 n v 0 XX bt b2,?_,0,by omega,by rw [<- hX];rfl⟩
  (exact zwL [(0,some 0),(1,some _),(2,some _)])
 clear s1 s2 s3 s4 s4' s5 q1;rintro mm σ ⟨j,yT,rfl⟩;unfold QB2;have hZ:=Qaa (zrL xs v (j+1));have UY:=Qaa (zrL xs v j)
 by_cases hj:j<32
 .have fE:QaC (wsv (zrL xs v j)) (v*32+j) [Ql1 (Value.int IntKind.u32 0)]=wsv (zrL xs v (j+1)) :=
    QbA (zrL xs v j) (v*32+j) 0 (by rw [Qft];omega)
  have hlz:(wsv (zrL xs v j)).length=n:=by simp [Qft,hl]
  have q2:IntKind.i64.wrap ((j:Int)+1)=((j+1:Nat):Int):=QaS;have q4:IntKind.i64.wrap (((v*32:Nat):Int)+(j:Int))=((v*32+j:Nat):Int):=QaS;have YY:(0:Int)<=((v*32+j:Nat):Int)/\((v*32+j:Nat):Int)<(n:Int):=by omega
  generalize wsv (zrL xs v j)=Z0,hZ1:wsv (zrL xs v (j+1))=Z1,v*32+j=ix at *;generalize v*32=v32 at *;have hsd:ix+1<=Z0.length:=by omega
  (conv=>whnf);(repeat' ((first|exact zi2|refine zj0 fun hb=>?_|(with_reducible first|refine zv q0 ?_|refine zv q2 ?_|refine zv q3 ?_|refine zv q4 ?_)|(apply Sd.mk; . first|with_reducible exact YY|exact ⟨rfl,rfl,rfl,hsd⟩)|refine zq7 ?_|refine zse ?_|refine zbb ?_ ?_)<;>conv=>whnf))
  all_goals first
   | (
     refine ⟨mm-1,QB2 n v (j+1) Z1 bt b2,by omega,?_,j+1,by omega,by unfold QB2;rw [hZ1]⟩
     (exact zwL [(0,some 0),(1,some 1),(2,some 2)]))
 .obtain rfl:j=32:=by omega
  clear hZ;rw [JM 32 rfl] at UY |-;clear JM;generalize wsv ZZ=Z0 at *;exact Qdi
theorem Quq (bt bg:Nat) (hb:ZU bg) (xs:List Nat) (n:Nat) (hl:xs.length=n) (hn:n<=1000000) (p:Int) (v:Nat) (hv:ZU v) :
  FN 111 [.agg [.u bt,.u bg],.s (.sl 0 0 n),.s (.i p),.s (.u v)] [⟨true,1,wsv xs⟩] (. =⟨.a (.agg [.u bt,.u (Qhj bg n p v)]),[(0,some ⟨true,1,wsv (QfO xs bg n p v)⟩)],[]⟩):=by grind [gvQ,QrB,Qur,Fn,wsv,Qhj,QfO]
theorem QxQ (bg n:Nat) (hb:ZU bg) (p:Int) (v:Nat):Qhj bg n p v<4294967296:=by
 unfold Qhj;split
 .rename_i h
  have hv:v<32:=by
   have:=h.2.1;have hm:=QaT n;unfold QbE at this;have:=of_decide_eq_true this;omega
  have FY:(2:Nat)^v<2^32:=Nat.pow_lt_pow_right (a:=2) (by omega) hv;exact Nat.or_lt_two_pow (n:=32) hb FY
 .split
  .exact (Qi2 bg (2^v)).2
  .exact hb
theorem QeO (xs:List Nat) (bg n:Nat) (p:Int) (v:Nat):(QfO xs bg n p v).length=xs.length:=by grind [QfO,Qft]
theorem QxR (xs:List Nat) (bg n:Nat) (p:Int) (v:Nat) (h:ZL xs):∀ y∈QfO xs bg n p v,y<4294967296:=by
 unfold QfO;split
 .exact Qwx xs v h 32
 .exact h
theorem Qrl (xs:List Nat) (n f:Nat):(pgV xs n f).size<=128:=by
 unfold pgV;split
 .rw [strOfNums_size,QgU];omega
 .exact Nat.zero_le _
theorem Qpt (d:Dk) (hd:d.ok) (xs:List Nat) (n:Nat) (p:Int) (v:Nat) (hv:ZU v) (c:Nat):(Qa4 d xs n p v c).1.ok:=by
 obtain ⟨e1,e2,e3,e4,e5,e6,e7,e8⟩:=hd;have w:∀ i:Int,0<=i->i<4294967296->(Lit.int .i64 i).wf=true:=fun i h h'=>by simp [Lit.wf];exact ⟨by show (-9223372036854775808:Int)<=i;omega,by omega⟩
 unfold Qa4;split
 .exact ⟨e1,hv,e3,e4,e5,e6,e7,e8⟩
 split
 .exact ⟨e1,e2,hv,e4,e5,e6,e7,e8⟩
 split
 .exact ⟨e1,e2,e3,e4,e5,e6,e7,e8⟩
 split
 .exact ⟨e1,e2,e3,e4,e5,e6,w 0 (by omega) (by omega),e8⟩
 split
 .split
  .exact ⟨e1,e2,e3,e4,e5,e6,w 3 (by omega) (by omega),e8⟩
  split
  .exact ⟨e1,e2,e3,e4,e5,e6,w 3 (by omega) (by omega),e8⟩
  .refine ⟨e1,e2,e3,e2,e3,?_,w 1 (by omega) (by omega),w v (by omega) (by omega)⟩
   show (if (v:Int)=2 then pgV xs n d.fr else ⟨#[]⟩:ByteArray).size<=1000000;split
   .grind [Qrl,Qa4]
   .exact Nat.zero_le _
 .exact ⟨e1,e2,e3,e4,e5,e6,e7,e8⟩
def QjQ (O:Option (List SV)):Prop:=∀ l,O=some l->l.length=4/\Qao l=true/\Qat l=true
theorem QdL (d:Dk) (xs:List Nat) (n:Nat) (p:Int) (v c:Nat):QjQ (Qa4 d xs n p v c).2:=by
 unfold Qa4 QjQ;intro l h;split at h
 .cases h
 split at h
 .cases h
 split at h
 .cases h
 split at h
 .cases h
 split at h
 .split at h
  .cases h
  split at h
  .cases h
  .injection h with h
   subst h;unfold QnL;split<;>(try split)<;>(try split)<;>exact ⟨rfl,rfl,rfl⟩
 .cases h
theorem Qq8 (d:Nk) (hd:d.ok) (xs:List Nat) (n:Nat) (p:Int) (v:Nat) (hv:ZU v) (c:Nat):(Qbk d xs n p v c).1.ok:=by
 obtain ⟨e1,e2,e3,e4⟩:=hd;unfold Qbk;split
 .exact ⟨hv,e2,e3,e4⟩
 split
 .exact ⟨e1,hv,e3,e4⟩
 split
 .exact ⟨e1,e2,e3,e4⟩
 split
 .exact ⟨e1,e2,e3,by show (0:Nat)<_;omega⟩
 split
 .exact ⟨e1,e2,e3,e4⟩
 split
 .exact ⟨e1,e2,e1,e4⟩
 .exact ⟨e1,e2,e3,e4⟩
theorem QdR (d:Nk) (xs:List Nat) (n:Nat) (p:Int) (v c:Nat):QjQ (Qbk d xs n p v c).2:=by
 unfold Qbk QjQ;intro l h;split at h
 .cases h
 split at h
 .cases h
 split at h
 .cases h
 split at h
 .cases h
 split at h
 .injection h with h
  subst h;exact ⟨rfl,rfl,rfl⟩
 split at h
 .cases h
 .cases h
theorem QB6 (M:Mc) (hM:M.ok) (p:Int):(inM M p).ok:=by
 unfold inM;split
 .obtain ⟨h1,h2,h3,h4,h5,h6,h7,h8,h9,g1,g2,g3,g4,g5⟩:=hM
  refine ⟨h1,h2,h3,h4,h5,h6,h7,h8,h9,g1,g2,g3,g4,?_⟩;show (QkV M.ks p).size<=1000000;unfold QkV;split
  .grind [ByteArray.size_extract,inM]
  .exact g5
 .exact hM
def Qbx (M:Mc) (p:Int) (v:Nat):Mc × Option (List SV) :=
 if p=0 then (M,some [.i 1,.w M.ct,.u 0,.str (strOfNums [v%256])])
 else if p<=2 then (M,none)
 else if p=3 then ({ M with ta:=decide (¬ (v:Int)=0),td:=v,tf:=false },none)
 else if p<=6 then ({ M with d:=(Qa4 M.d M.m M.m.length p v M.ct).1 },(Qa4 M.d M.m M.m.length p v M.ct).2)
 else if p<=9 then ({ M with n:=(Qbk M.n M.m M.m.length p v M.ct).1 },(Qbk M.n M.m M.m.length p v M.ct).2)
 else ({ M with bg:=Qhj M.bg M.m.length p v,m:=QfO M.m M.bg M.m.length p v },none)
theorem Qix (M:Mc) (p:Int) (v:Nat):QjQ (Qbx M p v).2:=by
 unfold Qbx;split
 .intro l h;injection h with h;subst h;exact ⟨rfl,rfl,rfl⟩
 split
 .intro l h;cases h
 split
 .intro l h;cases h
 split
 .exact QdL _ _ _ _ _ _
 split
 .exact QdR _ _ _ _ _ _
 .intro l h;cases h
theorem Qyt (M:Mc) (hM:M.ok) (p:Int) (v:Nat) (hv:ZU v):(Qbx M p v).1.ok:=by
 have k:=hM;obtain ⟨h1,h2,h3,h4,h5,h6,h7,h8,h9,g1,g2,g3,g4,g5⟩:=hM;unfold Qbx;split
 .exact k
 split
 .exact k
 split
 .exact ⟨h1,h2,h3,h4,h5,h6,h7,h8,h9,hv,g2,g3,g4,g5⟩
 split
 .exact ⟨h1,h2,h3,h4,h5,h6,h7,Qpt _ h8 _ _ _ _ hv _,h9,g1,g2,g3,g4,g5⟩
 split
 .exact ⟨h1,h2,h3,h4,h5,h6,h7,h8,Qq8 _ h9 _ _ _ _ hv _,g1,g2,g3,g4,g5⟩
 .refine ⟨h1,h2,h3,h4,h5,QxR _ _ _ _ _ h6,?_,h8,h9,g1,g2,QxQ _ _ g3 _ _,g4,g5⟩
  show (QfO M.m M.bg M.m.length p v).length<=1000000;rw [QeO];exact h7
theorem Qiw (M:Mc) (p:Int) (v:Nat):(Qbx M p v).1.m.length=M.m.length:=by
 unfold Qbx;split
 .rfl
 split
 .rfl
 split
 .rfl
 split
 .rfl
 split
 .rfl
 .exact QeO _ _ _ _ _
end Go.Proofs.YtpgkkfajljekpabGreat
