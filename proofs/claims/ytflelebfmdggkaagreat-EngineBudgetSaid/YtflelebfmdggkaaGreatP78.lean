import Derived.Test.YtflelebfmdggkaaGreatP76
set_option linter.unusedSimpArgs false
set_option linter.unusedVariables false
set_option maxHeartbeats 100000000
set_option maxRecDepth 100000
namespace Go.Proofs.YtflelebfmdggkaaGreat
open Go Go.RowKit
theorem Qm8 (k:ByteArray):FN 110 [.agg [.str k]] [] (· =⟨.a (.s (.bool (Qc4 k))),[],[]⟩):=by
 unfold Qc4;refine fnW Tryz.func110 ?_;exact Qle
theorem QnC (a:Bool) (d:Nat) (f:Bool):FN 111 [.agg [.bool a,.u d,.bool f]] [] (· =⟨.a (.s (.bool (Qd0 a d f))),[],[]⟩):=by
 cases a<;>cases f
 all_goals
  refine fnW Tryz.func111 ?_;exact QAy
theorem Qnb (n:Nk) (hn:n.ok) (p:Int):FN 113 [.agg n.C,.s (.i p)] [] (· =⟨.a (.s (.bool (Qb7 n p))),[],[]⟩):=by
 obtain ⟨r1,r2,r3,r4⟩:=hn;obtain ⟨fr,ln,po,bu,re,go_⟩:=n;dsimp only at *;dsimp only [Nk.C];generalize hB:Qb7 ⟨fr,ln,po,bu,re,go_⟩ p=B;unfold Qb7 at hB;dsimp only at hB;cases po<;>cases re
 all_goals
  refine fnW Tryz.func113 ?_;exact QBT
theorem Qkn (a:Bool) (d:Nat) (f:Bool):FN 136 [.agg [.bool a,.u d,.bool f]] [] (· =⟨.a (.s (.bool f)),[],[]⟩):=by
 refine fnW Tryz.func136 ?_;exact Qle
theorem QgV (d:Dk):FN 138 [.agg d.C] [] (· =⟨.a (.s (.bool (QbU d.st))),[],[]⟩):=by
 obtain ⟨_,_,_,st⟩:=d;dsimp only [Dk.C];obtain ⟨B,hB⟩:∃ B,QbU st=B:=⟨_,rfl⟩;rw [hB];unfold QbU at hB;refine fnW Tryz.func138 ?_;exact QDJ
theorem Qlq (n:Nk):FN 139 [.agg n.C] [] (· =⟨.a (.s (.bool n.re)),[],[]⟩):=by
 obtain ⟨_,_,_,_,re⟩:=n;dsimp only [Nk.C];refine fnW Tryz.func139 ?_;exact Qle
theorem Qst (a:Bool) (d:Nat) (f:Bool):FN 220 [.agg [.bool a,.u d,.bool f]] [] (· =⟨.a (.s (.u (QmV f:Nat))),[],[]⟩):=by
 cases f
 all_goals
  refine fnW Tryz.func220 ?_;exact QKi
theorem Qqq (d:Dk) (p:Int):FN 221 [.agg d.C,.s (.i p)] [] (· =⟨.a (.s (.u (Qg8 d p:Nat))),[],[]⟩):=by
 have qs:=Qat d.st;obtain ⟨B,hB⟩:∃ B,Qg8 d p=B:=⟨_,rfl⟩;rw [hB];unfold Qg8 at hB;obtain ⟨_,_,_,st⟩:=d;dsimp only [Dk.C] at *;generalize w32 st=ws at *
 by_cases h4:p=4
 ·rw [zP h4] at hB
  subst h4 hB;refine fnW Tryz.func221 ?_;exact QKf
 rw [zN h4] at hB
 by_cases h5:p=5
 ·rw [zP h5] at hB
  subst h5 hB;refine fnW Tryz.func221 ?_;exact QKf
 rw [zN h5] at hB
 by_cases h6:p=6
 ·rw [zP h6] at hB
  subst h6 hB;refine fnW Tryz.func221 ?_;exact QCo
 rw [zN h6] at hB;subst hB;refine fnW Tryz.func221 ?_;exact QnI
theorem Qsn (n:Nk) (p:Int):FN 222 [.agg n.C,.s (.i p)] [] (· =⟨.a (.s (.u (QgZ n p:Nat))),[],[]⟩):=by
 obtain ⟨B,hB⟩:∃ B,QgZ n p=B:=⟨_,rfl⟩;rw [hB];unfold QgZ at hB;obtain ⟨_,_,po,_,re⟩:=n;dsimp only [Nk.C] at *
 by_cases h4:p=7
 ·rw [zP h4] at hB
  subst h4 hB;refine fnW Tryz.func222 ?_;exact QKf
 rw [zN h4] at hB
 by_cases h5:p=8
 ·rw [zP h5] at hB
  subst h5 hB;refine fnW Tryz.func222 ?_;exact QKf
 rw [zN h5] at hB
 by_cases h6:p=9
 ·rw [zP h6] at hB
  subst h6 hB;cases po<;>cases re
  all_goals
   refine fnW Tryz.func222 ?_;exact QKf
 rw [zN h6] at hB;subst hB;refine fnW Tryz.func222 ?_;exact QnI
theorem Qyo (a:Bool) (d0:Nat) (f:Bool) (d:Nat):FN 224 [.agg [.bool a,.u d0,.bool f],.s (.u d)] [] (· =⟨.a (.agg (QzS d)),[],[]⟩):=by
 unfold QzS
 by_cases h:(d:Int)=0
 ·rw [zP h]
  obtain rfl:d=0:=by omega
  refine fnW Tryz.func224 ?_;exact QKi
 ·rw [zN h]
  have hv:((d:Int) !=0)=true:=by simp;omega
  refine fnW Tryz.func224 ?_;(repeat' ((conv=>whnf);first|exact zi2|(refine zj0 ?_;intro hb)|((with_reducible apply Vl.mk (α:=Bool)); · with_reducible exact hv)|refine zse ?_|refine zbb ?_ ?_))
  all_goals exact QBx
theorem Qix (k:ByteArray):noD k=decide (k.size=0):=by
 unfold noD;rw [Bool.eq_iff_iff,beq_iff_eq,decide_eq_true_eq,ByteArray.toList_eq,ByteArray.toList_eq];show k.data.toList= []↔k.data.size=0;rw [← Array.length_toList];exact List.length_eq_zero_iff.symm
theorem Qkg (k:ByteArray):FN 137 [.agg [.str k]] [] (· =⟨.a (.s (.bool (Qcs k))),[],[]⟩):=by
 have qH:(!(k.toList==(⟨#[]⟩:ByteArray).toList))=Qcs k:=by
  show (!noD k)=_;unfold Qcs;rw [Qix,← decide_not];exact decide_eq_decide.2 (by omega)
 generalize Qcs k=B at *;refine fnW Tryz.func137 ?_;(repeat' ((conv=>whnf);first|exact zi2|(refine zj0 ?_;intro hb)|refine QCv ?_|refine zse ?_|refine zbb ?_ ?_))
 all_goals exact zf_
def Qjx (d:Dk):Bool:=decide (d.cmd=1∧noD d.od=true∨d.cmd=2∧d.od.size=128)
theorem Qnq (d:Dk):FN 176 [.agg d.C] [] (· =⟨.a (.s (.bool (Qjx d))),[],[]⟩):=by
 obtain ⟨bs,bl,fr,st,cmd,ob,of_,od⟩:=d;dsimp only [Dk.C];obtain ⟨B,hB⟩:∃ B,Qjx ⟨bs,bl,fr,st,cmd,ob,of_,od⟩=B:=⟨_,rfl⟩;rw [hB];unfold Qjx at hB;dsimp only at hB;have qH:(od.toList==(⟨#[]⟩:ByteArray).toList)=noD od:=rfl;generalize noD od=nd at *;refine fnW Tryz.func176 ?_;exact QAB
theorem QmP (d:Dk) (hd:d.ok) (p:Int):FN 112 [.agg d.C,.s (.i p)] [] (· =⟨.a (.s (.bool (QbO d p))),[],[]⟩):=by
 have qc:=Qnq d;obtain ⟨_,_,_,_,_,_,_,_⟩:=hd;obtain ⟨B,hB⟩:∃ B,QbO d p=B:=⟨_,rfl⟩;rw [hB];obtain ⟨Q,hQ⟩:∃ Q,Qjx d=Q:=⟨_,rfl⟩;rw [hQ] at qc;unfold Qjx at hQ;unfold QbO at hB;obtain ⟨_,_,_,_,_,_,_,od⟩:=d;dsimp only [Dk.C] at *;have qH:(od.toList==(⟨#[]⟩:ByteArray).toList)=noD od:=rfl;generalize noD od=nd at *;refine fnW Tryz.func112 ?_;(repeat' ((conv=>whnf);first|exact zi2|(refine zj0 ?_;intro hb)|refine QCv ?_|(refine zpu qc ?_)|refine zse ?_|refine zbb ?_ ?_));all_goals (conv=>whnf)
 all_goals first|(refine QcP ?_ ?_;(focus (exact zf_));rw [← hB];first|(symm;exact decide_eq_false (by omega))|(rw [Bool.eq_iff_iff];simp;grind))
theorem QdJ (b k:Nat):∀ j,QbL b (k+j)=QbL b k+QbL (b / 2^k) j
 | 0=>rfl
 | j+1=>by
  show QbL b (k+j)+b / 2^(k+j)%2=QbL b k+(QbL (b / 2^k) j+b / 2^k / 2^j%2);rw [QdJ b k j,Nat.div_div_eq_div_mul,← Nat.pow_add];omega
theorem Qio (b:Nat):QbL (b%256) 8=QbL b 8:=by
 simp only [QbL,Nat.pow_succ,Nat.pow_zero,Nat.one_mul,Nat.reduceMul];omega
def QoD (i:Nat):UInt8:=UInt8.ofNat (QbL i 8)
theorem Qe3 {a:ByteArray} {f:Nat→UInt8} (h:((List.range 256).all fun i=>a[i]?==some (f i))=true) (i:Nat) (hi:i<256):a[i]?=some (f i):=eq_of_beq (List.all_eq_true.1 h i (List.mem_range.2 hi))
theorem Qje (i:Nat):(QoD i).toNat=QbL i 8:=by
 have:=Qb6 i 8;unfold QoD;rw [UInt8.toNat_ofNat'];exact Nat.mod_eq_of_lt (by omega)
theorem QyN (b:Nat):QbL b 32=QbL (b / 16777216) 8+QbL (b / 65536%256) 8+QbL (b / 256%256) 8+QbL (b%256) 8:=by
 rw [Qio,Qio,Qio];have e1:=QdJ b 8 24;have e2:=QdJ b 16 16;have e3:=QdJ b 24 8;have e4:=QdJ b 8 8;have e5:=QdJ b 16 8;simp only [Nat.reduceAdd,Nat.reducePow] at e1 e2 e3 e4 e5;omega
theorem Qmt (b:Nat) (hb:b<4294967296):FN 239 [.s (.u b)] [] (· =⟨.a (.s (.i (QbL b 32:Nat))),[],[]⟩):=by
 have g1:=Qje (b / 16777216);have g2:=Qje (b / 65536%256);have g3:=Qje (b / 256%256);have g4:=Qje (b%256);have l1:=Qb6 (b / 16777216) 8;have l2:=Qb6 (b / 65536%256) 8;have l3:=Qb6 (b / 256%256) 8;have l4:=Qb6 (b%256) 8;have s1:(b:Int) / 2^min (Int.toNat 24) IntKind.u32.bits=((b / 16777216:Nat):Int):=rfl;have s2:(b:Int) / 2^min (Int.toNat 16) IntKind.u32.bits=((b / 65536:Nat):Int):=rfl;have s3:(b:Int) / 2^min (Int.toNat 8) IntKind.u32.bits=((b / 256:Nat):Int):=rfl;have m2:bits .and .u32 ((b / 65536:Nat):Int) 255=((b / 65536%256:Nat):Int):=Qbm _ 8 (by omega) (by omega);have m3:bits .and .u32 ((b / 256:Nat):Int) 255=((b / 256%256:Nat):Int):=Qbm _ 8 (by omega) (by omega);have m4:bits .and .u32 (b:Int) 255=((b%256:Nat):Int):=Qbm _ 8 (by omega) (by omega);have k1:b / 16777216<256:=by omega
 have k2:b / 65536%256<256:=by omega
 have k3:b / 256%256<256:=by omega
 have k4:b%256<256:=by omega
 rw [QyN];generalize b / 16777216=i1,b / 65536%256=i2,b / 256%256=i3,b%256=i4 at *;generalize b / 65536=j2,b / 256=j3 at *;have c1:∀ i,((QoD i).toNat:Int)=((QbL i 8:Nat):Int):=fun i=>by rw [Qje]
 have w1:IntKind.u8.wrap (((QoD i1).toNat:Int)+((QoD i2).toNat:Int))=((QbL i1 8+QbL i2 8:Nat):Int):=by rw [c1,c1,Qn5];omega
 have w2:IntKind.u8.wrap (((QbL i1 8+QbL i2 8:Nat):Int)+((QoD i3).toNat:Int))=((QbL i1 8+QbL i2 8+QbL i3 8:Nat):Int):=by rw [c1,Qn5];omega
 have w3:IntKind.u8.wrap (((QbL i1 8+QbL i2 8+QbL i3 8:Nat):Int)+((QoD i4).toNat:Int))=((QbL i1 8+QbL i2 8+QbL i3 8+QbL i4 8:Nat):Int):=by rw [c1,Qn5];omega
 have w4:IntKind.i64.wrap ((QbL i1 8+QbL i2 8+QbL i3 8+QbL i4 8:Nat):Int)=((QbL i1 8+QbL i2 8+QbL i3 8+QbL i4 8:Nat):Int):=Qb4 (by omega) (by omega);refine fnW Tryz.func239 ?_;(repeat' ((conv=>whnf);first|exact zi2|(refine zj0 ?_;intro hb)|(with_reducible first|refine zv s1 ?_|refine zv s2 ?_|refine zv s3 ?_|refine zv m2 ?_|refine zv m3 ?_|refine zv m4 ?_|refine zv w1 ?_|refine zv w2 ?_|refine zv w3 ?_|refine zv w4 ?_)|refine QBg ?_|((with_reducible apply Ge.mk (α:=UInt8)); · first|exact Qe3 (f:=QoD) (by kernel_rfl) i1 k1|exact Qe3 (f:=QoD) (by kernel_rfl) i2 k2|exact Qe3 (f:=QoD) (by kernel_rfl) i3 k3|exact Qe3 (f:=QoD) (by kernel_rfl) i4 k4)|refine zse ?_|refine zbb ?_ ?_))
 all_goals exact zf_
def QeU (i:Nat):Nat:=if i<1 then 0 else if i<2 then 1 else if i<4 then 2 else if i<8 then 3 else if i<16 then 4 else if i<32 then 5 else if i<64 then 6 else if i<128 then 7 else 8
theorem Qml (i:Nat) (hi:i<256):i<2^QeU i∧(i≠0→1≤QeU i∧2^(QeU i-1)≤i)∧QeU i≤8:=by
 unfold QeU
 repeat' split
 all_goals refine ⟨?_,?_,?_⟩<;>simp<;>omega
def blN (b:Nat):Nat:=if 65536≤b then (if 16777216≤b then 24+QeU (b / 16777216) else 16+QeU (b / 65536)) else if 256≤b then 8+QeU (b / 256) else QeU b
theorem QpH (b k:Nat) (h:b / 2^k<256) (h0:b / 2^k≠0):b<2^(k+QeU (b / 2^k))∧1≤k+QeU (b / 2^k)∧2^(k+QeU (b / 2^k)-1)≤b:=by
 obtain ⟨h1,h2,h3⟩:=Qml _ h;obtain ⟨h4,h5⟩:=h2 h0;have hp:0<2^k:=Nat.two_pow_pos k;refine ⟨?_,by omega,?_⟩
 ·rw [Nat.pow_add,Nat.mul_comm]
  exact (Nat.div_lt_iff_lt_mul hp).1 h1
 ·rw [Nat.add_sub_assoc h4,Nat.pow_add,Nat.mul_comm]
  exact (Nat.le_div_iff_mul_le hp).1 h5
theorem QF3 (b:Nat) (hb:b<4294967296):b<2^blN b∧(b≠0→1≤blN b∧2^(blN b-1)≤b):=by
 unfold blN;split
 ·split
  ·have:=QpH b 24 (by omega) (by omega)
   exact ⟨this.1,fun _=>this.2⟩
  ·have:=QpH b 16 (by omega) (by omega)
   exact ⟨this.1,fun _=>this.2⟩
 ·split
  ·have:=QpH b 8 (by omega) (by omega)
   exact ⟨this.1,fun _=>this.2⟩
  ·have:=Qml b (by omega)
   exact ⟨this.1,this.2.1⟩
theorem QrE (b:Nat) (hb:b<4294967296) (p:Int):Qb0 b p=decide ((blN b:Int)≤max p 0):=by
 obtain ⟨h1,h2⟩:=QF3 b hb;unfold Qb0;rw [decide_eq_decide];constructor
 ·intro h
  by_cases h0:b=0
  ·subst h0
   show (0:Int)≤_;omega
  ·obtain ⟨h3,h4⟩:=h2 h0
   have hp:0<2^(blN b-1):=Nat.two_pow_pos _
   have e:2^blN b=2*2^(blN b-1):=by
    rw [← Nat.pow_succ',Nat.succ_eq_add_one,Nat.sub_add_cancel h3]
   have d:b / 2^(blN b-1)=1:=Nat.div_eq_of_lt_le (by omega) (by omega)
   have l:blN b-1<32:=by
    have:2^(blN b-1)<2^32:=Nat.lt_of_le_of_lt h4 hb;exact (Nat.pow_lt_pow_iff_right (by omega)).1 this
   have:=h (blN b-1) l (by rw [d]);omega
 ·intro h i hi yF
  have vF:2^i≤b:=by
   rcases Nat.lt_or_ge b (2^i) with h3|h3
   ·rw [Nat.div_eq_of_lt h3] at yF
    omega
   ·exact h3
  have:i<blN b:=(Nat.pow_lt_pow_iff_right (by omega)).1 (Nat.lt_of_le_of_lt vF h1);omega
def ln8 (i:Nat):UInt8:=UInt8.ofNat (QeU i)
theorem QGX (i:Nat) (hi:i<256):(ln8 i).toNat=QeU i:=by
 have:=(Qml i hi).2.2;unfold ln8;rw [UInt8.toNat_ofNat'];exact Nat.mod_eq_of_lt (by omega)
theorem QiJ (b:Nat) (hb:b<4294967296):FN 177 [.s (.u b)] [] (· =⟨.a (.s (.i (blN b:Nat))),[],[]⟩):=by
 have s1:(b:Int) / 2^min (Int.toNat 16) IntKind.u32.bits=((b / 65536:Nat):Int):=rfl;have s2:(b:Int) / 2^min (Int.toNat 8) IntKind.u32.bits=((b / 256:Nat):Int):=rfl;have s3:((b / 65536:Nat):Int) / 2^min (Int.toNat 8) IntKind.u32.bits=((b / 65536 / 256:Nat):Int):=rfl;have e3:b / 65536 / 256=b / 16777216:=by omega
 rw [e3] at s3;unfold blN;have key:∀ i,i<256→((ln8 i).toNat:Int)=(QeU i:Nat)∧QeU i≤8:=fun i hi=>⟨by rw [QGX i hi],(Qml i hi).2.2⟩
 by_cases h1:65536≤b
 ·rw [zP h1]
  by_cases h2:16777216≤b
  ·rw [zP h2]
   have k:=key (b / 16777216) (by omega);have kk:b / 16777216<256:=by omega
   have h4:((256:Nat):Int)≤((b / 65536:Nat):Int):=by omega
   have h3:(65536:Int)≤(b:Int):=by omega
   generalize b / 16777216=i,b / 65536=j at *;have w1:IntKind.u8.wrap ((i:Nat):Int)=(i:Nat):=by rw [Qn5];omega
   have w2:IntKind.i64.wrap (((ln8 i).toNat:Nat):Int)=(QeU i:Nat):=QAH;have w3:IntKind.i64.wrap (24+(QeU i:Nat):Int)=((24+QeU i:Nat):Int):=QbP;refine fnW Tryz.func177 ?_;(repeat' ((conv=>whnf);first|exact zi2|(refine zj0 ?_;intro hb)|(with_reducible first|refine zv s1 ?_|refine zv s3 ?_|refine zv w1 ?_|refine zv w2 ?_)|refine QBg ?_|refine QFe ?_|refine zse ?_|refine zbb ?_ ?_))
   all_goals exact QBx
  ·rw [zN h2]
   have k:=key (b / 65536) (by omega);have kk:b / 65536<256:=by omega
   have h3:(65536:Int)≤(b:Int):=by omega
   clear e3 s2 s3;generalize b / 65536=i at *;have w1:IntKind.u8.wrap ((i:Nat):Int)=(i:Nat):=by rw [Qn5];omega
   have w2:IntKind.i64.wrap (((ln8 i).toNat:Nat):Int)=(QeU i:Nat):=QAH;have w3:IntKind.i64.wrap (16+(QeU i:Nat):Int)=((16+QeU i:Nat):Int):=QbP;refine fnW Tryz.func177 ?_;(repeat' ((conv=>whnf);first|exact zi2|(refine zj0 ?_;intro hb)|(with_reducible first|refine zv s1 ?_|refine zv w1 ?_|refine zv w2 ?_|refine zv w3 ?_)|refine QBg ?_|refine QFe ?_|refine zse ?_|refine zbb ?_ ?_))
   all_goals exact QBx
 ·rw [zN h1]
  by_cases h2:256≤b
  ·rw [zP h2]
   have k:=key (b / 256) (by omega);have kk:b / 256<256:=by omega
   clear e3 s1 s3;have h3:(256:Int)≤(b:Int):=by omega
   have h4:¬ (65536:Int)≤(b:Int):=by omega
   generalize b / 256=i at *;have w1:IntKind.u8.wrap ((i:Nat):Int)=(i:Nat):=by rw [Qn5];omega
   have w2:IntKind.i64.wrap (((ln8 i).toNat:Nat):Int)=(QeU i:Nat):=QAH;have w3:IntKind.i64.wrap (8+(QeU i:Nat):Int)=((8+QeU i:Nat):Int):=QbP;refine fnW Tryz.func177 ?_;(repeat' ((conv=>whnf);first|exact zi2|(refine zj0 ?_;intro hb)|(with_reducible first|refine zv s2 ?_|refine zv w1 ?_|refine zv w2 ?_)|refine QBg ?_|refine QFe ?_|refine zse ?_|refine zbb ?_ ?_))
   all_goals exact QBx
  ·rw [zN h2]
   have k:=key b (by omega);have kk:b<256:=by omega
   clear e3 s1 s2 s3;have w1:IntKind.u8.wrap ((b:Nat):Int)=(b:Nat):=by rw [Qn5];omega
   have w2:IntKind.i64.wrap (((ln8 b).toNat:Nat):Int)=(QeU b:Nat):=QAH;have w3:IntKind.i64.wrap (0+(QeU b:Nat):Int)=((QeU b:Nat):Int):=QbP;refine fnW Tryz.func177 ?_;(repeat' ((conv=>whnf);first|exact zi2|(refine zj0 ?_;intro hb)|(with_reducible first|refine zv w1 ?_|refine zv w2 ?_|refine zv w3 ?_)|refine QBg ?_|((with_reducible apply Ge.mk (α:=UInt8)); · exact Qe3 (f:=ln8) (by kernel_rfl) b kk)|refine zse ?_|refine zbb ?_ ?_))
   all_goals exact QBx
theorem Qfn (bt bg:Nat) (h2:bg<4294967296):FN 202 [.agg [.u bt,.u bg]] [] (· =⟨.a (.s (.i (QbL bg 32:Nat))),[],[]⟩):=by
 have hg:=Qmt bg h2;generalize QbL bg 32=P at *;refine fnW Tryz.func202 ?_;exact QCO
theorem QkB (bt bg:Nat) (h1:bt<4294967296) (h2:bg<4294967296):FN 140 [.agg [.u bt,.u bg]] [] (· =⟨.a (.s (.bool (Qc3 bt bg))),[],[]⟩):=by
 have hg:=Qfn bt bg h2;have vF:=Qb6 bg 32;unfold Qc3;generalize QbL bg 32=P at *;refine fnW Tryz.func140 ?_;exact QCO
theorem Qhg (bt bg:Nat) (h2:bg<4294967296) (p:Int):FN 114 [.agg [.u bt,.u bg],.s (.i p)] [] (· =⟨.a (.s (.bool (Qb0 bg p))),[],[]⟩):=by
 have hg:=QiJ bg h2;rw [QrE bg h2];have hm:QAc p [(0:Int)]=max p 0:=by show QGu _ _=_;unfold QGu;split<;>omega
 generalize max p 0=q,blN bg=L at *;refine fnW Tryz.func114 ?_;(repeat' ((conv=>whnf);first|exact zi2|(refine zj0 ?_;intro hb)|(with_reducible refine zv hm ?_)|(refine zpu hg ?_)|refine zse ?_|refine zbb ?_ ?_))
 all_goals exact zf_
def lnL (l:List Bool):Nat→Nat
 | 0=>0
 | j+1=>if l.getD j false=true then lnL l j ||| 2^j else lnL l j
theorem QvO (l:List Bool):∀ j,j<32→lnL l j<4294967296
 | 0,_=>by show (0:Nat)<4294967296;decide
 | j+1,h=>by
  have:=QvO l j (by omega);unfold lnL;split
  ·exact Nat.or_lt_two_pow (n:=32) this (Nat.pow_lt_pow_right (by decide) (by omega))
  ·exact this
theorem Qw1 (j:Nat) (hj:j<32):(1:Int)*2^min (((j:Nat):Int)).toNat IntKind.u32.bits%4294967296=((2^j:Nat):Int):=by
 have hp:2^j<2^32:=Nat.pow_lt_pow_right (by omega) hj;have e:(2:Int)^j=((2^j:Nat):Int):=by rw [Int.natCast_pow];rfl
 rw [show min (((j:Nat):Int)).toNat IntKind.u32.bits=j by show min j 32=j;omega,Int.one_mul,e];clear e;generalize 2^j=p at *;omega
def QzJ (j L:Nat) (b1 b2 b3 b4 b5:Bool) (XX:List SV):St :=
 ⟨[(4,.a (.s (.u L))),(23,.a (.agg [.bool b1,.bool b2,.bool b3,.bool b4,.bool b5])),(24,.a (.s (.i j)))],[(0,some ⟨false,1,XX⟩)],[0]⟩
theorem QdC (M:Mc) (hM:M.ok):FN 81 [.agg (M.C 0)] [⟨false,1,wsv M.m⟩] (· =⟨.a (.s (.u (Qft M:Nat))),[],[]⟩):=by
 have p1:=Qkn M.ta M.td M.tf;have p2:=Qkg M.ks;have p3:=QgV M.d;have p4:=Qlq M.n;have p5:=QkB M.bt M.bg hM.dv.2.1 hM.dv.2.2.1;have gL:=Qaa M.m;unfold Qft;generalize Qcs M.ks=b2,QbU M.d.st=b3,Qc3 M.bt M.bg=b5 at *;obtain ⟨hx,hc,hY,gA,_,gB,_,gE,gD,_⟩:=hM;obtain ⟨_,_,_,m,ks,ta,td,tf,d,n,bt,bg⟩:=M;dsimp only at *;obtain ⟨_,_,_,_,_,_,_,_,_,_,_,_,_,_,_,_,rfl⟩:=Qav hx;obtain ⟨_,_,_,_,_,_,_,_,rfl⟩:=QaM hc;cases d;obtain ⟨_,_,_,_,n4⟩:=n;dsimp only [Mc.C,Mc.D,Dk.C,Nk.C,Dk.ok,Nk.ok] at *;generalize m.length=nn,wsv m=XX at *;clear hY gA gE gD gB;refine fnW Tryz.func81 ?_;(repeat' ((conv=>whnf);first|exact zi2|(refine zj0 ?_;intro hb)|(refine zpu p1 ?_)|(refine zpu p2 ?_)|(refine zpu p3 ?_)|(refine zpu p4 ?_)|(refine zpu p5 ?_)|refine zse ?_|refine zbb ?_ ?_));all_goals (conv=>whnf)
 have key:lnL [tf,b2,b3,n4,b5] 5=(((lnN tf 0 ||| lnN b2 1) ||| lnN b3 2) ||| lnN n4 3) ||| lnN b5 4:=by
  unfold lnN;cases tf<;>cases b2<;>cases b3<;>cases n4<;>cases b5<;>rfl
 rw [← key];clear p1 p2 p3 p4 p5 key;refine Lp.inv (fun mm σ=>∃ j:Nat,mm+j=5∧σ=QzJ j (lnL [tf,b2,b3,n4,b5] j) tf b2 b3 n4 b5 XX) ?_ ?_
 ·refine ⟨5,QzJ 0 0 tf b2 b3 n4 b5 XX,?_,0,by omega,rfl⟩
  unfold QzJ
  (exact zwL [(0,some 0)])
 rintro mm σ ⟨j,yP,rfl⟩;unfold QzJ
 by_cases hj:j<5
 ·have vF:=QvO [tf,b2,b3,n4,b5] j (by omega)
  have q2:IntKind.i64.wrap ((j:Int)+1)=((j+1:Nat):Int):=QbP;have hp:2^j<4294967296:=Nat.lt_of_le_of_lt (Nat.pow_le_pow_right (by decide) (show j≤5 by omega)) (by decide);have ho:=(QkU _ _ vF hp).1;have hs:(1:Int)*2^min (((j:Nat):Int)).toNat IntKind.u32.bits%4294967296=((2^j:Nat):Int):=Qw1 j (by omega);obtain ⟨bj,hbj⟩:∃ b,[tf,b2,b3,n4,b5].getD j false=b:=⟨_,rfl⟩
  have hg:QhX ty4 [SV.bool tf,.bool b2,.bool b3,.bool n4,.bool b5] (((j:Nat):Int).toNat * ty4.size)=some (.s (.bool bj)):=by
   rw [← hbj];have e:j=0∨j=1∨j=2∨j=3∨j=4:=by omega
   rcases e with rfl|rfl|rfl|rfl|rfl<;>rfl
  have hL:lnL [tf,b2,b3,n4,b5] (j+1)=if bj=true then lnL [tf,b2,b3,n4,b5] j ||| 2^j else lnL [tf,b2,b3,n4,b5] j:=by rw [← hbj];rfl
  generalize lnL [tf,b2,b3,n4,b5] j=L at *;have vP:∀ L2,L2=(if bj=true then L ||| 2^j else L)→QzJ (j+1) L2 tf b2 b3 n4 b5 XX=QzJ (j+1) (lnL [tf,b2,b3,n4,b5] (j+1)) tf b2 b3 n4 b5 XX:=fun L2 h=>by rw [h,hL]
  generalize L ||| 2^j=Lj at *;clear hL hbj;cases bj
  all_goals
   (repeat' ((conv=>whnf);first|exact zi2|(refine zj0 ?_;intro hb)|((with_reducible apply Vl.mk (α:=Int)); · first|with_reducible exact q2|with_reducible exact ho|exact hs)|((with_reducible apply Ge.mk (α:=AV)); · exact hg)|refine zse ?_|refine zbb ?_ ?_));all_goals (conv=>whnf)
   all_goals first
    | (exfalso;omega)
    | (exfalso;simp at hb;omega)
    | (exfalso;simp at hb;done)
    | (refine ⟨mm-1,_,by omega,?_,j+1,by omega,vP _ rfl⟩;unfold QzJ;(exact zwL [(0,some 0)]))
 ·obtain rfl:j=5:=by omega
  generalize lnL [tf,b2,b3,n4,b5] 5=P at *;exact QKh
theorem Qgs (M:Mc) (hM:M.ok):FN 132 [.agg (M.C 0)] [⟨false,1,wsv M.m⟩] (· =⟨.a (.s (.u (Qiz M:Nat))),[],[]⟩):=by
 have hl:=QdC M hM;have ha:=QcI (Qft M) (M.c.getD 7 0) (Qe7 M) (Qab hM.cr 7);have gL:=Qaa M.m;unfold Qiz;obtain ⟨E,hE⟩:∃ E,Qft M &&& M.c.getD 7 0=E:=⟨_,rfl⟩;rw [hE] at ha ⊢;clear hE;generalize Qft M=L at *;obtain ⟨hx,hc,hY,gA,_,gB,_,gE,gD,_⟩:=hM;obtain ⟨_,_,c,m,_,_,_,_,d,n⟩:=M;dsimp only at *;obtain ⟨_,_,_,_,_,_,_,_,_,_,_,_,_,_,_,_,rfl⟩:=Qav hx;obtain ⟨_,_,_,_,_,_,_,c7,rfl⟩:=QaM hc;cases d;cases n;dsimp only [Mc.C,Mc.D,Dk.C,Nk.C,Dk.ok,Nk.ok] at *;generalize m.length=nn,wsv m=XX at *;change bits .and .u32 (L:Int) (c7:Int)=(E:Int) at ha;clear hY gA gE gD gB;refine fnW Tryz.func132 ?_;exact QDf
theorem Qmm (M:Mc) (hM:M.ok):FN 79 [.agg (M.C 0)] [⟨false,1,wsv M.m⟩] (· =⟨.a (.s (.bool (QkV M))),[],[]⟩):=by
 have hl:=Qgs M hM;have gL:=Qaa M.m;unfold QkV;generalize Qiz M=E at *;obtain ⟨B,hB⟩:∃ B,(M.wt&&decide (E=0))=B:=⟨_,rfl⟩;rw [hB];obtain ⟨hx,hc,hY,gA,_,gB,_,gE,gD,_⟩:=hM;obtain ⟨_,_,_,m,_,_,_,_,d,n,_,_,_,wt⟩:=M;dsimp only at *;obtain ⟨_,_,_,_,_,_,_,_,_,_,_,_,_,_,_,_,rfl⟩:=Qav hx;obtain ⟨_,_,_,_,_,_,_,_,rfl⟩:=QaM hc;cases d;cases n;dsimp only [Mc.C,Mc.D,Dk.C,Nk.C,Dk.ok,Nk.ok] at *;generalize m.length=nn,wsv m=XX at *;clear hY gA gE gD gB;cases wt
 all_goals
  refine fnW Tryz.func79 ?_;(repeat' ((conv=>whnf);first|exact zi2|(refine zj0 ?_;intro hb)|(refine QaD hl ?_)|refine zse ?_|refine zbb ?_ ?_));all_goals (conv=>whnf)
  all_goals first
   | (refine QcP ?_ ?_;(focus (exact Qb8));rw [← hB,Bool.eq_iff_iff];simp;done)
   | (refine QcP ?_ ?_;(focus (exact Qb8));rw [← hB,Bool.eq_iff_iff];simp;omega)
   | (exfalso;simp at hb;done)
def QA9 (M:Mc):Bool:=Qc4 M.ks&&Qd0 M.ta M.td M.tf&&QbO M.d (mpg M.m.length:Nat)&&Qb7 M.n (mpg M.m.length:Nat)&&Qb0 M.bg (mpg M.m.length:Nat)
theorem QmY (M:Mc) (hM:M.ok):FN 58 [.agg (M.C 0)] [⟨false,1,wsv M.m⟩] (· =⟨.a (.s (.bool (QA9 M))),[],[]⟩):=by
 have hp:=QbI M.m _ (by have:=hM.ml;omega:M.m.length<4294967296);have q1:=Qm8 M.ks;have q2:=QnC M.ta M.td M.tf;have q3:=QmP M.d hM.dk (mpg M.m.length:Nat);have q4:=Qnb M.n hM.nk (mpg M.m.length:Nat);have q5:=Qhg M.bt M.bg hM.dv.2.2.1 (mpg M.m.length:Nat);have gL:=Qaa M.m;obtain ⟨B,hB⟩:∃ B,QA9 M=B:=⟨_,rfl⟩;rw [hB];unfold QA9 at hB;generalize Qc4 M.ks=b1,Qd0 M.ta M.td M.tf=b2,QbO M.d (mpg M.m.length:Nat)=b3,Qb7 M.n (mpg M.m.length:Nat)=b4,Qb0 M.bg (mpg M.m.length:Nat)=b5 at *;obtain ⟨hx,hc,hY,gA,_,gB,_,gE,gD,gF⟩:=hM;obtain ⟨_,_,_,m,ks,ta,td,tf,d,n,bt,bg⟩:=M;dsimp only at *;obtain ⟨_,_,_,_,_,_,_,_,_,_,_,_,_,_,_,_,rfl⟩:=Qav hx;obtain ⟨_,_,_,_,_,_,_,_,rfl⟩:=QaM hc;cases d;cases n;dsimp only [Mc.C,Mc.D,Dk.C,Nk.C,Dk.ok,Nk.ok] at *;generalize mpg m.length=P at *;generalize m.length=nn,wsv m=XX at *;clear hY gA gE gD gB gF;refine fnW Tryz.func58 ?_;(repeat' ((conv=>whnf);first|exact zi2|(refine zj0 ?_;intro hb)|(refine QaD hp ?_)|(refine zpu q1 ?_)|(refine zpu q2 ?_)|(refine zpu q3 ?_)|(refine zpu q4 ?_)|(refine zpu q5 ?_)|refine zse ?_|refine zbb ?_ ?_));all_goals (conv=>whnf)
 all_goals first
  | (refine QcP ?_ ?_;(focus (exact Qb8));rw [← hB];symm;first|(rw [Bool.eq_iff_iff];simp;done)|(rw [Bool.eq_iff_iff];simp_all;done)|(rw [Bool.eq_iff_iff];simp;grind))
theorem Qpc (M:Mc) (hM:M.ok):FN 30 [.agg (M.C 0)] [⟨false,1,wsv M.m⟩] (· =⟨.a (.s (.bool (QbQ M))),[],[]⟩):=by
 have hp:=QbI M.m _ (by have:=hM.ml;omega:M.m.length<4294967296);have qd:=QmY M hM;have gL:=Qaa M.m;have zS:=QaU M.m.length;obtain ⟨B,hB⟩:∃ B,QbQ M=B:=⟨_,rfl⟩;rw [hB];obtain ⟨D,hD⟩:∃ D,QA9 M=D:=⟨_,rfl⟩;rw [hD] at qd;unfold QbQ at hB;unfold QA9 at hD;generalize Qc4 M.ks=b1,Qd0 M.ta M.td M.tf=b2,QbO M.d (mpg M.m.length:Nat)=b3,Qb7 M.n (mpg M.m.length:Nat)=b4,Qb0 M.bg (mpg M.m.length:Nat)=b5 at *;have hD2:(b1=true∧b2=true∧b3=true∧b4=true∧b5=true)↔D=true:=by rw [← hD];simp [and_assoc]
 clear hD;have h1:=Qab hM.cr 1;obtain ⟨hx,hc,hY,gA,_,gB,_,gE,gD,gF⟩:=hM;obtain ⟨_,_,_,m,ks,ta,td,tf,d,n,_,bg⟩:=M;dsimp only at *;obtain ⟨_,_,_,_,_,_,_,_,_,_,_,_,_,_,_,_,rfl⟩:=Qav hx;obtain ⟨_,c1,_,_,_,_,_,_,rfl⟩:=QaM hc;cases d;cases n;dsimp only [Mc.C,Mc.D,Dk.C,Nk.C,Dk.ok,Nk.ok] at *;generalize mpg m.length=P at *;generalize m.length=nn,wsv m=XX at *;simp only [List.getD_cons_zero,List.getD_cons_succ] at hB h1;have m1:Int.tmod (c1:Int) 4=((c1%4:Nat):Int):=QuW;have qQ:=gF.2.2.2.1;clear hY gA gE gD gB gF;generalize c1%4=c14 at *;refine fnW Tryz.func30 ?_;(repeat' ((conv=>whnf);first|exact zi2|(refine zj0 ?_;intro hb)|(with_reducible refine zv m1 ?_)|(refine QaD hp ?_)|(refine QaD qd ?_)|refine zse ?_|refine zbb ?_ ?_));all_goals (conv=>whnf)
 all_goals first
  | (refine QcP ?_ ?_;(focus (exact Qb8));rw [← hB];symm;first|exact decide_eq_false (by omega)|(rw [Bool.eq_iff_iff];simp;done)|(rw [Bool.eq_iff_iff];simp;omega)|(rw [Bool.eq_iff_iff];simp;grind))
end Go.Proofs.YtflelebfmdggkaaGreat
