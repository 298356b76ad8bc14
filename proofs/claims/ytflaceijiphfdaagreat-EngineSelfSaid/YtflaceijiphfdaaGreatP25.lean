import Derived.Test.YtflaceijiphfdaaGreatP16
set_option linter.unusedSimpArgs false
set_option linter.unusedVariables false
set_option maxHeartbeats 0
set_option maxRecDepth 100000
namespace Go.Proofs.YtflaceijiphfdaaGreat
open Go Go.RowKit
theorem QmN (k:ByteArray):FN 105 [.agg [.str k]] [] (. =⟨.a (.s (.bool (QcZ k))),[],[]⟩):=by
 unfold QcZ;refine fnW Tryz.func105 ?_;exact Qlv
theorem QmY (a:Bool) (d:Nat) (f:Bool):FN 106 [.agg [.bool a,.u d,.bool f]] [] (. =⟨.a (.s (.bool (QdV a d f))),[],[]⟩):=by
 cases a<;>cases f
 all_goals
  refine fnW Tryz.func106 ?_;exact QD1
theorem QmT (n:Nk) (hn:n.ok) (p:Int):FN 108 [.agg n.C,.s (.i p)] [] (. =⟨.a (.s (.bool (Qb4 n p))),[],[]⟩):=by
 cases hn;obtain ⟨fr,ln,po,bu,re,go_⟩:=n;dsimp only at *;dsimp only [Nk.C];generalize hB:Qb4 ⟨fr,ln,po,bu,re,go_⟩ p=B;unfold Qb4 at hB;dsimp only at hB;cases po<;>cases re
 all_goals
  refine fnW Tryz.func108 ?_;exact QD2
theorem Qky (a:Bool) (d:Nat) (f:Bool):FN 131 [.agg [.bool a,.u d,.bool f]] [] (. =⟨.a (.s (.bool f)),[],[]⟩):=by
 refine fnW Tryz.func131 ?_;exact Qlv
theorem Qgc (d:Dk):FN 133 [.agg d.C] [] (. =⟨.a (.s (.bool (QbO d.st))),[],[]⟩):=by
 obtain ⟨_,_,_,st⟩:=d;dsimp only [Dk.C];obtain ⟨B,hB⟩:∃ B,QbO st=B:=⟨_,rfl⟩;rw [hB];unfold QbO at hB;refine fnW Tryz.func133 ?_;exact QDj
theorem Qkp (n:Nk):FN 134 [.agg n.C] [] (. =⟨.a (.s (.bool n.re)),[],[]⟩):=by
 obtain ⟨_,_,_,_,re⟩:=n;dsimp only [Nk.C];refine fnW Tryz.func134 ?_;exact Qlv
theorem QoR (a:Bool) (d:Nat) (f:Bool):FN 208 [.agg [.bool a,.u d,.bool f]] [] (. =⟨.a (.s (.u (QnF f:Nat))),[],[]⟩):=by
 cases f
 all_goals
  refine fnW Tryz.func208 ?_;exact Qj6
theorem QoA (d:Dk) (p:Int):FN 209 [.agg d.C,.s (.i p)] [] (. =⟨.a (.s (.u (Qg0 d p:Nat))),[],[]⟩):=by
 have qs:=Qau d.st;obtain ⟨B,hB⟩:∃ B,Qg0 d p=B:=⟨_,rfl⟩;rw [hB];unfold Qg0 at hB;obtain ⟨_,_,_,st⟩:=d;dsimp only [Dk.C] at *;generalize w32 st=ws at *
 by_cases h4:p=4
 .rw [zP h4] at hB
  subst h4 hB;refine fnW Tryz.func209 ?_;exact QeP
 rw [zN h4] at hB
 by_cases h5:p=5
 .rw [zP h5] at hB
  subst h5 hB;refine fnW Tryz.func209 ?_;exact QeP
 rw [zN h5] at hB
 by_cases h6:p=6
 .rw [zP h6] at hB
  subst h6 hB;refine fnW Tryz.func209 ?_;exact QDW
 rw [zN h6] at hB;subst hB;refine fnW Tryz.func209 ?_;exact QnR
theorem QoG (n:Nk) (p:Int):FN 210 [.agg n.C,.s (.i p)] [] (. =⟨.a (.s (.u (Qg2 n p:Nat))),[],[]⟩):=by
 obtain ⟨B,hB⟩:∃ B,Qg2 n p=B:=⟨_,rfl⟩;rw [hB];unfold Qg2 at hB;obtain ⟨_,_,po,_,re⟩:=n;dsimp only [Nk.C] at *
 by_cases h4:p=7
 .rw [zP h4] at hB
  subst h4 hB;refine fnW Tryz.func210 ?_;exact QeP
 rw [zN h4] at hB
 by_cases h5:p=8
 .rw [zP h5] at hB
  subst h5 hB;refine fnW Tryz.func210 ?_;exact QeP
 rw [zN h5] at hB
 by_cases h6:p=9
 .rw [zP h6] at hB
  subst h6 hB;cases po<;>cases re
  all_goals
   refine fnW Tryz.func210 ?_;exact QeP
 rw [zN h6] at hB;subst hB;refine fnW Tryz.func210 ?_;exact QnR
theorem Qwg (a:Bool) (d0:Nat) (f:Bool) (d:Nat):FN 212 [.agg [.bool a,.u d0,.bool f],.s (.u d)] [] (. =⟨.a (.agg (QzU d)),[],[]⟩):=by
 unfold QzU
 by_cases h:(d:Int)=0
 .rw [zP h]
  obtain rfl:d=0:=by omega
  refine fnW Tryz.func212 ?_;exact Qj6
 .rw [zN h]
  have hv:((d:Int) !=0)=true:=by simp;omega
  refine fnW Tryz.func212 ?_;(repeat' ((conv=>whnf);first|exact zi2|refine zj0 fun hb=>?_|((with_reducible apply Vl.mk (α:=Bool)); . with_reducible exact hv)|refine zse ?_|refine zbb ?_ ?_))
  all_goals exact Qj1
theorem Qib (k:ByteArray):noD k=decide (k.size=0):=by
 unfold noD;rw [zbi,beq_iff_eq,zde,ByteArray.toList_eq,ByteArray.toList_eq];show k.data.toList= []↔k.data.size=0;rw [<- Array.length_toList];exact List.length_eq_zero_iff.symm
theorem Qkn (k:ByteArray):FN 132 [.agg [.str k]] [] (. =⟨.a (.s (.bool (Qcj k))),[],[]⟩):=by
 have qE:(!(k.toList==(⟨#[]⟩:ByteArray).toList))=Qcj k:=by
  show (!noD k)=_;unfold Qcj;rw [Qib,<- decide_not];exact decide_eq_decide.2 (by omega)
 generalize Qcj k=B at *;refine fnW Tryz.func132 ?_;(repeat' ((conv=>whnf);first|exact zi2|refine zj0 fun hb=>?_|refine QC0 ?_|refine zse ?_|refine zbb ?_ ?_))
 all_goals exact zf_
def Qi2 (d:Dk):Bool:=decide (d.cmd=1/\noD d.od=true\/d.cmd=2/\d.od.size=128)
theorem QmO (d:Dk):FN 169 [.agg d.C] [] (. =⟨.a (.s (.bool (Qi2 d))),[],[]⟩):=by
 obtain ⟨bs,bl,fr,st,cmd,ob,of_,od⟩:=d;dsimp only [Dk.C];obtain ⟨B,hB⟩:∃ B,Qi2 ⟨bs,bl,fr,st,cmd,ob,of_,od⟩=B:=⟨_,rfl⟩;rw [hB];unfold Qi2 at hB;dsimp only at hB;have qE:(od.toList==(⟨#[]⟩:ByteArray).toList)=noD od:=rfl;generalize noD od=nd at *;refine fnW Tryz.func169 ?_;exact QDg
theorem QmP (d:Dk) (hd:d.ok) (p:Int):FN 107 [.agg d.C,.s (.i p)] [] (. =⟨.a (.s (.bool (QbM d p))),[],[]⟩):=by
 have qc:=QmO d;cases hd;obtain ⟨B,hB⟩:∃ B,QbM d p=B:=⟨_,rfl⟩;rw [hB];obtain ⟨Q,hQ⟩:∃ Q,Qi2 d=Q:=⟨_,rfl⟩;rw [hQ] at qc;unfold Qi2 at hQ;unfold QbM at hB;obtain ⟨_,_,_,_,_,_,_,od⟩:=d;dsimp only [Dk.C] at *;have qE:(od.toList==(⟨#[]⟩:ByteArray).toList)=noD od:=rfl;generalize noD od=nd at *;refine fnW Tryz.func107 ?_;(conv=>whnf);(repeat' ((first|exact zi2|refine zj0 fun hb=>?_|refine QC0 ?_|(refine zpu qc ?_)|refine zse ?_|refine zbb ?_ ?_)<;>conv=>whnf))
 all_goals first|(refine QcD ?_ ?_;(focus (exact zf_));rw [<- hB];first|(symm;exact zdf (by omega))|(rw [zbi];simp;grind))
theorem QdG (b k:Nat):∀ j,QbH b (k+j)=QbH b k+QbH (b / 2^k) j
 | 0=>rfl
 | j+1=>by
  show QbH b (k+j)+b / 2^(k+j)%2=QbH b k+(QbH (b / 2^k) j+b / 2^k / 2^j%2);rw [QdG b k j,Nat.div_div_eq_div_mul,<- Nat.pow_add];omega
theorem Qig (b:Nat):QbH (b%256) 8=QbH b 8:=by
 simp only [QbH,Nat.pow_succ,Nat.pow_zero,Nat.one_mul,Nat.reduceMul];omega
def QqR (i:Nat):UInt8:=UInt8.ofNat (QbH i 8)
theorem Qe8 {a:ByteArray} {f:Nat->UInt8} (h:((List.range 256).all fun i=>a[i]?==some (f i))=true) (i:Nat) (hi:i<256):a[i]?=some (f i):=eq_of_beq (List.all_eq_true.1 h i (List.mem_range.2 hi))
theorem Qju (i:Nat):(QqR i).toNat=QbH i 8:=by
 have:=Qb1 i 8;unfold QqR;rw [UInt8.toNat_ofNat'];exact Nat.mod_eq_of_lt (by omega)
theorem QxW (b:Nat):QbH b 32=QbH (b / 16777216) 8+QbH (b / 65536%256) 8+QbH (b / 256%256) 8+QbH (b%256) 8:=by
 rw [Qig,Qig,Qig];have e1:=QdG b 8 24;have e2:=QdG b 16 16;have e3:=QdG b 24 8;have e4:=QdG b 8 8;have e5:=QdG b 16 8;simp only [Nat.reduceAdd,Nat.reducePow] at e1 e2 e3 e4 e5;omega
theorem QlK (b:Nat) (hb:ZU b):FN 232 [.s (.u b)] [] (. =⟨.a (.s (.i (QbH b 32:Nat))),[],[]⟩):=by
 have g1:=Qju (b / 16777216);have g2:=Qju (b / 65536%256);have g3:=Qju (b / 256%256);have g4:=Qju (b%256);have l1:=Qb1 (b / 16777216) 8;have l2:=Qb1 (b / 65536%256) 8;have l3:=Qb1 (b / 256%256) 8;have l4:=Qb1 (b%256) 8;have s1:(b:Int) / 2^min (Int.toNat 24) IntKind.u32.bits=((b / 16777216:Nat):Int):=rfl;have s2:(b:Int) / 2^min (Int.toNat 16) IntKind.u32.bits=((b / 65536:Nat):Int):=rfl;have s3:(b:Int) / 2^min (Int.toNat 8) IntKind.u32.bits=((b / 256:Nat):Int):=rfl;have m2:bits .and .u32 ((b / 65536:Nat):Int) 255=((b / 65536%256:Nat):Int):=QaS _ 8 (by omega) (by omega);have m3:bits .and .u32 ((b / 256:Nat):Int) 255=((b / 256%256:Nat):Int):=QaS _ 8 (by omega) (by omega);have m4:bits .and .u32 (b:Int) 255=((b%256:Nat):Int):=QaS _ 8 (by omega) (by omega);have k1:b / 16777216<256:=by omega
 have k2:b / 65536%256<256:=by omega
 have k3:b / 256%256<256:=by omega
 have k4:b%256<256:=by omega
 rw [QxW];generalize b / 16777216=i1,b / 65536%256=i2,b / 256%256=i3,b%256=i4 at *;generalize b / 65536=j2,b / 256=j3 at *;have c1:∀ i,((QqR i).toNat:Int)=((QbH i 8:Nat):Int):=fun i=>by rw [Qju]
 have w1:IntKind.u8.wrap (((QqR i1).toNat:Int)+((QqR i2).toNat:Int))=((QbH i1 8+QbH i2 8:Nat):Int):=by rw [c1,c1,Qn3];omega
 have w2:IntKind.u8.wrap (((QbH i1 8+QbH i2 8:Nat):Int)+((QqR i3).toNat:Int))=((QbH i1 8+QbH i2 8+QbH i3 8:Nat):Int):=by rw [c1,Qn3];omega
 have w3:IntKind.u8.wrap (((QbH i1 8+QbH i2 8+QbH i3 8:Nat):Int)+((QqR i4).toNat:Int))=((QbH i1 8+QbH i2 8+QbH i3 8+QbH i4 8:Nat):Int):=by rw [c1,Qn3];omega
 have w4:IntKind.i64.wrap ((QbH i1 8+QbH i2 8+QbH i3 8+QbH i4 8:Nat):Int)=((QbH i1 8+QbH i2 8+QbH i3 8+QbH i4 8:Nat):Int):=Qb3 (by omega) (by omega);refine fnW Tryz.func232 ?_;(repeat' ((conv=>whnf);first|exact zi2|refine zj0 fun hb=>?_|(with_reducible first|refine zv s1 ?_|refine zv s2 ?_|refine zv s3 ?_|refine zv m2 ?_|refine zv m3 ?_|refine zv m4 ?_|refine zv w1 ?_|refine zv w2 ?_|refine zv w3 ?_|refine zv w4 ?_)|refine Qn4 ?_|((with_reducible apply Ge.mk (α:=UInt8)); . first|exact Qe8 (f:=QqR) (by kernel_rfl) i1 k1|exact Qe8 (f:=QqR) (by kernel_rfl) i2 k2|exact Qe8 (f:=QqR) (by kernel_rfl) i3 k3|exact Qe8 (f:=QqR) (by kernel_rfl) i4 k4)|refine zse ?_|refine zbb ?_ ?_))
 all_goals exact zf_
def QeQ (i:Nat):Nat:=if i<1 then 0 else if i<2 then 1 else if i<4 then 2 else if i<8 then 3 else if i<16 then 4 else if i<32 then 5 else if i<64 then 6 else if i<128 then 7 else 8
theorem QlD (i:Nat) (hi:i<256):i<2^QeQ i/\(i≠0->1<=QeQ i/\2^(QeQ i-1)<=i)/\QeQ i<=8:=by
 unfold QeQ
 repeat' split
 all_goals refine ⟨?_,?_,?_⟩<;>simp<;>omega
def blN (b:Nat):Nat:=if 65536<=b then (if 16777216<=b then 24+QeQ (b / 16777216) else 16+QeQ (b / 65536)) else if 256<=b then 8+QeQ (b / 256) else QeQ b
theorem Qos (b k:Nat) (h:b / 2^k<256) (h0:b / 2^k≠0):b<2^(k+QeQ (b / 2^k))/\1<=k+QeQ (b / 2^k)/\2^(k+QeQ (b / 2^k)-1)<=b:=by
 obtain ⟨h1,h2,_⟩:=QlD _ h;obtain ⟨h4,h5⟩:=h2 h0;have hp:0<2^k:=Nat.two_pow_pos k;refine ⟨?_,by omega,?_⟩
 .rw [Nat.pow_add,Nat.mul_comm]
  exact (Nat.div_lt_iff_lt_mul hp).1 h1
 .rw [Nat.add_sub_assoc h4,Nat.pow_add,Nat.mul_comm]
  exact (Nat.le_div_iff_mul_le hp).1 h5
theorem QE6 (b:Nat) (hb:ZU b):b<2^blN b/\(b≠0->1<=blN b/\2^(blN b-1)<=b):=by
 unfold blN;split
 .split
  .have:=Qos b 24 (by omega) (by omega)
   exact ⟨this.1,fun _=>this.2⟩
  .have:=Qos b 16 (by omega) (by omega)
   exact ⟨this.1,fun _=>this.2⟩
 .split
  .have:=Qos b 8 (by omega) (by omega)
   exact ⟨this.1,fun _=>this.2⟩
  .have:=QlD b (by omega)
   exact ⟨this.1,this.2.1⟩
theorem Qom (b:Nat) (hb:ZU b) (p:Int):QbW b p=decide ((blN b:Int)<=max p 0):=by
 obtain ⟨h1,h2⟩:=QE6 b hb;unfold QbW;rw [decide_eq_decide];constructor
 .intro h
  by_cases h0:b=0
  .subst h0
   show (0:Int)<=_;omega
  .obtain ⟨h3,h4⟩:=h2 h0
   have hp:0<2^(blN b-1):=Nat.two_pow_pos _
   have e:2^blN b=2*2^(blN b-1):=by
    rw [<- Nat.pow_succ',Nat.succ_eq_add_one,Nat.sub_add_cancel h3]
   have d:b / 2^(blN b-1)=1:=Nat.div_eq_of_lt_le (by omega) (by omega)
   have l:blN b-1<32:=by
    have:2^(blN b-1)<2^32:=Nat.lt_of_le_of_lt h4 hb;exact (Nat.pow_lt_pow_iff_right (by omega)).1 this
   have:=h (blN b-1) l (by rw [d]);omega
 .intro h i hi wQ
  have jX:2^i<=b:=by
   rcases Nat.lt_or_ge b (2^i) with h3|h3
   .rw [Nat.div_eq_of_lt h3] at wQ
    omega
   .exact h3
  have:i<blN b:=(Nat.pow_lt_pow_iff_right (by omega)).1 (Nat.lt_of_le_of_lt jX h1);omega
def ln8 (i:Nat):UInt8:=UInt8.ofNat (QeQ i)
theorem QFz (i:Nat) (hi:i<256):(ln8 i).toNat=QeQ i:=by
 have:=(QlD i hi).2.2;unfold ln8;rw [UInt8.toNat_ofNat'];exact Nat.mod_eq_of_lt (by omega)
theorem QiT (b:Nat) (hb:ZU b):FN 170 [.s (.u b)] [] (. =⟨.a (.s (.i (blN b:Nat))),[],[]⟩):=by
 have s1:(b:Int) / 2^min (Int.toNat 16) IntKind.u32.bits=((b / 65536:Nat):Int):=rfl;have s2:(b:Int) / 2^min (Int.toNat 8) IntKind.u32.bits=((b / 256:Nat):Int):=rfl;have s3:((b / 65536:Nat):Int) / 2^min (Int.toNat 8) IntKind.u32.bits=((b / 65536 / 256:Nat):Int):=rfl;have e3:b / 65536 / 256=b / 16777216:=by omega
 rw [e3] at s3;unfold blN;have key:∀ i,i<256->((ln8 i).toNat:Int)=(QeQ i:Nat)/\QeQ i<=8:=fun i hi=>⟨by rw [QFz i hi],(QlD i hi).2.2⟩
 by_cases h1:65536<=b
 .rw [zP h1]
  by_cases h2:16777216<=b
  .rw [zP h2]
   have k:=key (b / 16777216) (by omega);have kk:b / 16777216<256:=by omega
   have h4:((256:Nat):Int)<=((b / 65536:Nat):Int):=by omega
   have h3:(65536:Int)<=(b:Int):=by omega
   generalize b / 16777216=i,b / 65536=j at *;have w1:IntKind.u8.wrap ((i:Nat):Int)=(i:Nat):=by rw [Qn3];omega
   have w2:IntKind.i64.wrap (((ln8 i).toNat:Nat):Int)=(QeQ i:Nat):=QuM;have w3:IntKind.i64.wrap (24+(QeQ i:Nat):Int)=((24+QeQ i:Nat):Int):=QbF;refine fnW Tryz.func170 ?_;(repeat' ((conv=>whnf);first|exact zi2|refine zj0 fun hb=>?_|(with_reducible first|refine zv s1 ?_|refine zv s3 ?_|refine zv w1 ?_|refine zv w2 ?_)|refine Qn4 ?_|refine QGD ?_|refine zse ?_|refine zbb ?_ ?_))
   all_goals exact Qj1
  .rw [zN h2]
   have k:=key (b / 65536) (by omega);have kk:b / 65536<256:=by omega
   have h3:(65536:Int)<=(b:Int):=by omega
   clear e3 s2 s3;generalize b / 65536=i at *;have w1:IntKind.u8.wrap ((i:Nat):Int)=(i:Nat):=by rw [Qn3];omega
   have w2:IntKind.i64.wrap (((ln8 i).toNat:Nat):Int)=(QeQ i:Nat):=QuM;have w3:IntKind.i64.wrap (16+(QeQ i:Nat):Int)=((16+QeQ i:Nat):Int):=QbF;refine fnW Tryz.func170 ?_;(repeat' ((conv=>whnf);first|exact zi2|refine zj0 fun hb=>?_|(with_reducible first|refine zv s1 ?_|refine zv w1 ?_|refine zv w2 ?_|refine zv w3 ?_)|refine Qn4 ?_|refine QGD ?_|refine zse ?_|refine zbb ?_ ?_))
   all_goals exact Qj1
 .rw [zN h1]
  by_cases h2:256<=b
  .rw [zP h2]
   have k:=key (b / 256) (by omega);have kk:b / 256<256:=by omega
   clear e3 s1 s3;have h3:(256:Int)<=(b:Int):=by omega
   have h4:¬ (65536:Int)<=(b:Int):=by omega
   generalize b / 256=i at *;have w1:IntKind.u8.wrap ((i:Nat):Int)=(i:Nat):=by rw [Qn3];omega
   have w2:IntKind.i64.wrap (((ln8 i).toNat:Nat):Int)=(QeQ i:Nat):=QuM;have w3:IntKind.i64.wrap (8+(QeQ i:Nat):Int)=((8+QeQ i:Nat):Int):=QbF;refine fnW Tryz.func170 ?_;(repeat' ((conv=>whnf);first|exact zi2|refine zj0 fun hb=>?_|(with_reducible first|refine zv s2 ?_|refine zv w1 ?_|refine zv w2 ?_)|refine Qn4 ?_|refine QGD ?_|refine zse ?_|refine zbb ?_ ?_))
   all_goals exact Qj1
  .rw [zN h2]
   have k:=key b (by omega);have kk:b<256:=by omega
   clear e3 s1 s2 s3;have w1:IntKind.u8.wrap ((b:Nat):Int)=(b:Nat):=by rw [Qn3];omega
   have w2:IntKind.i64.wrap (((ln8 b).toNat:Nat):Int)=(QeQ b:Nat):=QuM;have w3:IntKind.i64.wrap (0+(QeQ b:Nat):Int)=((QeQ b:Nat):Int):=QbF;refine fnW Tryz.func170 ?_;(repeat' ((conv=>whnf);first|exact zi2|refine zj0 fun hb=>?_|(with_reducible first|refine zv w1 ?_|refine zv w2 ?_|refine zv w3 ?_)|refine Qn4 ?_|((with_reducible apply Ge.mk (α:=UInt8)); . exact Qe8 (f:=ln8) (by kernel_rfl) b kk)|refine zse ?_|refine zbb ?_ ?_))
   all_goals exact Qj1
theorem Qfk (bt bg:Nat) (h2:ZU bg):FN 190 [.agg [.u bt,.u bg]] [] (. =⟨.a (.s (.i (QbH bg 32:Nat))),[],[]⟩):=by
 have hg:=QlK bg h2;generalize QbH bg 32=P at *;refine fnW Tryz.func190 ?_;exact Qzx
theorem Qkm (bt bg:Nat) (h1:ZU bt) (h2:ZU bg):FN 135 [.agg [.u bt,.u bg]] [] (. =⟨.a (.s (.bool (QcT bt bg))),[],[]⟩):=by
 have hg:=Qfk bt bg h2;have jX:=Qb1 bg 32;unfold QcT;generalize QbH bg 32=P at *;refine fnW Tryz.func135 ?_;exact Qzx
theorem Qhf (bt bg:Nat) (h2:ZU bg) (p:Int):FN 109 [.agg [.u bt,.u bg],.s (.i p)] [] (. =⟨.a (.s (.bool (QbW bg p))),[],[]⟩):=by
 have hg:=QiT bg h2;rw [Qom bg h2];have hm:Qz4 p [(0:Int)]=max p 0:=by show QFB _ _=_;unfold QFB;split<;>omega
 generalize max p 0=q,blN bg=L at *;refine fnW Tryz.func109 ?_;(repeat' ((conv=>whnf);first|exact zi2|refine zj0 fun hb=>?_|(with_reducible refine zv hm ?_)|(refine zpu hg ?_)|refine zse ?_|refine zbb ?_ ?_))
 all_goals exact zf_
def lnL (l:List Bool):Nat->Nat
 | 0=>0
 | j+1=>if l.getD j false=true then lnL l j ||| 2^j else lnL l j
theorem Qvq (l:List Bool):∀ j,j<32->lnL l j<4294967296
 | 0,_=>by show (0:Nat)<4294967296;decide
 | j+1,h=>by
  have:=Qvq l j (by omega);unfold lnL;split
  .exact Nat.or_lt_two_pow (n:=32) this (Nat.pow_lt_pow_right (by decide) (by omega))
  .exact this
theorem QyU (j:Nat) (hj:j<32):(1:Int)*2^min (((j:Nat):Int)).toNat IntKind.u32.bits%4294967296=((2^j:Nat):Int):=by
 have hp:2^j<2^32:=Nat.pow_lt_pow_right (by omega) hj;have e:(2:Int)^j=((2^j:Nat):Int):=by rw [Int.natCast_pow];rfl
 rw [show min (((j:Nat):Int)).toNat IntKind.u32.bits=j by show min j 32=j;omega,Int.one_mul,e];clear e;generalize 2^j=p at *;omega
def Qwj (j L:Nat) (b1 b2 b3 b4 b5:Bool) (XX:List SV):St :=
 ⟨[(4,.a (.s (.u L))),(23,.a (.agg [.bool b1,.bool b2,.bool b3,.bool b4,.bool b5])),(24,.a (.s (.i j)))],[(0,some ⟨false,1,XX⟩)],[0]⟩
theorem Qde (M:Mc) (hM:M.ok):FN 73 [.agg (M.C 0)] [⟨false,1,wsv M.m⟩] (. =⟨.a (.s (.u (Qfp M:Nat))),[],[]⟩):=by
 have p1:=Qky M.ta M.td M.tf;have p2:=Qkn M.ks;have p3:=Qgc M.d;have p4:=Qkp M.n;have p5:=Qkm M.bt M.bg hM.dv.2.1 hM.dv.2.2.1;have gK:=Qaa M.m;unfold Qfp;generalize Qcj M.ks=b2,QbO M.d.st=b3,QcT M.bt M.bg=b5 at *;obtain ⟨hx,hc,hY,gA,_,gB,_,gE,gD,_⟩:=hM;obtain ⟨_,_,_,m,ks,ta,td,tf,d,n,bt,bg⟩:=M;dsimp only at *;cases QaO hx;cases zC8 hc;cases d;obtain ⟨_,_,_,_,n4⟩:=n;dsimp only [Mc.C,Mc.D,Dk.C,Nk.C,Dk.ok,Nk.ok] at *;generalize m.length=nn,wsv m=XX at *;clear hY gA gE gD gB;refine fnW Tryz.func73 ?_;(conv=>whnf);(repeat' ((first|exact zi2|refine zj0 fun hb=>?_|(refine zpu p1 ?_)|(refine zpu p2 ?_)|(refine zpu p3 ?_)|(refine zpu p4 ?_)|(refine zpu p5 ?_)|refine zse ?_|refine zbb ?_ ?_)<;>conv=>whnf))
 have key:lnL [tf,b2,b3,n4,b5] 5=(((lnN tf 0 ||| lnN b2 1) ||| lnN b3 2) ||| lnN n4 3) ||| lnN b5 4:=by
  unfold lnN;cases tf<;>cases b2<;>cases b3<;>cases n4<;>cases b5<;>rfl
 rw [<- key];clear p1 p2 p3 p4 p5 key;refine Lp.inv (fun mm σ=>∃ j:Nat,mm+j=5/\σ=Qwj j (lnL [tf,b2,b3,n4,b5] j) tf b2 b3 n4 b5 XX) ?_ ?_
 .refine ⟨5,Qwj 0 0 tf b2 b3 n4 b5 XX,?_,0,by omega,rfl⟩
  unfold Qwj
  (exact zwL [(0,some 0)])
 rintro mm σ ⟨j,yG,rfl⟩;unfold Qwj
 by_cases hj:j<5
 .have jX:=Qvq [tf,b2,b3,n4,b5] j (by omega)
  have q2:IntKind.i64.wrap ((j:Int)+1)=((j+1:Nat):Int):=QbF;have hp:2^j<4294967296:=Nat.lt_of_le_of_lt (Nat.pow_le_pow_right (by decide) (show j<=5 by omega)) (by decide);have ho:=(QkS _ _ jX hp).1;have hs:(1:Int)*2^min (((j:Nat):Int)).toNat IntKind.u32.bits%4294967296=((2^j:Nat):Int):=QyU j (by omega);obtain ⟨bj,ZJ⟩:∃ b,[tf,b2,b3,n4,b5].getD j false=b:=⟨_,rfl⟩
  have hg:Qie ty4 [SV.bool tf,.bool b2,.bool b3,.bool n4,.bool b5] (((j:Nat):Int).toNat * ty4.size)=some (.s (.bool bj)):=by
   rw [<- ZJ];have e:j=0\/j=1\/j=2\/j=3\/j=4:=by omega
   rcases e with rfl|rfl|rfl|rfl|rfl<;>rfl
  have hL:lnL [tf,b2,b3,n4,b5] (j+1)=if bj=true then lnL [tf,b2,b3,n4,b5] j ||| 2^j else lnL [tf,b2,b3,n4,b5] j:=by rw [<- ZJ];rfl
  generalize lnL [tf,b2,b3,n4,b5] j=L at *;have KQ:∀ L2,L2=(if bj=true then L ||| 2^j else L)->Qwj (j+1) L2 tf b2 b3 n4 b5 XX=Qwj (j+1) (lnL [tf,b2,b3,n4,b5] (j+1)) tf b2 b3 n4 b5 XX:=fun L2 h=>by rw [h,hL]
  generalize L ||| 2^j=Lj at *;clear hL ZJ;cases bj
  all_goals
   (conv=>whnf);(repeat' ((first|exact zi2|refine zj0 fun hb=>?_|((with_reducible apply Vl.mk (α:=Int)); . first|with_reducible exact q2|with_reducible exact ho|exact hs)|((with_reducible apply Ge.mk (α:=AV)); . exact hg)|refine zse ?_|refine zbb ?_ ?_)<;>conv=>whnf))
   all_goals first
    | (exfalso;omega)
    | (exfalso;simp at hb;omega)
    | (exfalso;simp at hb;done)
    | (refine ⟨mm-1,_,by omega,?_,j+1,by omega,KQ _ rfl⟩;unfold Qwj;(exact zwL [(0,some 0)]))
 .obtain rfl:j=5:=by omega
  generalize lnL [tf,b2,b3,n4,b5] 5=P at *;exact Qc6
theorem Qgd (M:Mc) (hM:M.ok):FN 127 [.agg (M.C 0)] [⟨false,1,wsv M.m⟩] (. =⟨.a (.s (.u (QiA M:Nat))),[],[]⟩):=by
 have hl:=Qde M hM;have ha:=Qcz (Qfp M) (M.c.getD 7 0) (QeY M) (Qab hM.cr 7);have gK:=Qaa M.m;unfold QiA;obtain ⟨E,hE⟩:∃ E,Qfp M &&& M.c.getD 7 0=E:=⟨_,rfl⟩;rw [hE] at ha |-;clear hE;generalize Qfp M=L at *;obtain ⟨hx,hc,hY,gA,_,gB,_,gE,gD,_⟩:=hM;obtain ⟨_,_,c,m,_,_,_,_,d,n⟩:=M;dsimp only at *;cases QaO hx;obtain ⟨_,_,_,_,_,_,_,c7,rfl⟩:=Qfo hc;cases d;cases n;dsimp only [Mc.C,Mc.D,Dk.C,Nk.C,Dk.ok,Nk.ok] at *;generalize m.length=nn,wsv m=XX at *;change bits .and .u32 (L:Int) (c7:Int)=(E:Int) at ha;clear hY gA gE gD gB;refine fnW Tryz.func127 ?_;exact QDp
theorem QlG (M:Mc) (hM:M.ok):FN 71 [.agg (M.C 0)] [⟨false,1,wsv M.m⟩] (. =⟨.a (.s (.bool (Qm5 M))),[],[]⟩):=by
 have hl:=Qgd M hM;have gK:=Qaa M.m;unfold Qm5;generalize QiA M=E at *;obtain ⟨B,hB⟩:∃ B,(M.wt&&decide (E=0))=B:=⟨_,rfl⟩;rw [hB];obtain ⟨hx,hc,hY,gA,_,gB,_,gE,gD,_⟩:=hM;obtain ⟨_,_,_,m,_,_,_,_,d,n,_,_,_,wt⟩:=M;dsimp only at *;cases QaO hx;cases zC8 hc;cases d;cases n;dsimp only [Mc.C,Mc.D,Dk.C,Nk.C,Dk.ok,Nk.ok] at *;generalize m.length=nn,wsv m=XX at *;clear hY gA gE gD gB;cases wt
 all_goals
  refine fnW Tryz.func71 ?_;(conv=>whnf);(repeat' ((first|exact zi2|refine zj0 fun hb=>?_|(refine QaD hl ?_)|refine zse ?_|refine zbb ?_ ?_)<;>conv=>whnf))
  all_goals first
   | (refine QcD ?_ ?_;(focus (exact Qb5));rw [<- hB,zbi];simp;done)
   | (refine QcD ?_ ?_;(focus (exact Qb5));rw [<- hB,zbi];simp;omega)
   | (exfalso;simp at hb;done)
def QAT (M:Mc):Bool:=QcZ M.ks&&QdV M.ta M.td M.tf&&QbM M.d (mpg M.m.length:Nat)&&Qb4 M.n (mpg M.m.length:Nat)&&QbW M.bg (mpg M.m.length:Nat)
theorem QmS (M:Mc) (hM:M.ok):FN 60 [.agg (M.C 0)] [⟨false,1,wsv M.m⟩] (. =⟨.a (.s (.bool (QAT M))),[],[]⟩):=by
 have hp:=QbE M.m _ (by have:=hM.ml;omega:M.m.length<4294967296);have q1:=QmN M.ks;have q2:=QmY M.ta M.td M.tf;have q3:=QmP M.d hM.dk (mpg M.m.length:Nat);have q4:=QmT M.n hM.nk (mpg M.m.length:Nat);have q5:=Qhf M.bt M.bg hM.dv.2.2.1 (mpg M.m.length:Nat);have gK:=Qaa M.m;obtain ⟨B,hB⟩:∃ B,QAT M=B:=⟨_,rfl⟩;rw [hB];unfold QAT at hB;generalize QcZ M.ks=b1,QdV M.ta M.td M.tf=b2,QbM M.d (mpg M.m.length:Nat)=b3,Qb4 M.n (mpg M.m.length:Nat)=b4,QbW M.bg (mpg M.m.length:Nat)=b5 at *;obtain ⟨hx,hc,hY,gA,_,gB,_,gE,gD,gG⟩:=hM;obtain ⟨_,_,_,m,ks,ta,td,tf,d,n,bt,bg⟩:=M;dsimp only at *;cases QaO hx;cases zC8 hc;cases d;cases n;dsimp only [Mc.C,Mc.D,Dk.C,Nk.C,Dk.ok,Nk.ok] at *;generalize mpg m.length=P at *;generalize m.length=nn,wsv m=XX at *;clear hY gA gE gD gB gG;refine fnW Tryz.func60 ?_;(conv=>whnf);(repeat' ((first|exact zi2|refine zj0 fun hb=>?_|(refine QaD hp ?_)|(refine zpu q1 ?_)|(refine zpu q2 ?_)|(refine zpu q3 ?_)|(refine zpu q4 ?_)|(refine zpu q5 ?_)|refine zse ?_|refine zbb ?_ ?_)<;>conv=>whnf))
 all_goals first
  | (refine QcD ?_ ?_;(focus (exact Qb5));rw [<- hB];symm;first|(rw [zbi];simp;done)|(rw [zbi];simp_all;done)|(rw [zbi];simp;grind))
theorem QoF (M:Mc) (hM:M.ok):FN 34 [.agg (M.C 0)] [⟨false,1,wsv M.m⟩] (. =⟨.a (.s (.bool (Qb0 M))),[],[]⟩):=by
 have hp:=QbE M.m _ (by have:=hM.ml;omega:M.m.length<4294967296);have qd:=QmS M hM;have gK:=Qaa M.m;have zQ:=QaT M.m.length;obtain ⟨B,hB⟩:∃ B,Qb0 M=B:=⟨_,rfl⟩;rw [hB];obtain ⟨D,hD⟩:∃ D,QAT M=D:=⟨_,rfl⟩;rw [hD] at qd;unfold Qb0 at hB;unfold QAT at hD;generalize QcZ M.ks=b1,QdV M.ta M.td M.tf=b2,QbM M.d (mpg M.m.length:Nat)=b3,Qb4 M.n (mpg M.m.length:Nat)=b4,QbW M.bg (mpg M.m.length:Nat)=b5 at *;have hD2:(b1=true/\b2=true/\b3=true/\b4=true/\b5=true)↔D=true:=by rw [<- hD];simp [and_assoc]
 clear hD;have h1:=Qab hM.cr 1;obtain ⟨hx,hc,hY,gA,_,gB,_,gE,gD,gG⟩:=hM;obtain ⟨_,_,_,m,ks,ta,td,tf,d,n,_,bg⟩:=M;dsimp only at *;cases QaO hx;obtain ⟨_,c1,_,_,_,_,_,_,rfl⟩:=Qfo hc;cases d;cases n;dsimp only [Mc.C,Mc.D,Dk.C,Nk.C,Dk.ok,Nk.ok] at *;generalize mpg m.length=P at *;generalize m.length=nn,wsv m=XX at *;simp only [List.getD_cons_zero,List.getD_cons_succ] at hB h1;have m1:Int.tmod (c1:Int) 4=((c1%4:Nat):Int):=QuJ;have qN:=gG.2.2.2.1;clear hY gA gE gD gB gG;generalize c1%4=c14 at *;refine fnW Tryz.func34 ?_;(conv=>whnf);(repeat' ((first|exact zi2|refine zj0 fun hb=>?_|(with_reducible refine zv m1 ?_)|(refine QaD hp ?_)|(refine QaD qd ?_)|refine zse ?_|refine zbb ?_ ?_)<;>conv=>whnf))
 all_goals first
  | (refine QcD ?_ ?_;(focus (exact Qb5));rw [<- hB];symm;first|exact zdf (by omega)|(rw [zbi];simp;done)|(rw [zbi];simp;omega)|(rw [zbi];simp;grind))
end Go.Proofs.YtflaceijiphfdaaGreat
