import Derived.Test.YtjgikeckbeeehaaGreatP30
import Derived.Test.YtjgikeckbeeehaaGreatP32
set_option linter.unusedSimpArgs false
set_option linter.unusedVariables false
set_option maxHeartbeats 100000000
set_option maxRecDepth 100000
namespace Go.Proofs.YtjgikeckbeeehaaGreat
open Go Go.RowKit
theorem eqW:∀ (a b:List Nat) (ks:List SK),ks=a.map (fun _=>SK.int)→b.length=a.length→∃ bb,Qar ks (wsv a) (wsv b)=some bb∧(bb=true→a=b)
 | [],[],ks,h,_=>by subst h;exact ⟨true,rfl,fun _=>rfl⟩
 | [],_::_,_,_,h=>by cases h
 | _::_,[],_,_,h=>by cases h
 | x::a,y::b,ks,hk,h=>by
  subst hk
  obtain ⟨bb,h1,h2⟩:=eqW a b _ rfl (by simpa using h)
  refine ⟨((x:Int)==(y:Int))&&bb,?_,fun e=>?_⟩
  ·show (match eqS .int (.int .u32 x) (.int .u32 y) with|some u=>(match Qar _ (wsv a) (wsv b) with|some v=>some (u&&v)|none=>none)|none=>none)=_
   rw [h1]
   rfl
  ·simp only [Bool.and_eq_true,beq_iff_eq] at e
   rw [h2 e.2,show x=y by omega]
theorem Qsc (x1 x2 x3 x4 x5 x6 x7 x8 x9 x10 x11 x12 x13 x14 x15 pc c0 c1 c3 c4 c5 c6 c7:Nat) (m:List Nat) (hxr:∀ y∈ [0,x1,x2,x3,x4,x5,x6,x7,x8,x9,x10,x11,x12,x13,x14,x15],y<4294967296) (hcr:∀ y∈ [c0,c1,4294967295-pc,c3,c4,c5,c6,c7],y<4294967296) (hpr:pc<4294967296) (hmr:∀ y∈m,y<4294967296) (hml:m.length≤1000000) :
  ∃ (y1 y2 y3 y4 y5 y6 y7 y8 y9 y10 y11 y12 y13 y14 y15 q d0 d1 d2 d3 d4 d5 d6 d7:Nat) (qm:List Nat) (K P:Int) (R V:Nat),
   Fn Tryz.prog 14 [.agg [.int .u32 0,.int .u32 (x1:Nat),.int .u32 (x2:Nat),.int .u32 (x3:Nat),.int .u32 (x4:Nat),.int .u32 (x5:Nat),.int .u32 (x6:Nat),.int .u32 (x7:Nat),.int .u32 (x8:Nat),.int .u32 (x9:Nat),.int .u32 (x10:Nat),.int .u32 (x11:Nat),.int .u32 (x12:Nat),.int .u32 (x13:Nat),.int .u32 (x14:Nat),.int .u32 (x15:Nat),.int .u32 (pc:Nat),.int .u32 (c0:Nat),.int .u32 (c1:Nat),.int .u32 (4294967295-pc:Nat),.int .u32 (c3:Nat),.int .u32 (c4:Nat),.int .u32 (c5:Nat),.int .u32 (c6:Nat),.int .u32 (c7:Nat)],.s (.sl 0 0 m.length)] [⟨false,1,wsv m⟩] (· =⟨.tup [.agg [.int .u32 0,.int .u32 (y1:Nat),.int .u32 (y2:Nat),.int .u32 (y3:Nat),.int .u32 (y4:Nat),.int .u32 (y5:Nat),.int .u32 (y6:Nat),.int .u32 (y7:Nat),.int .u32 (y8:Nat),.int .u32 (y9:Nat),.int .u32 (y10:Nat),.int .u32 (y11:Nat),.int .u32 (y12:Nat),.int .u32 (y13:Nat),.int .u32 (y14:Nat),.int .u32 (y15:Nat),.int .u32 (q:Nat),.int .u32 (d0:Nat),.int .u32 (d1:Nat),.int .u32 (d2:Nat),.int .u32 (d3:Nat),.int .u32 (d4:Nat),.int .u32 (d5:Nat),.int .u32 (d6:Nat),.int .u32 (d7:Nat)],.s (.sl 1 0 m.length),.agg [.int .i64 K,.int .i64 P,.int .i64 (R:Nat),.int .u32 (V:Nat)]],[],[⟨true,1,wsv qm⟩]⟩) ∧
   qm.length=m.length∧d3<4294967296∧d4<4294967296∧(d2=pc→(K=0∧P=0∧R=0∧V=0)∧∀ i,qm.getD i 0 ||| 8=m.getD i 0 ||| 8)∧(∀ y∈qm,y<4294967296) ∧
   Fn Tryz.prog 18 [.agg [.int .u32 0,.int .u32 (x1:Nat),.int .u32 (x2:Nat),.int .u32 (x3:Nat),.int .u32 (x4:Nat),.int .u32 (x5:Nat),.int .u32 (x6:Nat),.int .u32 (x7:Nat),.int .u32 (x8:Nat),.int .u32 (x9:Nat),.int .u32 (x10:Nat),.int .u32 (x11:Nat),.int .u32 (x12:Nat),.int .u32 (x13:Nat),.int .u32 (x14:Nat),.int .u32 (x15:Nat),.int .u32 (pc:Nat),.int .u32 (c0:Nat),.int .u32 (c1:Nat),.int .u32 (4294967295-pc:Nat),.int .u32 (c3:Nat),.int .u32 (c4:Nat),.int .u32 (c5:Nat),.int .u32 (c6:Nat),.int .u32 (c7:Nat)],.s (.int .i64 (d3:Nat)),.s (.int .u32 (d4:Nat))] [] (· =⟨.a (.agg [.int .u32 0,.int .u32 (x1:Nat),.int .u32 (x2:Nat),.int .u32 (x3:Nat),.int .u32 (x4:Nat),.int .u32 (x5:Nat),.int .u32 (x6:Nat),.int .u32 (x7:Nat),.int .u32 (x8:Nat),.int .u32 (x9:Nat),.int .u32 (x10:Nat),.int .u32 (x11:Nat),.int .u32 (x12:Nat),.int .u32 (x13:Nat),.int .u32 (x14:Nat),.int .u32 (x15:Nat),.int .u32 (c1:Nat),.int .u32 (Qdt c0:Nat),.int .u32 (c1:Nat),.int .u32 (pc:Nat),.int .u32 (w32 (d3:Nat):Nat),.int .u32 (d4:Nat),.int .u32 (c5:Nat),.int .u32 (c6:Nat),.int .u32 (c7:Nat)]),[],[]⟩) ∧
   ∃ bb,Qar Qm3 [.int .u32 0,.int .u32 (y1:Nat),.int .u32 (y2:Nat),.int .u32 (y3:Nat),.int .u32 (y4:Nat),.int .u32 (y5:Nat),.int .u32 (y6:Nat),.int .u32 (y7:Nat),.int .u32 (y8:Nat),.int .u32 (y9:Nat),.int .u32 (y10:Nat),.int .u32 (y11:Nat),.int .u32 (y12:Nat),.int .u32 (y13:Nat),.int .u32 (y14:Nat),.int .u32 (y15:Nat),.int .u32 (q:Nat),.int .u32 (d0:Nat),.int .u32 (d1:Nat),.int .u32 (d2:Nat),.int .u32 (d3:Nat),.int .u32 (d4:Nat),.int .u32 (d5:Nat),.int .u32 (d6:Nat),.int .u32 (d7:Nat)] [.int .u32 0,.int .u32 (x1:Nat),.int .u32 (x2:Nat),.int .u32 (x3:Nat),.int .u32 (x4:Nat),.int .u32 (x5:Nat),.int .u32 (x6:Nat),.int .u32 (x7:Nat),.int .u32 (x8:Nat),.int .u32 (x9:Nat),.int .u32 (x10:Nat),.int .u32 (x11:Nat),.int .u32 (x12:Nat),.int .u32 (x13:Nat),.int .u32 (x14:Nat),.int .u32 (x15:Nat),.int .u32 (c1:Nat),.int .u32 (Qdt c0:Nat),.int .u32 (c1:Nat),.int .u32 (pc:Nat),.int .u32 (w32 (d3:Nat):Nat),.int .u32 (d4:Nat),.int .u32 (c5:Nat),.int .u32 (c6:Nat),.int .u32 (c7:Nat)]=some bb∧(bb=true→d2=pc):=by
 have hex:=QiL [0,x1,x2,x3,x4,x5,x6,x7,x8,x9,x10,x11,x12,x13,x14,x15] pc [c0,c1,4294967295-pc,c3,c4,c5,c6,c7] m m.length rfl rfl hcr hpr rfl hmr (by omega) hxr _ rfl
 have h0:=QwK [0,x1,x2,x3,x4,x5,x6,x7,x8,x9,x10,x11,x12,x13,x14,x15] pc [c0,c1,4294967295-pc,c3,c4,c5,c6,c7] m m.length
 have ht:=Qju [0,x1,x2,x3,x4,x5,x6,x7,x8,x9,x10,x11,x12,x13,x14,x15] pc [c0,c1,4294967295-pc,c3,c4,c5,c6,c7] m m.length rfl hpr rfl
 obtain ⟨k1,k2,k3,_,k5,k6,_,K,P,R,V,k8,_,_⟩:=QlK [0,x1,x2,x3,x4,x5,x6,x7,x8,x9,x10,x11,x12,x13,x14,x15] pc [c0,c1,4294967295-pc,c3,c4,c5,c6,c7] m m.length rfl rfl hcr hpr rfl hmr hxr
 generalize exS [0,x1,x2,x3,x4,x5,x6,x7,x8,x9,x10,x11,x12,x13,x14,x15] pc [c0,c1,4294967295-pc,c3,c4,c5,c6,c7] m m.length=Q at *
 obtain ⟨qx,q,qc,qm,qe⟩:=Q
 dsimp only at *
 obtain ⟨y0,y1,y2,y3,y4,y5,y6,y7,y8,y9,y10,y11,y12,y13,y14,y15,rfl⟩:=Qaq k1
 obtain ⟨d0,d1,d2,d3,d4,d5,d6,d7,rfl⟩:=QaJ k2
 obtain rfl:y0=0:=h0
 subst k8
 have b3:d3<4294967296:=k5 d3 (by simp)
 have b4:d4<4294967296:=k5 d4 (by simp)
 have htr:=QbX [0,x1,x2,x3,x4,x5,x6,x7,x8,x9,x10,x11,x12,x13,x14,x15] pc [c0,c1,4294967295-pc,c3,c4,c5,c6,c7] ((d3:Nat):Int) d4 rfl rfl hcr
 obtain ⟨bb,e1,e2⟩:=eqW [0,y1,y2,y3,y4,y5,y6,y7,y8,y9,y10,y11,y12,y13,y14,y15,q,d0,d1,d2,d3,d4,d5,d6,d7] [0,x1,x2,x3,x4,x5,x6,x7,x8,x9,x10,x11,x12,x13,x14,x15,c1,Qdt c0,c1,pc,w32 (d3:Nat),d4,c5,c6,c7] Qm3 rfl rfl
 refine ⟨y1,y2,y3,y4,y5,y6,y7,y8,y9,y10,y11,y12,y13,y14,y15,q,d0,d1,d2,d3,d4,d5,d6,d7,qm,K,P,R,V,hex,k3,b3,b4,fun e=>?_,k6,htr,bb,e1,fun e=>?_⟩
 ·obtain ⟨t1,t2⟩:=ht e
  unfold efS E0 at t1
  simp only [List.cons.injEq,SV.int.injEq,true_and,and_true] at t1
  exact ⟨by omega,t2⟩
 ·have:=e2 e
  simp only [List.cons.injEq] at this
  exact this.2.2.2.2.2.2.2.2.2.2.2.2.2.2.2.2.2.2.2.1
theorem Qvg (p:Nat) (hp:p<4294967296):bits .xor .u32 4294967295 (p:Int)=((4294967295-p:Nat):Int):=by
 show IntKind.u32.wrap (((BitVec.ofInt 32 4294967295) ^^^ (BitVec.ofInt 32 (p:Int))).toNat:Int)=_
 rw [show (BitVec.ofInt 32 4294967295)=BitVec.allOnes 32 by decide,BitVec.allOnes_xor,QvL p hp,Qcf (by omega) (by omega)]
def tws (i nq:Nat) (A0 A1 Xz Xq:List SV):St :=
 ⟨[(11,.a (.s (.ptr 2 0))),(13,.a (.s (.sl 4 0 nq))),(14,.a (.s (.ptr 5 0))),(16,.a (.s (.int .i64 i)))],
  [(0,some ⟨false,1,A0⟩),(1,some ⟨false,1,A1⟩),(2,some ⟨true,1,[.unk,.unk,.unk,.unk,.unk,.unk,.unk,.unk,.unk,.unk,.unk,.unk,.unk,.unk,.unk,.unk,.unk,.unk,.unk,.unk,.unk,.unk,.unk,.unk,.unk,.sl 3 0 nq,.unk,.unk,.unk,.unk,.unk,.unk,.unk,.unk,.unk,.unk,.unk,.unk,.unk,.unk,.unk,.unk,.unk,.unk,.unk,.unk,.unk,.unk,.unk]⟩),(3,some ⟨true,1,Xz⟩),(4,some ⟨true,1,Xq⟩),(5,some ⟨true,1,[.int .i64 0,.int .i64 0,.int .i64 0,.int .u32 0]⟩)],[0]⟩
theorem QmD (kind w a:Int) (ls acts:List Int) (n k:Nat) (h:¬ (n≤40∧k≤30)):Fn Tryz.prog 4 [.s (.int .i64 kind),.s (.sl 0 0 n),.s (.sl 1 0 k),.s (.int .i64 w),.s (.int .i64 a)] [⟨false,1,isv .i64 ls⟩,⟨false,1,isv .i64 acts⟩] (· =⟨.a (.s (.bool true)),[],[]⟩):=by
 have hsA:=QaH .i64 ls
 have hsB:=QaH .i64 acts
 have qf:=QeF n k _ _ hsA hsB _ rfl
 have qa:=Qca
 rw [show (decide (n≤40)&&decide (k≤30))=false by simp;omega] at qf
 generalize isv .i64 ls=A0 at *
 generalize isv .i64 acts=A1 at *
 refine fnW Tryz.func4 ?_
 (repeat' ((conv=>whnf);first|(intro hb;first|exact zk4 hb|(try (replace hb:=zn4 hb)))|(refine Qb5 qf ?_)|(refine zpu qa ?_)|refine zst ?_|refine zbx ?_ ?_|refine zgx ?_ ?_|refine eqR ?_));(all_goals (try (conv=>whnf)))
 all_goals exact QvP
theorem Qjr (kind w a:Int) (ls acts:List Int) (n k:Nat) (h:n≤40∧k≤30) (hn:ls.length=n) (hk:acts.length=k) (hMc:Fn Tryz.prog 43 [.s (.int .i64 kind),.s (.sl 0 0 n)] [⟨false,1,isv .i64 ls⟩] mcQ):Fn Tryz.prog 4 [.s (.int .i64 kind),.s (.sl 0 0 n),.s (.sl 1 0 k),.s (.int .i64 w),.s (.int .i64 a)] [⟨false,1,isv .i64 ls⟩,⟨false,1,isv .i64 acts⟩] (· =⟨.a (.s (.bool true)),[],[]⟩):=by
 have hsA:=QaH .i64 ls
 have hsB:=QaH .i64 acts
 have qf:=QeF n k _ _ hsA hsB _ rfl
 have qa:=Qca
 have qR:=Qfh kind ls acts n k hn hk h.2 hMc
 rw [show (decide (n≤40)&&decide (k≤30))=true by simp;omega] at qf
 generalize isv .i64 ls=A0 at *
 generalize isv .i64 acts=A1 at *
 clear hMc hn hk
 refine fnW Tryz.func4 ?_
 (repeat' ((conv=>whnf);first|(intro hb;first|exact zk4 hb|(try (replace hb:=zn4 hb)))|(refine Qb5 qf ?_)|(refine zpu qa ?_)|(refine QbK qR [⟨_,0⟩,⟨_,0⟩] [(_,_),(_,_)] aRn ⟨rfl,rfl,trivial⟩ ⟨rfl,Qaw (by assumption),rfl,Qaw (by assumption),trivial⟩ ?_ ?_;(focus (rintro R ⟨M3,_,_,rfl⟩;exact ⟨(by show 1≤Qam;decide),fun p h=>by cases h⟩));rintro R ⟨M1,hok1,hl1,rfl⟩;have qB:=Qk6 M1 hok1 hl1 w a;have hx1:=hok1.x;have hc1:=hok1.c;have hs3:=Qaa M1.m;clear hok1;generalize hX1:wsv M1.m=X1 at *;obtain ⟨_,_,_,me,_,_,_,_,de,ne,_,_,_,_,_⟩:=M1;dsimp only at *;obtain ⟨_,_,_,_,_,_,_,_,_,_,_,_,_,_,_,_,rfl⟩:=Qaq hx1;obtain ⟨_,_,_,_,_,_,_,_,rfl⟩:=QaJ hc1;obtain ⟨_,_,_,_,_,_,_,_⟩:=de;obtain ⟨_,_,_,_,_,_⟩:=ne;simp only [Qaf,List.cons_append,List.nil_append,Mc.C,Mc.D,Dk.C,Nk.C] at *;generalize me.length=ne at *)|(refine QbK qB [⟨_,0⟩] [(_,_)] aRn ⟨rfl,trivial⟩ ⟨rfl,Qaw (by assumption),trivial⟩ ?_ ?_;(focus (rintro R ⟨M3,z3,_,rfl⟩;exact ⟨(by show 1≤Qam;decide),fun p h=>by cases h⟩));rintro R ⟨M2,z,hok2,rfl⟩;have hx2:=hok2.x;have hc2:=hok2.c;have hxr2:=hok2.xr;have hcr2:=hok2.cr;have hpr2:=hok2.pr;have hmr2:=hok2.mr;have hml2:=hok2.ml;have hs2:=Qaa (M2.m++z);have hs2m:=Qaa M2.m;have hpre:∀ (q:Nat) s,(wsv M2.m)[q]?=some s→(wsv (M2.m++z))[q]?=some s:=fun q s h=>(by rw [Qdw];exact (List.getElem?_append_left (List.getElem?_eq_some_iff.1 h).1).trans h);have hple:(wsv M2.m).length≤(wsv (M2.m++z)).length:=(by have e:=@List.length_append _ M2.m z;have ea:=wsv_length M2.m;have eb:=wsv_length (M2.m++z);omega);clear hok2;obtain ⟨_,pcf,_,mf,_,_,_,_,df,nf,_,_,_,_,_⟩:=M2;dsimp only at *;obtain ⟨_,xf_1,xf_2,xf_3,xf_4,xf_5,xf_6,xf_7,xf_8,xf_9,xf_10,xf_11,xf_12,xf_13,xf_14,xf_15,rfl⟩:=Qaq hx2;obtain ⟨cf_0,cf_1,_,cf_3,cf_4,cf_5,cf_6,cf_7,rfl⟩:=QaJ hc2;obtain ⟨_,_,_,_,_,_,_,_⟩:=df;obtain ⟨_,_,_,_,_,_⟩:=nf;obtain ⟨_,_,_,_,_,_,_,_,_,_,_,_,_,_,_,q,_,_,_,_,_,_,_,_,qm,_,_,R,_,hex,hqm,_,_,hD,hqr,htr,_,he1,hbb⟩:=Qsc xf_1 xf_2 xf_3 xf_4 xf_5 xf_6 xf_7 xf_8 xf_9 xf_10 xf_11 xf_12 xf_13 xf_14 xf_15 pcf cf_0 cf_1 cf_3 cf_4 cf_5 cf_6 cf_7 mf (fun y hy=>(List.mem_cons.1 hy).elim (fun e=>by omega) (fun h=>hxr2 y (List.mem_cons_of_mem _ h))) (fun y hy=>by have:=Qbw hcr2 2 (4294967295-pcf) (by omega);exact this y hy) hpr2 hmr2 hml2;have hsq:=Qaa qm;clear hxr2 hcr2;generalize hXf:wsv mf=Xf at *;generalize hXz:wsv (mf++z)=Xz at *;generalize hXq:wsv qm=Xq at *;simp only [Qaf,List.cons_append,List.nil_append,Mc.C,Mc.D,Dk.C,Nk.C] at *;generalize hnf:mf.length=nf at *;generalize hnq:qm.length=nq at *;subst hqm;have hpn:bits .xor .u32 (if IntKind.u32.signed=true then -1 else IntKind.u32.max) (pcf:Int)=((4294967295-pcf:Nat):Int):=Qvg pcf hpr2)|(refine Qal hex [⟨_,0⟩] [(_,_)] aRn ⟨rfl,trivial⟩ ⟨rfl,Qa5 (by assumption) hpre hple,trivial⟩ ⟨rfl,Qba rfl⟩ ?_)|(refine zpu htr ?_)|(refine Eqs.mk _ (Qcq _ Qm3 rfl _ _ _ (by with_reducible exact he1)) ?_)|(with_reducible refine zv hpn ?_)|refine zst ?_|refine zbx ?_ ?_|refine zgx ?_ ?_|refine eqR ?_));(all_goals (try (conv=>whnf)))
 all_goals try (first|(exfalso;omega)|(exfalso;simp at hb;done))
 all_goals try ((exact QbS))
 obtain ⟨⟨rfl,rfl,rfl,rfl⟩,hor⟩:=hD (hbb (by assumption))
 have hnz:(mf++z).length=nq+z.length:=by rw [List.length_append,hnf]
 have hget:∀ i:Nat,i<nq→Xz[0+(i:Int).toNat * 1]?=some (.int .u32 (mf.getD i 0:Nat)):=fun i hi=>by
  rw [Nat.zero_add,Nat.mul_one,Int.toNat_natCast,← hXz,Qbf (mf++z) i (by omega),List.getD_eq_getElem?_getD,List.getD_eq_getElem?_getD,List.getElem?_append_left (by omega)]
 have hgeq:∀ i:Nat,i<nq→Xq[0+(i:Int).toNat * 1]?=some (.int .u32 (qm.getD i 0:Nat)):=fun i hi=>by
  rw [Nat.zero_add,Nat.mul_one,Int.toNat_natCast,← hXq,Qbf qm i (by omega)]
 have hoq:∀ i:Nat,bits .or .u32 ((qm.getD i 0:Nat):Int) 8=((qm.getD i 0 ||| 8:Nat):Int):=fun i=>Qlq _ 8 (Qad hqr i) (by omega)
 have hom:∀ i:Nat,bits .or .u32 ((mf.getD i 0:Nat):Int) 8=((qm.getD i 0 ||| 8:Nat):Int):=fun i=>by rw [hor i];exact Qlq _ 8 (Qad hmr2 i) (by omega)
 clear hD hbb he1 htr hex hpre hple qB qR qf hpn hor
 refine Lp.inv (fun mm σ=>∃ i:Nat,mm+i=nq∧σ=tws i nq A0 A1 Xz Xq) ?_ ?_
 ·refine ⟨nq,tws 0 nq A0 A1 Xz Xq,?_,0,by omega,rfl⟩
  unfold tws
  (exact zwL [(0,some 0),(1,some 1),(2,some 197056),(3,some 196992),(4,some 393472),(5,some 393856)])
 rintro mm σ ⟨i,hmi,rfl⟩
 unfold tws
 by_cases hi:i<nq
 ·have g1:=hget i hi
  have g2:=hgeq i hi
  have o1:=hoq i
  have o2:=hom i
  have q2:IntKind.i64.wrap ((i:Int)+1)=((i+1:Nat):Int):=by rw [QbI (by omega) (by omega)];omega
  clear hget hgeq hoq hom
  generalize qm.getD i 0=a1 at *
  generalize mf.getD i 0=a2 at *
  generalize a1 ||| 8=a3 at *
  (repeat' ((conv=>whnf);first|(intro hb;first|exact zk4 hb|(try (replace hb:=zn4 hb)))|((with_reducible apply Ge.mk (α:=SV)); · first|exact g1|exact g2)|(with_reducible first|refine zv o1 ?_|refine zv o2 ?_|refine zv q2 ?_)|refine zs0 ?_|refine zbx ?_ ?_|refine zgx ?_ ?_|refine eqR ?_));(all_goals (try (conv=>whnf)))
  all_goals first|(exfalso;omega)|(exfalso;simp at hb;done)|(refine ⟨mm-1,tws (i+1) nq A0 A1 Xz Xq,by omega,?_,i+1,by omega,rfl⟩;unfold tws;(exact zwL [(0,some 0),(1,some 1),(2,some 2),(3,some 3),(4,some 4),(5,some 5)]))
 ·clear hget hgeq hoq hom
  (repeat' ((conv=>whnf);first|(intro hb;first|exact zk4 hb|(try (replace hb:=zn4 hb)))|(refine zpu qa ?_)|refine zst ?_|refine zbx ?_ ?_|refine zgx ?_ ?_|refine eqR ?_));(all_goals (try (conv=>whnf)))
  all_goals exact QvP
theorem twhole_fn (kind w a:Int) (ls acts:List Int) (n k:Nat) (hn:ls.length=n) (hk:acts.length=k):Fn Tryz.prog 4 [.s (.int .i64 kind),.s (.sl 0 0 n),.s (.sl 1 0 k),.s (.int .i64 w),.s (.int .i64 a)] [⟨false,1,isv .i64 ls⟩,⟨false,1,isv .i64 acts⟩] (· =⟨.a (.s (.bool true)),[],[]⟩):=by
 by_cases h:n≤40∧k≤30
 ·exact Qjr kind w a ls acts n k h hn hk (Qe4 kind ls n hn h.1)
 ·exact QmD kind w a ls acts n k h
end Go.Proofs.YtjgikeckbeeehaaGreat
