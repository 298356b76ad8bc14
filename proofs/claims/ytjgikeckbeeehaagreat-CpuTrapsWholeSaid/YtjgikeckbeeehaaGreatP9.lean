import Derived.Test.YtjgikeckbeeehaaGreatP8
set_option linter.unusedSimpArgs false
set_option linter.unusedVariables false
set_option maxHeartbeats 100000000
set_option maxRecDepth 100000
namespace Go.Proofs.YtjgikeckbeeehaaGreat
open Go Go.RowKit
def ld1 (n a:Nat):Bool:=decide (a+1≤mpg n*128)
theorem Qfr {n a:Nat} (h:ld1 n a=true):a / 4<n:=by
 unfold ld1 mpg at h;simp at h;split at h<;>omega
theorem QdA (xs:List Nat) (n a:Nat) (hn:n<4294967296) (ha:a<4294967296):Fn Tryz.prog 52 [.s (.sl 0 0 n),.s (.int .u32 a),.s (.int .i64 1)] [⟨false,1,wsv xs⟩] (· =⟨.a (.s (.bool (ld1 n a))),[],[]⟩):=by
 have hm:=Qbe n
 refine fnW Tryz.func52 ?_
 (repeat' ((conv=>whnf);first|(intro hb;first|exact zk0 hb|(try (replace hb:=zn0 hb)))|(refine Qal (f:=85) (Qft xs n hn) [⟨0,0⟩] [(0,⟨false,1,wsv xs⟩)] (by first|exact rfl|simp [QcI,Qdr,Qc1]) ⟨rfl,trivial⟩ (⟨rfl,Qaw (Qaa _),trivial⟩) ⟨rfl,QdP⟩ ?_)|refine zs0 ?_|refine zbx ?_ ?_|refine zgx ?_ ?_));(all_goals (try (conv=>whnf)))
 all_goals
  refine QaU rfl (Qaa _) rfl ?_
  simp only [Qa7]
  congr 3
  have hy:decide ((a:Int)+1≤(mpg n:Nat)*128)=decide (a+1≤mpg n*128):=by congr 1;apply propext;omega
  unfold ld1
  rw [← hy]
def byN (w a:Nat):Nat:=w / 2^(a%4*8)%2^8
theorem Qxg (a:Nat):((a:Int).tmod 4)=((a%4:Nat):Int):=by rw [QcL (by omega)];omega
theorem QAD (a:Nat):IntKind.i64.wrap ((a%4:Nat):Int)=((a%4:Nat):Int):=QbI (by omega) (by omega)
theorem QAr (a:Nat):IntKind.i64.wrap (((a%4:Nat):Int)*8)=((a%4*8:Nat):Int):=by rw [QbI (by omega) (by omega)];omega
theorem Qux {xs:List Nat} (h:∀ x∈xs,x<4294967296) (j:Nat):xs.getD j 0<4294967296:=by
 by_cases hj:j<xs.length
 ·rw [List.getD_eq_getElem?_getD,List.getElem?_eq_getElem hj];exact h _ (List.getElem_mem hj)
 ·rw [List.getD_eq_getElem?_getD,List.getElem?_eq_none (by omega)];simp
theorem QiG (xs:List Nat) (n a:Nat) (hl:xs.length=n) (hx:∀ x∈xs,x<4294967296) (hn:n<4294967296) (ha:a<4294967296) (hld:ld1 n a=true):Fn Tryz.prog 27 [.s (.sl 0 0 n),.s (.int .u32 a),.s (.int .i64 1)] [⟨false,1,wsv xs⟩] (· =⟨.tup [.s (.int .u32 (byN (xs.getD (a / 4) 0) a:Nat)),.s (.bool true)],[],[]⟩):=by
 have hw:=QdA xs n a hn ha
 rw [hld] at hw
 have hln:=Qfr hld
 have hf:=QcQ (xs.getD (a / 4) 0) (a%4*8) 8 (Qux hx _) (by omega) (by omega) (by omega)
 have hg:=Qbf xs (a / 4) (by omega)
 generalize xs.getD (a / 4) 0=W at *
 change Fn _ _ _ _ (· =⟨.a (.s (.int .u32 ((byN W a:Nat):Int))),_,_⟩) at hf
 generalize byN W a=B at *
 refine fnW Tryz.func27 ?_
 (repeat' ((conv=>whnf);first|(intro hb;first|exact zk0 hb|(try (replace hb:=zn0 hb)))|(refine Qal (f:=52) (hw) [⟨0,0⟩] [(0,⟨false,1,wsv xs⟩)] (by first|exact rfl|simp [QcI,Qdr,Qc1]) ⟨rfl,trivial⟩ (⟨rfl,Qaw (Qaa _),trivial⟩) ⟨rfl,QdP⟩ ?_)|(apply Sd.mk; · omega)|((with_reducible apply Vl.mk (α:=Nat)); · exact ldi a)|((with_reducible apply Ge.mk (α:=SV)); · exact hg)|(with_reducible first|refine zv (Qxg a) ?_|refine zv (QAD a) ?_|refine zv (QAr a) ?_)|(refine Qag (f:=53) (hf) rfl ?_)|refine zs0 ?_|refine zbx ?_ ?_|refine zgx ?_ ?_));(all_goals (try (conv=>whnf)))
 all_goals exact QaU rfl (Qaa _) rfl rfl
def sfI (w l v:Nat):Int:=bits .or .u32 (bits .andNot .u32 (w:Int) (IntKind.u32.wrap (255*2^min ((l:Nat):Int).toNat IntKind.u32.bits))) (IntKind.u32.wrap (bits .and .u32 (v:Int) 255*2^min ((l:Nat):Int).toNat IntKind.u32.bits))
theorem Qqe (op:BinOp) (a b:Int):0≤bits op .u32 a b∧bits op .u32 a b<4294967296:=by
 unfold bits
 rw [Qbo]
 omega
def sfN (w l v:Nat):Nat:=(sfI w l v).toNat
theorem Qqf (w l v:Nat):sfN w l v<4294967296:=by
 have:0≤sfI w l v∧sfI w l v<4294967296:=Qqe _ _ _
 unfold sfN;omega
theorem Qjd (w l v:Nat):((sfN w l v:Nat):Int)=sfI w l v:=by
 have:0≤sfI w l v∧sfI w l v<4294967296:=Qqe _ _ _
 unfold sfN;omega
theorem Qhu (w l v:Nat) (hl:l≤31):Fn Tryz.prog 86 [.s (.int .u32 w),.s (.int .i64 l),.s (.int .i64 8),.s (.int .u32 v)] [] (· =⟨.a (.s (.int .u32 (sfN w l v:Nat))),[],[]⟩):=by
 have hm:Fn Tryz.prog 87 [.s (.int .i64 8)] [] (· =⟨.a (.s (.int .u32 255)),[],[]⟩):=QlY 8 (by omega)
 have e1:IntKind.u32.wrap (255*2^min ((l:Nat):Int).toNat IntKind.u32.bits)=IntKind.u32.wrap (255*2^min ((l:Nat):Int).toNat IntKind.u32.bits):=rfl
 have e2:IntKind.u32.wrap (bits .and .u32 (v:Int) 255*2^min ((l:Nat):Int).toNat IntKind.u32.bits)=IntKind.u32.wrap (bits .and .u32 (v:Int) 255*2^min ((l:Nat):Int).toNat IntKind.u32.bits):=rfl
 rw [Qjd]
 refine fnW Tryz.func86 ?_
 (repeat' ((conv=>whnf);first|(intro hb;first|exact zk0 hb|(try (replace hb:=zn0 hb)))|(refine Qag (f:=87) (hm) rfl ?_)|(with_reducible first|refine zv e1 ?_|refine zv e2 ?_)|refine zs0 ?_|refine zbx ?_ ?_|refine zgx ?_ ?_));(all_goals (try (conv=>whnf)))
 all_goals exact Qan rfl rfl
def Qio (xs:List Nat) (a v:Nat):List Nat:=xs.set (a / 4) (sfN (xs.getD (a / 4) 0) (a%4*8) v)
theorem QkO (xs:List Nat) (n a v:Nat) (hl:xs.length=n) (hn:n<4294967296) (ha:a<4294967296) (hld:ld1 n a=true):Fn Tryz.prog 51 [.s (.sl 0 0 n),.s (.int .u32 a),.s (.int .i64 1),.s (.int .u32 v)] [⟨false,1,wsv xs⟩] (· =⟨.tup [.s (.sl 1 0 n),.s (.bool true)],[],[⟨true,1,wsv (Qio xs a v)⟩]⟩):=by
 have hw:=QdA xs n a hn ha
 rw [hld] at hw
 have hln:=Qfr hld
 have hcl:=QfQ xs n hl (by omega)
 have hg:=Qbf xs (a / 4) (by omega)
 have hsf:=Qhu (xs.getD (a / 4) 0) (a%4*8) v (by omega)
 have hset:=Qbv xs (a / 4) (sfN (xs.getD (a / 4) 0) (a%4*8) v) (by omega)
 have hlw:(wsv xs).length=n:=by simp [hl]
 have hsc:Qau (wsv xs)=true:=Qaa xs
 have hsc2:Qau (wsv (Qio xs a v))=true:=Qaa _
 change QaF _ _ _=wsv (Qio xs a v) at hset
 generalize sfN (xs.getD (a / 4) 0) (a%4*8) v=V at *
 generalize wsv (Qio xs a v)=X2 at *
 generalize xs.getD (a / 4) 0=W at *
 generalize wsv xs=X at *
 refine fnW Tryz.func51 ?_
 (repeat' ((conv=>whnf);first|(intro hb;first|exact zk0 hb|(try (replace hb:=zn0 hb)))|(refine Qal (f:=52) hw [⟨0,0⟩] [(0,⟨false,1,X⟩)] rfl ⟨rfl,trivial⟩ ⟨rfl,Qaw hsc,trivial⟩ ⟨rfl,QdP⟩ ?_)|(refine Qal (f:=23) hcl [⟨0,0⟩] [(0,⟨false,1,X⟩)] rfl ⟨rfl,trivial⟩ ⟨rfl,Qaw hsc,trivial⟩ ⟨rfl,QdP⟩ ?_)|(refine Qag (f:=86) (hsf) rfl ?_)|(apply Sd.mk; · omega)|(apply Sd.mk; · refine ⟨rfl,rfl,rfl,?_⟩;show _≤X.length;simp;omega)|((with_reducible apply Vl.mk (α:=Nat)); · exact ldi a)|((with_reducible apply Ge.mk (α:=SV)); · exact hg)|(with_reducible first|refine zv (Qxg a) ?_|refine zv (QAD a) ?_|refine zv (QAr a) ?_)|((with_reducible apply Vl.mk (α:=List SV)); · with_reducible exact hset)|refine zs0 ?_|refine zbx ?_ ?_|refine zgx ?_ ?_));(all_goals (try (conv=>whnf)))
 all_goals (exact Qa2)
theorem Qdv (x:List Nat) (pc:Nat) (c:List Nat) (cause:Int) (bad:Nat) (hx:x.length=16) (hc:c.length=8) (hcl:∀ y∈c,y<4294967296):Fn Tryz.prog 31 [.agg (Qao x pc c),.s (.int .i64 cause),.s (.int .u32 bad)] [] (· =⟨.a (.agg (QqZ x pc c cause bad)),[],[]⟩):=by
 obtain ⟨x0,x1,x2,x3,x4,x5,x6,x7,x8,x9,x10,x11,x12,x13,x14,x15,rfl⟩:=Qaq hx
 obtain ⟨c0,c1,_,_,_,c5,c6,c7,rfl⟩:=QaJ hc
 have h0:c0<4294967296:=hcl c0 (by simp)
 have m1:=Qmz c0 1 8 h0 (by omega)
 have m2:=Qmz _ 2 16 m1 (by omega)
 have m3:mvN (mvN c0 1 8) 2 16 ||| 1<4294967296:=Nat.or_lt_two_pow (n:=32) m2 (by omega)
 have e1:bits .or .u32 ((mvN (mvN c0 1 8) 2 16:Nat):Int) 1=((mvN (mvN c0 1 8) 2 16 ||| 1:Nat):Int):=Qlq _ 1 m2 (by omega)
 have e2:bits .andNot .u32 ((mvN (mvN c0 1 8) 2 16 ||| 1:Nat):Int) 2=((Qdt c0:Nat):Int):=by rw [← Qre c0 h0];exact Qcj _ 2 m3 (by omega)
 have f1:=QfS c0 1 8 h0 (by omega) (by omega)
 have f2:=QfS (mvN c0 1 8) 2 16 m1 (by omega) (by omega)
 show Fn _ _ [.agg _,_,_] [] (· =⟨.a (.agg (Qao [x0,x1,x2,x3,x4,x5,x6,x7,x8,x9,x10,x11,x12,x13,x14,x15] c1 [Qdt c0,c1,pc,(cause%4294967296).toNat,bad,c5,c6,c7])),[],[]⟩)
 generalize Qdt c0=tS at *
 generalize hM2:mvN (mvN c0 1 8) 2 16=M2 at *
 generalize hM1:mvN c0 1 8=M1 at *
 generalize M2 ||| 1=M3 at *
 refine fnW Tryz.func31 ?_
 (repeat' ((conv=>whnf);first|(intro hb;first|exact zk0 hb|(try (replace hb:=zn0 hb)))|(refine Qag (f:=60) (f1) rfl ?_)|(refine Qag (f:=60) (f2) rfl ?_)|(with_reducible first|refine zv e1 ?_|refine zv e2 ?_|refine zv (QAk _) ?_)|refine zs0 ?_|refine zbx ?_ ?_|refine zgx ?_ ?_));(all_goals (try (conv=>whnf)))
 all_goals exact Qan rfl rfl
theorem Qxl (k z:Nat) (hk:k<4294967296):IntKind.u32.wrap ((k:Int)*(if ((z:Nat):Int) !=0 then 1 else 0))=((if z=0 then 0 else k:Nat):Int):=by
 by_cases h:z=0
 ·subst h;rfl
 ·have h2:((z:Nat):Int)≠0:=by omega
  rw [if_neg h,if_pos (by simpa using h2),Qbo];omega
theorem QbX (x:List Nat) (pc:Nat) (c:List Nat) (cause:Int) (bad:Nat) (hx:x.length=16) (hc:c.length=8) (hcl:∀ y∈c,y<4294967296):Fn Tryz.prog 18 [.agg (Qao x pc c),.s (.int .i64 cause),.s (.int .u32 bad)] [] (· =⟨.a (.agg (QqZ x pc c cause bad)),[],[]⟩):=by
 obtain ⟨_,_,_,_,_,_,_,_,_,_,_,_,_,_,_,_,rfl⟩:=Qaq hx
 obtain ⟨c0,_,_,_,_,_,_,_,rfl⟩:=QaJ hc
 have h0:c0<4294967296:=hcl c0 (by simp)
 have h1:c0 &&& (4294967295-24)<4294967296:=Nat.lt_of_le_of_lt Nat.and_le_left h0
 have i1:(if c0 &&& 1=0 then 0 else 8)<4294967296:=by split<;>omega
 have i2:(if c0 &&& 2=0 then 0 else 16)<4294967296:=by split<;>omega
 have h2:=Nat.or_lt_two_pow (n:=32) h1 i1
 have h3:=Nat.or_lt_two_pow (n:=32) h2 i2
 have h4:=Nat.lt_of_le_of_lt (Nat.and_le_left (m:=4294967295-2)) h3
 have e1:bits .andNot .u32 (c0:Int) 24=((c0 &&& (4294967295-24):Nat):Int):=Qcj c0 24 h0 (by omega)
 have e2:bits .and .u32 (c0:Int) 1=((c0 &&& 1:Nat):Int):=Qjv c0 1 h0 (by omega)
 have e3:bits .and .u32 (c0:Int) 2=((c0 &&& 2:Nat):Int):=Qjv c0 2 h0 (by omega)
 have e4:=Qlq _ _ h1 i1
 have e5:=Qlq _ _ h2 i2
 have e6:bits .andNot .u32 _ 2=_:=Qcj _ 2 h3 (by omega)
 have e7:bits .or .u32 _ 1=_:=Qlq _ 1 h4 (by omega)
 rw [QoK c0 h0] at e7
 have b1:IntKind.u32.wrap (8*(if ((c0 &&& 1:Nat):Int) !=0 then 1 else 0))=((if c0 &&& 1=0 then 0 else 8:Nat):Int):=Qxl 8 _ (by omega)
 have b2:IntKind.u32.wrap (16*(if ((c0 &&& 2:Nat):Int) !=0 then 1 else 0))=((if c0 &&& 2=0 then 0 else 16:Nat):Int):=Qxl 16 _ (by omega)
 refine fnW Tryz.func18 ?_
 (repeat' ((conv=>whnf);first|(intro hb;first|exact zk0 hb|(try (replace hb:=zn0 hb)))|(refine Qag (f:=44) (Qmc _) rfl ?_)|(with_reducible first|refine zv e1 ?_|refine zv e2 ?_|refine zv e3 ?_|refine zv e4 ?_|refine zv e5 ?_|refine zv e6 ?_|refine zv e7 ?_|refine zv b1 ?_|refine zv b2 ?_|refine zv (QAk _) ?_)|refine zs0 ?_|refine zbx ?_ ?_|refine zgx ?_ ?_));(all_goals (try (conv=>whnf)))
 all_goals exact Qan rfl rfl
theorem QuP (x:List Nat) (pc:Nat) (c:List Nat) (hx:x.length=16) (hc:c.length=8) (hcl:∀ y∈c,y<4294967296):Fn Tryz.prog 67 [.agg (Qao x pc c)] [] (· =⟨.a (.agg (Qxd x pc c)),[],[]⟩):=by
 obtain ⟨_,_,_,_,_,_,_,_,_,_,_,_,_,_,_,_,rfl⟩:=Qaq hx
 obtain ⟨c0,_,_,_,_,_,_,_,rfl⟩:=QaJ hc
 have h0:c0<4294967296:=hcl c0 (by simp)
 have m1:=Qmz c0 8 1 h0 (by omega)
 have e1:mvN (mvN c0 8 1) 16 2=Qfe c0:=QuO c0 h0
 have f2:=QfS (mvN c0 8 1) 16 2 m1 (by omega) (by omega)
 rw [e1] at f2
 refine fnW Tryz.func67 ?_
 (repeat' ((conv=>whnf);first|(intro hb;first|exact zk0 hb|(try (replace hb:=zn0 hb)))|(refine Qag (f:=60) (QfS c0 8 1 h0 (by omega) (by omega)) rfl ?_)|(refine Qag (f:=60) (f2) rfl ?_)|refine zs0 ?_|refine zbx ?_ ?_|refine zgx ?_ ?_));(all_goals (try (conv=>whnf)))
 all_goals exact Qan rfl rfl
theorem QtE (x:List Nat) (pc:Nat) (c:List Nat) (hx:x.length=16) (hc:c.length=8) (hcl:∀ y∈c,y<4294967296):Fn Tryz.prog 91 [.agg (Qao x pc c)] [] (· =⟨.a (.agg (Qxd x pc c)),[],[]⟩):=by
 obtain ⟨_,_,_,_,_,_,_,_,_,_,_,_,_,_,_,_,rfl⟩:=Qaq hx
 obtain ⟨c0,_,_,_,_,_,_,_,rfl⟩:=QaJ hc
 have h0:c0<4294967296:=hcl c0 (by simp)
 have h1:c0 &&& (4294967295-3)<4294967296:=Nat.lt_of_le_of_lt Nat.and_le_left h0
 have i1:(if c0 &&& 8=0 then 0 else 1)<4294967296:=by split<;>omega
 have i2:(if c0 &&& 16=0 then 0 else 2)<4294967296:=by split<;>omega
 have h2:=Nat.or_lt_two_pow (n:=32) h1 i1
 have e1:bits .andNot .u32 (c0:Int) 3=((c0 &&& (4294967295-3):Nat):Int):=Qcj c0 3 h0 (by omega)
 have e2:bits .and .u32 (c0:Int) 8=((c0 &&& 8:Nat):Int):=Qjv c0 8 h0 (by omega)
 have e3:bits .and .u32 (c0:Int) 16=((c0 &&& 16:Nat):Int):=Qjv c0 16 h0 (by omega)
 have e4:=Qlq _ _ h1 i1
 have e5:=Qlq _ _ h2 i2
 rw [QqY c0 h0] at e5
 have b1:IntKind.u32.wrap (1*(if ((c0 &&& 8:Nat):Int) !=0 then 1 else 0))=((if c0 &&& 8=0 then 0 else 1:Nat):Int):=Qxl 1 _ (by omega)
 have b2:IntKind.u32.wrap (2*(if ((c0 &&& 16:Nat):Int) !=0 then 1 else 0))=((if c0 &&& 16=0 then 0 else 2:Nat):Int):=Qxl 2 _ (by omega)
 refine fnW Tryz.func91 ?_
 (repeat' ((conv=>whnf);first|(intro hb;first|exact zk0 hb|(try (replace hb:=zn0 hb)))|(refine Qag (f:=44) (Qmc _) rfl ?_)|(with_reducible first|refine zv e1 ?_|refine zv e2 ?_|refine zv e3 ?_|refine zv e4 ?_|refine zv e5 ?_|refine zv b1 ?_|refine zv b2 ?_)|refine zs0 ?_|refine zbx ?_ ?_|refine zgx ?_ ?_));(all_goals (try (conv=>whnf)))
 all_goals exact Qan rfl rfl
def wrC (x:List Nat) (pc:Nat) (c:List Nat) (csr:Int) (v:Nat):List SV :=
 if csr=0 then Qao x pc (c.set 0 (v%32)) else if csr=7 then Qao x pc (c.set 7 (v%32)) else if csr=6 then Qao x pc (c.set 6 (v%256))
 else if csr=1 then Qao x pc (c.set 1 (v &&& (4294967295-3))) else if csr=2 then Qao x pc (c.set 2 (v &&& (4294967295-3)))
 else if csr=3 then Qao x pc (c.set 3 v) else if csr=4 then Qao x pc (c.set 4 v) else if csr=5 then Qao x pc (c.set 5 v) else Qao x pc c
theorem Qo3 (x:List Nat) (pc:Nat) (c:List Nat) (csr:Int) (v:Nat) (hx:x.length=16) (hc:c.length=8) (hv:v<4294967296):Fn Tryz.prog 68 [.agg (Qao x pc c),.s (.int .i64 csr),.s (.int .u32 v)] [] (· =⟨.a (.agg (wrC x pc c csr v)),[],[]⟩):=by
 obtain ⟨_,_,_,_,_,_,_,_,_,_,_,_,_,_,_,_,rfl⟩:=Qaq hx
 obtain ⟨_,_,_,_,_,_,_,_,rfl⟩:=QaJ hc
 have e1:bits .and .u32 (v:Int) 31=((v%32:Nat):Int):=Qbu v 5 hv (by omega)
 have e2:bits .and .u32 (v:Int) 255=((v%256:Nat):Int):=Qbu v 8 hv (by omega)
 have e3:bits .andNot .u32 (v:Int) 3=((v &&& (4294967295-3):Nat):Int):=Qcj v 3 hv (by omega)
 have hcs:(csr=0∨csr=1∨csr=2∨csr=3∨csr=4∨csr=5∨csr=6∨csr=7)∨(csr<0∨7<csr):=by omega
 rcases hcs with (rfl|rfl|rfl|rfl|rfl|rfl|rfl|rfl)|hcs
 rotate_right
 ·have e:∀ x pc c,wrC x pc c csr v=Qao x pc c:=fun x pc c=>by
   unfold wrC;repeat rw [if_neg (by omega)]
  rw [e]
  refine fnW Tryz.func68 ?_
  (repeat' ((conv=>whnf);first|(intro hb;first|exact zk0 hb|(try (replace hb:=zn0 hb)))|refine zs0 ?_|refine zbx ?_ ?_|refine zgx ?_ ?_));(all_goals (try (conv=>whnf)))
  all_goals exact Qan rfl rfl
 all_goals
  refine fnW Tryz.func68 ?_
  (repeat' ((conv=>whnf);first|(intro hb;first|exact zk0 hb|(try (replace hb:=zn0 hb)))|(with_reducible first|refine zv e1 ?_|refine zv e2 ?_|refine zv e3 ?_)|refine zs0 ?_|refine zbx ?_ ?_|refine zgx ?_ ?_));(all_goals (try (conv=>whnf)))
  all_goals exact Qan rfl rfl
theorem Qkj (x:List Nat) (pc:Nat) (c:List Nat) (csr:Int) (v:Nat) (hx:x.length=16) (hc:c.length=8) (hv:v<4294967296):Fn Tryz.prog 92 [.agg (Qao x pc c),.s (.int .i64 csr),.s (.int .u32 v)] [] (· =⟨.a (.agg (wrC x pc c csr v)),[],[]⟩):=by
 obtain ⟨_,_,_,_,_,_,_,_,_,_,_,_,_,_,_,_,rfl⟩:=Qaq hx
 obtain ⟨_,_,_,_,_,_,_,_,rfl⟩:=QaJ hc
 have e1:bits .and .u32 (v:Int) 31=((v%32:Nat):Int):=Qbu v 5 hv (by omega)
 have e2:bits .and .u32 (v:Int) 255=((v%256:Nat):Int):=Qbu v 8 hv (by omega)
 have e3:bits .andNot .u32 (v:Int) 3=((v &&& (4294967295-3):Nat):Int):=Qcj v 3 hv (by omega)
 have hcs:(csr=0∨csr=1∨csr=2∨csr=3∨csr=4∨csr=5∨csr=6∨csr=7)∨(csr<0∨7<csr):=by omega
 rcases hcs with (rfl|rfl|rfl|rfl|rfl|rfl|rfl|rfl)|hcs
 rotate_right
 ·have e:∀ x pc c,wrC x pc c csr v=Qao x pc c:=fun x pc c=>by
   unfold wrC;repeat rw [if_neg (by omega)]
  rw [e]
  refine fnW Tryz.func92 ?_
  (repeat' ((conv=>whnf);first|(intro hb;first|exact zk0 hb|(try (replace hb:=zn0 hb)))|refine zs0 ?_|refine zbx ?_ ?_|refine zgx ?_ ?_));(all_goals (try (conv=>whnf)))
  all_goals exact Qan rfl rfl
 all_goals
  refine fnW Tryz.func92 ?_
  (repeat' ((conv=>whnf);first|(intro hb;first|exact zk0 hb|(try (replace hb:=zn0 hb)))|(with_reducible first|refine zv e1 ?_|refine zv e2 ?_|refine zv e3 ?_)|refine zs0 ?_|refine zbx ?_ ?_|refine zgx ?_ ?_));(all_goals (try (conv=>whnf)))
  all_goals exact Qan rfl rfl
theorem Qae (x:List Nat) (pc:Nat) (c:List Nat):Qau (Qao x pc c)=true:=QaI (Qaa x) (Qaa c)
def Qm3:List SK:= [.int,.int,.int,.int,.int,.int,.int,.int,.int,.int,.int,.int,.int,.int,.int,.int,.int,.int,.int,.int,.int,.int,.int,.int,.int]
theorem Qnx (x:List Nat) (pc:Nat) (c:List Nat) (hx:x.length=16) (hc:c.length=8):Qar Qm3 (Qao x pc c) (Qao x pc c)=some true:=by
 obtain ⟨_,_,_,_,_,_,_,_,_,_,_,_,_,_,_,_,rfl⟩:=Qaq hx
 obtain ⟨_,_,_,_,_,_,_,_,rfl⟩:=QaJ hc
 simp [Qao,wsv,Qm3,Qar,eqS,kEq]
def acB (s:Int) (n a:Nat):Bool:=if s=4 then ld4 n a else ld1 n a
def Qjj (s:Nat):Bool:=decide (s%2=0∧s / 4%2=1)
def szB (sz:Int):Bool:=decide (sz=1∨sz=4)
def rsO (xs:List Nat) (n s r va:Nat) (sz ac:Int):Bool:=QcY ac&&szB sz&&decide ((va:Int)%sz=0)&&(if Qjj s=true then Qfv xs n r va ac else acB sz n va)
def rsA (xs:List Nat) (n s r va:Nat) (sz ac:Int):Nat:=if rsO xs n s r va sz ac=true then (if Qjj s=true then frW (Qa9 xs r va)*128+va%128 else va) else 0
def rsM (xs:List Nat) (n s r va:Nat) (sz ac:Int):List Nat:=if rsO xs n s r va sz ac=true∧Qjj s=true then xs.set (Qbc r va / 4) (Qfg (xs.getD (Qbc r va / 4) 0) ac) else xs
def rsK (xs:List Nat) (n s r va:Nat) (sz ac:Int):Int:=if rsO xs n s r va sz ac=true then 0 else if QcY ac=false∨szB sz=false then 5 else if (va:Int)%sz=0 then Qcn ac else 3
theorem Qa4 (xs:List Nat) (n s r va:Nat) (sz ac:Int):(rsM xs n s r va sz ac).length=xs.length:=by unfold rsM;split<;>simp
theorem Qcl (xs:List Nat) (n s r va:Nat) (sz ac:Int) (h:∀ y∈xs,y<4294967296):∀ y∈rsM xs n s r va sz ac,y<4294967296:=by
 unfold rsM
 split
 ·intro y hy
  rcases List.mem_or_eq_of_mem_set hy with h1|h1
  ·exact h y h1
  ·rw [h1];exact Qry _ _ (Qad h _)
 ·exact h
theorem Qkp (ac:Int):Fn Tryz.prog 22 [.s (.int .i64 ac)] [] (· =⟨.tup [.s (.int .i64 (Qcn ac)),.s (.bool (QcY ac))],[],[]⟩):=by
 refine fnW Tryz.func22 ?_
 (repeat' ((conv=>whnf);first|(intro hb;first|exact zk0 hb|(try (replace hb:=zn0 hb)))|refine zs0 ?_|refine zbx ?_ ?_|refine zgx ?_ ?_));(all_goals (try (conv=>whnf)))
 all_goals first
  | (subst hb;exact Qan rfl rfl)
  | (
    have e1:Qcn ac=5:=by unfold Qcn;rw [if_neg (by omega),if_neg (by omega)]
    have e2:QcY ac=false:=by unfold QcY;exact decide_eq_false (by omega)
    rw [e1,e2]
    exact Qan rfl rfl)
 
theorem QmG (a:Nat) (ha:a<4294967296):bits .and .u32 (a:Int) 1=((a%2:Nat):Int):=Qbu a 1 ha (by omega)
theorem Qv0 (a:Nat) (ha:a<4294967296):bits .and .u32 (a:Int) 4=((a / 4%2*4:Nat):Int):=by
 rw [show ((4:Int))=((4:Nat):Int) from rfl,Qex a 4 ha (by omega)]
 congr 1
 apply Nat.eq_of_testBit_eq
 intro i
 rw [Nat.testBit_and,show a / 4%2*4=2^2*(a / 4%2) by omega,Nat.testBit_two_pow_mul]
 by_cases h:i=2
 ·subst h
  rw [show Nat.testBit 4 2=true by decide,Bool.and_true]
  simp only [Nat.testBit,Nat.shiftRight_eq_div_pow,Nat.one_and_eq_mod_two]
  simp
 ·have h4:Nat.testBit 4 i=false:=by
   rw [show (4:Nat)=2^2 by rfl,Nat.testBit_two_pow]
   exact decide_eq_false (fun e=>h e.symm)
  rw [h4,Bool.and_false]
  by_cases h2:2≤i
  ·rw [decide_eq_true h2,Bool.true_and]
   have:a / 4%2<2^(i-2):=Nat.lt_of_lt_of_le (Nat.mod_lt _ (by decide)) (by
    calc 2=2^1:=rfl
     _≤2^(i-2):=Nat.pow_le_pow_right (by decide) (by omega))
   exact (Nat.testBit_lt_two_pow this).symm
  ·rw [decide_eq_false h2,Bool.false_and]
theorem Qg2 (x:List Nat) (pc:Nat) (c:List Nat) (hx:x.length=16) (hc:c.length=8) (h0:c.getD 0 0<4294967296):Fn Tryz.prog 24 [.agg (Qao x pc c)] [] (· =⟨.a (.s (.bool (((c.getD 0 0%2:Nat):Int) !=0))),[],[]⟩):=by
 obtain ⟨_,_,_,_,_,_,_,_,_,_,_,_,_,_,_,_,rfl⟩:=Qaq hx
 obtain ⟨c0,_,_,_,_,_,_,_,rfl⟩:=QaJ hc
 have e:=QmG c0 h0
 refine fnW Tryz.func24 ?_
 (repeat' ((conv=>whnf);first|(intro hb;first|exact zk0 hb|(try (replace hb:=zn0 hb)))|(with_reducible refine zv e ?_)|refine zs0 ?_|refine zbx ?_ ?_|refine zgx ?_ ?_));(all_goals (try (conv=>whnf)))
 all_goals exact Qan rfl rfl
theorem QoE (xs:List Nat) (n a:Nat) (sz:Int) (hsz:sz=1∨sz=4) (hl:xs.length=n) (hxr:∀ y∈xs,y<4294967296) (hn:n<4294967296) (ha:a<4294967296):∃ V:Nat,
  Fn Tryz.prog 27 [.s (.sl 0 0 n),.s (.int .u32 a),.s (.int .i64 sz)] [⟨false,1,wsv xs⟩] (· =⟨.tup [.s (.int .u32 V),.s (.bool (acB sz n a))],[],[]⟩):=by
 rcases hsz with rfl|rfl
 ·cases h:ld1 n a with
  | true =>
   rw [show acB 1 n a=true from h]
   exact ⟨_,QiG xs n a hl hxr hn ha h⟩
  | false =>
   refine ⟨0,?_⟩
   rw [show acB 1 n a=false from h]
   have hw:=QdA xs n a hn ha
   rw [h] at hw
   have hs:=Qaa xs
   generalize wsv xs=XX at *
   refine fnW Tryz.func27 ?_
   (repeat' ((conv=>whnf);first|(intro hb;first|exact zk2 hb|(try (replace hb:=zn0 hb)))|(refine Qay hw ?_)|refine zst ?_|refine zbx ?_ ?_|refine zgx ?_ ?_|refine eqR ?_));(all_goals (try (conv=>whnf)))
   all_goals exact Qbr
 ·exact ⟨_,QiP xs n a hl hn ha⟩
theorem Qai (x:List Nat) (pc:Nat) (c:List Nat) (hx:x.length=16) (hc:c.length=8):(Qao x pc c).length=25:=by
 unfold Qao wsv;simp [hx,hc]
theorem Qgz {l l':List SV} (h:Qat l=true) (h':Qat l'=true):Qat (l++l')=true:=by
 induction l with
 | nil=>exact h'
 | cons a l ih =>
  cases a<;>first|exact ih h|cases h
theorem Qab (x:List Nat) (pc:Nat) (c:List Nat):Qat (Qao x pc c)=true:=Qgz (QbB x) (QbB c)
theorem Qak (x:List Nat) (pc:Nat) (c:List Nat) (A:Nat) (hx:x.length=16) (hA:A<16):(Qao x pc c)[A]?=some (.int .u32 (x.getD A 0:Nat)):=by
 unfold Qao
 rw [List.getElem?_append_left (by rw [wsv_length];omega)]
 exact Qbf x A (by omega)
theorem Qas (x:List Nat) (pc:Nat) (c:List Nat) (hx:x.length=16):(Qao x pc c)[16]?=some (.int .u32 (pc:Nat)):=by
 unfold Qao
 rw [List.getElem?_append_right (by rw [wsv_length];omega),wsv_length,hx];rfl
theorem Qct (x:List Nat) (pc:Nat) (c:List Nat) (m:Nat) (hx:x.length=16) (hc:c.length=8) (hm:m<8):(Qao x pc c)[17+m]?=some (.int .u32 (c.getD m 0:Nat)):=by
 unfold Qao
 rw [List.getElem?_append_right (by rw [wsv_length];omega),wsv_length,hx,show 17+m-16=m+1 by omega,List.getElem?_cons_succ]
 exact Qbf c m (by omega)
theorem Qbt {c l:List SV} (h:c.length=l.length):QaF c 0 l=l:=Qhj (by rw [h];exact Nat.beq_refl _)
theorem Qfo (x:List Nat) (pc:Nat) (c:List Nat) (A v:Nat) (hx:x.length=16) (hA:A<16):QaF (Qao x pc c) A [.int .u32 (v:Nat)]=Qao (x.set A v) pc c:=by
 show (Qao x pc c).set A _=_
 unfold Qao
 rw [List.set_append_left _ _ (by rw [wsv_length];omega)]
 congr 1
 exact Qbv x A v (by omega)
theorem QaB (x:List Nat) (pc:Nat) (c:List Nat) (v:Nat) (hx:x.length=16):QaF (Qao x pc c) 16 [.int .u32 (v:Nat)]=Qao x v c:=by
 show (Qao x pc c).set 16 _=_
 unfold Qao
 rw [List.set_append_right _ _ (by rw [wsv_length];omega),wsv_length,hx];rfl
theorem QjG (x:List Nat) (pc:Nat) (c:List Nat) (m v:Nat) (hx:x.length=16) (hc:c.length=8) (hm:m<8):QaF (Qao x pc c) (17+m) [.int .u32 (v:Nat)]=Qao x pc (c.set m v):=by
 show (Qao x pc c).set (17+m) _=_
 unfold Qao
 rw [List.set_append_right _ _ (by rw [wsv_length];omega),wsv_length,hx,show 17+m-16=m+1 by omega,List.set_cons_succ]
 congr 2
 exact Qbv c m v (by omega)
theorem QpW {xs:List Nat} {n r va:Nat} {ac:Int} (h:Qfv xs n r va ac=true) (hn:n<4294967296):ld4 n (Qbc r va)=true∧Qbc r va<4294967296∧r<32:=by
 unfold Qfv at h
 simp only [Bool.and_eq_true,decide_eq_true_eq] at h
 have:=Qbe n
 unfold ld4 Qbc
 simp only [Bool.and_eq_true,decide_eq_true_eq]
 omega
theorem Qce (x:List Nat) (pc:Nat) (c:List Nat) (xs:List Nat) (n va:Nat) (sz ac:Int) (hx:x.length=16) (hc:c.length=8) (hcl:∀ y∈c,y<4294967296) (hl:xs.length=n) (hxr:∀ y∈xs,y<4294967296) (hn:n<4294967296) (hva:va<4294967296) :
  Fn Tryz.prog 9 [.agg (Qao x pc c),.s (.sl 0 0 n),.s (.int .u32 va),.s (.int .i64 sz),.s (.int .i64 ac)] [⟨false,1,wsv xs⟩]
   (· =⟨.tup [.s (.int .u32 (rsA xs n (c.getD 0 0) (c.getD 6 0) va sz ac:Nat)),.s (.sl 1 0 n),.s (.int .i64 (rsK xs n (c.getD 0 0) (c.getD 6 0) va sz ac))],[],[⟨true,1,wsv (rsM xs n (c.getD 0 0) (c.getD 6 0) va sz ac)⟩]⟩):=by
 have hs:=Qad hcl 0
 have hr:=Qad hcl 6
 have hk:=Qg2 x pc c hx hc hs
 have g0:=Qct x pc c 0 hx hc (by decide)
 have g6:=Qct x pc c 6 hx hc (by decide)
 have hCl:=Qai x pc c hx hc
 have hCs:=Qae x pc c
 have hCk:=Qab x pc c
 have hcc:=Qkp ac
 have hcl2:=QfQ xs n hl (by omega)
 have b4:=Qv0 (c.getD 0 0) hs
 generalize c.getD 0 0=S at *
 generalize c.getD 6 0=R at *
 generalize Qao x pc c=C at *
 have hw:=QoL xs n R va ac hl hn hxr hr hva
 have hsx:=Qaa xs
 clear hcl hx hc
 by_cases hkn:QcY ac=true∧szB sz=true
 case neg =>
  have e1:rsO xs n S R va sz ac=false:=by
   unfold rsO
   cases h:QcY ac with
   | false=>rfl
   | true =>
    cases h2:szB sz with
    | false=>rfl
    | true=>exact absurd ⟨h,h2⟩ hkn
  have e2:QcY ac=false∨szB sz=false:=by
   cases h:QcY ac with
   | false=>exact .inl rfl
   | true =>
    cases h2:szB sz with
    | false=>exact .inr rfl
    | true=>exact absurd ⟨h,h2⟩ hkn
  rw [show rsA xs n S R va sz ac=0 by unfold rsA;rw [e1];rfl,show rsM xs n S R va sz ac=xs by unfold rsM;rw [e1];exact if_neg (fun h=>by cases h.1),show rsK xs n S R va sz ac=5 by unfold rsK;rw [e1,if_neg (by decide),if_pos e2]]
  have hz:szB sz=false→sz≠1∧sz≠4:=fun h=>by unfold szB at h;simpa using h
  generalize QcY ac=kb at *
  generalize wsv xs=XX at *
  cases kb with
  | false =>
   clear hw hz
   refine fnW Tryz.func9 ?_
   (repeat' ((conv=>whnf);first|(intro hb;first|exact zk2 hb|(try (replace hb:=zn0 hb)))|(refine zpu hcc ?_)|(refine Qay hcl2 ?_)|refine zst ?_|refine zbx ?_ ?_|refine zgx ?_ ?_|refine eqR ?_));(all_goals (try (conv=>whnf)))
   all_goals first|(exfalso;simp at hb;done)|(exact Qa2)
  | true =>
   obtain ⟨z1,z2⟩:=hz (by rcases e2 with h|h;cases h;exact h)
   clear hw
   refine fnW Tryz.func9 ?_
   (repeat' ((conv=>whnf);first|(intro hb;first|exact zk2 hb|(try (replace hb:=zn0 hb)))|(refine zpu hcc ?_)|(refine Qay hcl2 ?_)|refine zst ?_|refine zbx ?_ ?_|refine zgx ?_ ?_|refine eqR ?_));(all_goals (try (conv=>whnf)))
   all_goals first|(exfalso;simp at hb;done)|(exfalso;omega)|(exact Qa2)
 obtain ⟨k1,k2⟩:=hkn
 rw [k1] at hcc
 have hsz:sz=1∨sz=4:=by unfold szB at k2;simpa using k2
 by_cases hal:(va:Int)%sz=0
 case neg =>
  have e1:rsO xs n S R va sz ac=false:=by unfold rsO;rw [decide_eq_false hal,Bool.and_false];rfl
  rw [show rsA xs n S R va sz ac=0 by unfold rsA;rw [e1];rfl,show rsM xs n S R va sz ac=xs by unfold rsM;rw [e1];exact if_neg (fun h=>by cases h.1),show rsK xs n S R va sz ac=3 by unfold rsK;rw [e1,if_neg (by decide),if_neg (by rw [k1,k2];simp),if_neg hal]]
  obtain rfl:sz=4:=by rcases hsz with rfl|rfl;omega;rfl
  have m1:Int.tmod (va:Int) 4=((va%4:Nat):Int):=by rw [Int.tmod_eq_emod_of_nonneg (by omega)];omega
  have m2:va%4≠0:=by omega
  generalize va%4=va4 at *
  generalize wsv xs=XX at *
  clear hw
  refine fnW Tryz.func9 ?_
  (repeat' ((conv=>whnf);first|(intro hb;first|exact zk2 hb|(try (replace hb:=zn0 hb)))|(with_reducible refine zv m1 ?_)|(refine zpu hcc ?_)|(refine Qay hcl2 ?_)|refine zst ?_|refine zbx ?_ ?_|refine zgx ?_ ?_|refine eqR ?_));(all_goals (try (conv=>whnf)))
  all_goals first|(exfalso;simp at hb;done)|(exfalso;omega)|(exact Qa2)
 obtain ⟨V,hlo⟩:=QoE xs n va sz hsz hl hxr hn hva
 have m0:Int.tmod (va:Int) sz=0:=by rw [Int.tmod_eq_emod_of_nonneg (by omega)];exact hal
 cases hpg:Qjj S with
 | true =>
  obtain ⟨p1,p2⟩:S%2=0∧S / 4%2=1:=by unfold Qjj at hpg;simpa using hpg
  rw [p1] at hk
  replace b4:bits .and .u32 (S:Int) 4=4:=b4.trans (by rw [p2];rfl)
  cases hok:Qfv xs n R va ac with
  | false =>
   have e1:rsO xs n S R va sz ac=false:=by unfold rsO;rw [hpg,hok];simp
   rw [show rsA xs n S R va sz ac=0 by unfold rsA;rw [e1];rfl,show rsM xs n S R va sz ac=xs by unfold rsM;rw [e1];exact if_neg (fun h=>by cases h.1),show rsK xs n S R va sz ac=Qcn ac by unfold rsK;rw [e1,if_neg (by decide),if_neg (by rw [k1,k2];simp),if_pos hal]]
   unfold Qho at hw
   rw [hok,if_neg (by decide)] at hw
   have hcz:Qcn ac≠0:=by unfold Qcn;split;omega;split<;>omega
   generalize Qcn ac=cz at *
   generalize wsv xs=XX at *
   rcases hsz with rfl|rfl
   all_goals
    refine fnW Tryz.func9 ?_
    (repeat' ((conv=>whnf);first|(intro hb;first|exact zk2 hb|(try (replace hb:=zn0 hb)))|(with_reducible first|refine zv m0 ?_|refine zv b4 ?_)|((with_reducible apply Ge.mk (α:=SV)); · first|exact g0|exact g6)|(apply Sg.mk; · exact Qaj C hCl)|(refine zpu hcc ?_)|(refine zpu hk ?_)|(refine Qay hw ?_)|(refine Qay hcl2 ?_)|refine zst ?_|refine zbx ?_ ?_|refine zgx ?_ ?_|refine eqR ?_));(all_goals (try (conv=>whnf)))
    all_goals first|(exfalso;simp at hb;done)|(exfalso;omega)|(exact Qa2)
  | true =>
   have e1:rsO xs n S R va sz ac=true:=by unfold rsO;rw [hpg,hok,k1,k2,decide_eq_true hal];rfl
   obtain ⟨l1,l2,l3⟩:=QpW hok hn
   have htc:=Qlp xs n (Qbc R va) ac hl hn hxr l2 l1
   rw [show rsA xs n S R va sz ac=frW (Qa9 xs R va)*128+va%128 by unfold rsA;rw [e1,if_pos rfl,hpg,if_pos rfl],show rsM xs n S R va sz ac=xs.set (Qbc R va / 4) (Qfg (xs.getD (Qbc R va / 4) 0) ac) by unfold rsM;rw [e1,hpg];exact if_pos ⟨rfl,rfl⟩,show rsK xs n S R va sz ac=0 by unfold rsK;rw [e1,if_pos rfl]]
   unfold Qho at hw
   rw [hok,if_pos rfl] at hw
   have hs2:=Qaa (xs.set (Qbc R va / 4) (Qfg (xs.getD (Qbc R va / 4) 0) ac))
   generalize wsv (xs.set (Qbc R va / 4) (Qfg (xs.getD (Qbc R va / 4) 0) ac))=X2 at *
   generalize Qbc R va=E at *
   generalize frW (Qa9 xs R va)*128+va%128=AA at *
   generalize Qcn ac=cz at *
   generalize wsv xs=XX at *
   rcases hsz with rfl|rfl
   all_goals
    refine fnW Tryz.func9 ?_
    (repeat' ((conv=>whnf);first|(intro hb;first|exact zk2 hb|(try (replace hb:=zn0 hb)))|(with_reducible first|refine zv m0 ?_|refine zv b4 ?_)|((with_reducible apply Ge.mk (α:=SV)); · first|exact g0|exact g6)|(apply Sg.mk; · exact Qaj C hCl)|(refine zpu hcc ?_)|(refine zpu hk ?_)|(refine Qay hw ?_)|(refine Qay hcl2 ?_)|(refine Qay htc ?_)|refine zst ?_|refine zbx ?_ ?_|refine zgx ?_ ?_|refine eqR ?_));(all_goals (try (conv=>whnf)))
    all_goals first|(exfalso;simp at hb;done)|(exfalso;omega)|(exact Qa2)
 | false =>
  have hnp:S%2=1∨(S%2=0∧S / 4%2=0):=by unfold Qjj at hpg;simp at hpg;omega
  have eM:rsM xs n S R va sz ac=xs:=by unfold rsM;rw [hpg];exact if_neg (fun h=>by cases h.2)
  have eO:rsO xs n S R va sz ac=acB sz n va:=by unfold rsO;rw [hpg,k1,k2,decide_eq_true hal];simp
  have eA:rsA xs n S R va sz ac=if acB sz n va=true then va else 0:=by unfold rsA;rw [eO,hpg];simp
  have eK:rsK xs n S R va sz ac=if acB sz n va=true then 0 else Qcn ac:=by unfold rsK;rw [eO,if_neg (c:=QcY ac=false∨szB sz=false) (by rw [k1,k2];simp),if_pos hal]
  rw [eM,eA,eK]
  clear eM eO eA eK hw
  generalize Qcn ac=cz at *
  generalize acB sz n va=ok at *
  generalize wsv xs=XX at *
  cases ok<;>rcases hnp with p1|⟨p1,p2⟩<;>rcases hsz with rfl|rfl
  all_goals
   rw [p1] at hk
   try (replace b4:bits .and .u32 (S:Int) 4=0:=b4.trans (by rw [p2];rfl))
   refine fnW Tryz.func9 ?_
   (repeat' ((conv=>whnf);first|(intro hb;first|exact zk2 hb|(try (replace hb:=zn0 hb)))|(with_reducible first|refine zv m0 ?_|refine zv b4 ?_)|((with_reducible apply Ge.mk (α:=SV)); · first|exact g0|exact g6)|(apply Sg.mk; · exact Qaj C hCl)|(refine zpu hcc ?_)|(refine zpu hk ?_)|(refine Qay hlo ?_)|(refine Qay hcl2 ?_)|refine zst ?_|refine zbx ?_ ?_|refine zgx ?_ ?_|refine eqR ?_));(all_goals (try (conv=>whnf)))
   all_goals first|(exfalso;simp at hb;done)|(exfalso;omega)|(exact Qa2)
def w32 (z:Int):Nat:=(z%4294967296).toNat
theorem Qav (z:Int):IntKind.u32.wrap z=((w32 z:Nat):Int):=QAk z
theorem Qax (z:Int):w32 z<4294967296:=by unfold w32;omega
def QaE (x:List Nat) (r v:Nat):List Nat:=if r=0 then x else x.set r v
theorem Qap (x:List Nat) (r v:Nat):(QaE x r v).length=x.length:=by unfold QaE;split<;>simp
theorem Qbw {xs:List Nat} (h:∀ y∈xs,y<4294967296) (j w:Nat) (hw:w<4294967296):∀ y∈xs.set j w,y<4294967296:=fun y hy=>by
 rcases List.mem_or_eq_of_mem_set hy with h1|h1
 ·exact h y h1
 ·omega
theorem Qc5 {x:List Nat} (h:∀ y∈x,y<4294967296) (r v:Nat) (hv:v<4294967296):∀ y∈QaE x r v,y<4294967296:=by
 unfold QaE;split
 ·exact h
 ·exact Qbw h r v hv
def wrL (c:List Nat) (csr:Int) (v:Nat):List Nat :=
 if csr=0 then c.set 0 (v%32) else if csr=7 then c.set 7 (v%32) else if csr=6 then c.set 6 (v%256)
 else if csr=1 then c.set 1 (v &&& (4294967295-3)) else if csr=2 then c.set 2 (v &&& (4294967295-3))
 else if csr=3 then c.set 3 v else if csr=4 then c.set 4 v else if csr=5 then c.set 5 v else c
theorem Qqx (x:List Nat) (pc:Nat) (c:List Nat) (csr:Int) (v:Nat):wrC x pc c csr v=Qao x pc (wrL c csr v):=by
 unfold wrC wrL
 repeat' split
 all_goals rfl
theorem QeJ (c:List Nat) (csr:Int) (v:Nat):(wrL c csr v).length=c.length:=by
 unfold wrL
 repeat' split
 all_goals simp
theorem Qu2 {c:List Nat} (h:∀ y∈c,y<4294967296) (csr:Int) (v:Nat) (hv:v<4294967296):∀ y∈wrL c csr v,y<4294967296:=by
 have:=Nat.and_le_left (n:=v) (m:=4294967295-3)
 unfold wrL
 repeat' split
 all_goals first|exact h|exact Qbw h _ _ (by omega)
def trL (pc:Nat) (c:List Nat) (cause:Int) (bad:Nat):List Nat:= [Qdt (c.getD 0 0),c.getD 1 0,pc,w32 cause,bad,c.getD 5 0,c.getD 6 0,c.getD 7 0]
theorem Qbh (x:List Nat) (pc:Nat) (c:List Nat) (cause:Int) (bad:Nat):QqZ x pc c cause bad=Qao x (c.getD 1 0) (trL pc c cause bad):=rfl
theorem QeL {c:List Nat} (h:∀ y∈c,y<4294967296) (pc:Nat) (hpc:pc<4294967296) (cause:Int) (bad:Nat) (hb:bad<4294967296):∀ y∈trL pc c cause bad,y<4294967296:=fun y hy=>by
 have g:=Qad h
 have:=Qnd _ (g 0)
 have:=Qax cause
 have:=g 1
 have:=g 5
 have:=g 6
 have:=g 7
 simp only [trL,List.mem_cons,List.not_mem_nil,or_false] at hy
 omega
def Qfu (o:Int) (a b:Nat):Bool :=
 if o=40 then decide (a=b) else if o=41 then decide (a≠b) else if o=42 then decide (sgn a<sgn b) else if o=43 then decide (sgn b≤sgn a) else if o=44 then decide (a<b) else decide (b≤a)
def exX (x:List Nat) (pc:Nat) (c:List Nat) (o:Int) (A B C:Nat) (m:Int):List Nat :=
 if 1≤o∧o≤13 then QaE x A (Qb7 o (x.getD B 0) (x.getD C 0))
 else if 16≤o∧o≤23 then QaE x A (Qb7 o (x.getD B 0) (w32 m))
 else if o=24 then QaE x A (w32 ((w32 m:Nat)*65536))
 else if o=48∨o=49 then QaE x A (w32 ((pc:Int)+4))
 else if o=58 then QaE x A (c.getD m.toNat 0)
 else x
def exP (x:List Nat) (pc:Nat) (c:List Nat) (o:Int) (A B:Nat) (m:Int):Nat :=
 if 40≤o∧o≤45 then (if Qfu o (x.getD A 0) (x.getD B 0)=true then w32 ((pc:Int)+w32 (4*(w32 m:Nat))) else w32 ((pc:Int)+4))
 else if o=48 then w32 ((pc:Int)+w32 (4*(w32 m:Nat)))
 else if o=49 then w32 ((x.getD B 0:Nat)+(w32 m:Nat))
 else if o=56 then c.getD 1 0 else if o=57 then c.getD 2 0 else w32 ((pc:Int)+4)
def exC (x:List Nat) (pc:Nat) (c:List Nat) (o:Int) (A:Nat) (m:Int):List Nat :=
 if o=56 then trL pc c 7 0 else if o=57 then c.set 0 (Qfe (c.getD 0 0)) else if o=59 then wrL c m (x.getD A 0) else c
def exE (x:List Nat) (o:Int) (A:Nat) (m:Int):List SV :=
 if o=60 then [.int .i64 1,.int .i64 m,.int .i64 (A:Nat),.int .u32 (0:Nat)]
 else if o=61 then [.int .i64 2,.int .i64 m,.int .i64 0,.int .u32 (x.getD A 0:Nat)]
 else if o=62 then [.int .i64 3,.int .i64 0,.int .i64 0,.int .u32 (0:Nat)]
 else if o=63 then [.int .i64 5,.int .i64 0,.int .i64 0,.int .u32 (0:Nat)]
 else if o=64 then [.int .i64 4,.int .i64 0,.int .i64 0,.int .u32 (0:Nat)]
 else [.int .i64 0,.int .i64 0,.int .i64 0,.int .u32 (0:Nat)]
theorem QwT (A:Nat):0+0+((A:Nat):Int).toNat * ty23.size=A:=by show 0+0+((A:Nat):Int).toNat * 1=A;omega
def Qwl (x:Nat):Nat:=if x<32768 then x else x+4294901760
theorem QBg (x:Nat) (hx:x<65536):IntKind.u32.wrap ((x:Int)*2^min ((32:Int)-16).toNat IntKind.u32.bits)=(x:Int)*65536:=by
 rw [show (2:Int)^min ((32:Int)-16).toNat IntKind.u32.bits=65536 from rfl]
 exact Qcf (by omega) (by omega)
theorem QCG (x:Nat) (hx:x<65536):IntKind.i32.wrap ((x:Int)*65536)=(if x<32768 then (x:Int) else x-65536)*65536:=by
 unfold IntKind.wrap
 simp only [IntKind.signed,IntKind.bits,Bool.true_and,decide_eq_true_eq]
 by_cases h:x<32768
 ·rw [if_pos h,if_neg (by simp;omega)];omega
 ·rw [if_neg h,if_pos (by simp;omega)];omega
theorem QB3 (x:Int):x*65536 / 2^min ((32:Int)-16).toNat IntKind.i32.bits=x:=by
 rw [show (2:Int)^min ((32:Int)-16).toNat IntKind.i32.bits=65536 from rfl]
 omega
theorem QCt (x:Nat) (hx:x<65536):IntKind.u32.wrap (if x<32768 then (x:Int) else x-65536)=(Qwl x:Nat):=by
 unfold Qwl
 rw [Qbo]
 by_cases h:x<32768
 ·rw [if_pos h,if_pos h];omega
 ·rw [if_neg h,if_neg h];omega
theorem QsG (x:Nat) (hx:x<65536):Fn Tryz.prog 62 [.s (.int .u32 x),.s (.int .i64 16)] [] (· =⟨.a (.s (.int .u32 (Qwl x:Nat))),[],[]⟩):=by
 refine fnW Tryz.func62 ?_
 (repeat' ((conv=>whnf);first|(intro hb;first|exact zk0 hb|(try (replace hb:=zn0 hb)))|((with_reducible apply Vl.mk (α:=Int)); · first|exact QBg x hx|exact QCG x hx|exact QB3 _|exact QCt x hx)|refine zs0 ?_|refine zbx ?_ ?_|refine zgx ?_ ?_));(all_goals (try (conv=>whnf)))
 all_goals exact Qan rfl rfl
def Qqg (o:Int):Bool:=decide (1≤o∧o≤13∨16≤o∧o≤24∨32≤o∧o≤36∨40≤o∧o≤45∨o=48∨o=49∨58≤o∧o≤61)
def Qv8 (o:Int):Bool:=decide (1≤o∧o≤13∨16≤o∧o≤23∨32≤o∧o≤36∨40≤o∧o≤45∨o=49)
def Qp7 (o:Int):Bool:=decide (1≤o∧o≤13)
def Qw5 (o:Int):Bool:=decide (o=16∨o=23∨32≤o∧o≤36∨40≤o∧o≤45∨o=48∨o=49)
def Qf3 (o:Int):Int:=if Qw5 o then -32768 else 0
def Qgi (o:Int):Int:=if Qw5 o then 32767 else if o=17∨o=18∨o=19∨o=24 then 65535 else if o=20∨o=21∨o=22 then 31 else if o=58∨o=59 then 7 else if o=60∨o=61 then 11 else 0
def Qfy (o:Int):Bool:=Qqg o||decide (o=56∨o=57∨62≤o∧o≤64)
theorem Qqy (o:Int):Fn Tryz.prog 61 [.s (.int .i64 o)] [] (· =⟨.tup [.agg [.bool (Qqg o),.bool (Qv8 o),.bool (Qp7 o),.int .i32 (Qf3 o),.int .i32 (Qgi o)],.s (.bool (Qfy o))],[],[]⟩):=by
 refine fnW Tryz.func61 ?_
 (repeat' ((conv=>whnf);first|(intro hb;first|exact zk0 hb|(try (replace hb:=zn0 hb)))|refine zs0 ?_|refine zbx ?_ ?_|refine zgx ?_ ?_));(all_goals (try (conv=>whnf)))
 all_goals first
  | (subst hb;exact Qan rfl rfl)
  | (
    have h:Qqg o=false∧Qv8 o=false∧Qp7 o=false∧Qw5 o=false∧Qfy o=false∧Qgi o=0:=by
     simp only [Qqg,Qv8,Qp7,Qfy,Qw5,Qgi];refine ⟨?_,?_,?_,?_,?_,?_⟩<;>simp<;>omega
    refine Qan rfl ?_
    simp only [Qf3,h]
    rfl)
def QeY (o:Int):Bool:=decide (57≤o∧o≤64)
theorem Qsi (o:Int):Fn Tryz.prog 33 [.s (.int .i64 o)] [] (· =⟨.a (.s (.bool (QeY o))),[],[]⟩):=by
 refine fnW Tryz.func33 ?_
 (repeat' ((conv=>whnf);first|(intro hb;first|exact zk0 hb|(try (replace hb:=zn0 hb)))|refine zs0 ?_|refine zbx ?_ ?_|refine zgx ?_ ?_));(all_goals (try (conv=>whnf)))
 all_goals (refine Qan rfl ?_;simp only [Qa7];congr 3;first|(subst hb;rfl)|(simp only [QeY];simp;omega))
def Qm4 (r:Int) (u:Bool):Bool:=match u with
 | true=>decide (0≤r)&&decide (r≤15)
 | false=>r==0
theorem Qwb (r:Int) (u:Bool):Fn Tryz.prog 89 [.s (.int .i64 r),.s (.bool u)] [] (· =⟨.a (.s (.bool (Qm4 r u))),[],[]⟩):=by
 refine fnW Tryz.func89 ?_
 (repeat' ((conv=>whnf);first|(intro hb;first|exact zk0 hb|(try (replace hb:=zn0 hb)))|refine zs0 ?_|refine zbx ?_ ?_|refine zgx ?_ ?_));(all_goals (try (conv=>whnf)))
 all_goals (refine Qan rfl ?_;simp only [Qa7];congr 3;(try subst hb);simp_all [Qm4];try omega)
def iv (o a b c m:Int):List SV:= [.int .i64 o,.int .i64 a,.int .i64 b,.int .i64 c,.int .i32 m]
def Qgh (o a b c m:Int):Bool:=Qfy o&&Qm4 a (Qqg o)&&Qm4 b (Qv8 o)&&Qm4 c (Qp7 o)&&decide (m≥Qf3 o)&&decide (m≤Qgi o)
theorem Qne (o a b c m:Int):Fn Tryz.prog 63 [.agg (iv o a b c m)] [] (· =⟨.a (.s (.bool (Qgh o a b c m))),[],[]⟩):=by
 refine fnW Tryz.func63 ?_
 unfold iv
 (repeat' ((conv=>whnf);first|(intro hb;first|exact zk0 hb|(try (replace hb:=zn0 hb)))|(refine Qag (f:=61) (Qqy _) rfl ?_)|(refine Qag (f:=89) (Qwb _ _) rfl ?_)|refine zs0 ?_|refine zbx ?_ ?_|refine zgx ?_ ?_));(all_goals (try (conv=>whnf)))
 all_goals (refine Qan rfl ?_;simp only [Qa7];congr 3;try grind [Qgh])
def kz (b:Bool) (x:Int):Int:=if b then x else 0
def dOp (w:Nat):Int:=(w / 2^24%2^8:Nat)
def dA (w:Nat):Int:=(w / 2^20%2^4:Nat)
def dB (w:Nat):Int:=(w / 2^16%2^4:Nat)
def dI (w:Nat):Nat:=w / 2^0%2^16
def dC (w:Nat):Int:=if Qp7 (dOp w) then dI w else 0
def sx (x:Nat):Int:=if x<32768 then x else x-65536
def dM (w:Nat):Int:=if Qp7 (dOp w) then 0 else if Qf3 (dOp w)<0 then sx (dI w) else dI w
def dOk (w:Nat):Bool:=Qfy (dOp w)&&Qgh (dOp w) (dA w) (dB w) (dC w) (dM w)
theorem Qvt (x:Nat) (hx:x<65536):IntKind.i32.wrap ((Qwl x:Nat):Int)=sx x:=by
 unfold IntKind.wrap Qwl sx
 simp only [IntKind.signed,IntKind.bits,Bool.true_and,decide_eq_true_eq]
 by_cases h:x<32768
 ·rw [if_pos h,if_pos h,if_neg (by simp;omega)];omega
 ·rw [if_neg h,if_neg h,if_pos (by simp;omega)];omega
theorem QgF (w:Nat) (hw:w<4294967296):Fn Tryz.prog 32 [.s (.int .u32 w)] [] (· =⟨.tup [.agg (iv (kz (dOk w) (dOp w)) (kz (dOk w) (dA w)) (kz (dOk w) (dB w)) (kz (dOk w) (dC w)) (kz (dOk w) (dM w))),.s (.bool (dOk w))],[],[]⟩):=by
 refine fnW Tryz.func32 ?_
 (repeat' ((conv=>whnf);first|(intro hb;first|exact zk0 hb|(try (replace hb:=zn0 hb)))|(refine Qag (f:=53) (QcQ w 24 8 hw (by omega) (by omega) (by omega)) rfl ?_)|(refine Qag (f:=53) (QcQ w 20 4 hw (by omega) (by omega) (by omega)) rfl ?_)|(refine Qag (f:=53) (QcQ w 16 4 hw (by omega) (by omega) (by omega)) rfl ?_)|(refine Qag (f:=53) (QcQ w 0 16 hw (by omega) (by omega) (by omega)) rfl ?_)|(refine Qag (f:=61) (Qqy _) rfl ?_)|(refine Qag (f:=63) (Qne _ _ _ _ _) rfl ?_)|(refine Qag (f:=62) (QsG _ (by omega)) rfl ?_)|((with_reducible apply Vl.mk (α:=Int)); · exact Qvt _ (by omega))|refine zs0 ?_|refine zbx ?_ ?_|refine zgx ?_ ?_));(all_goals (try (conv=>whnf)))
 all_goals
  refine Qan rfl ?_
  try have hn:¬ Qf3 ((w / 2^24%2^8:Nat):Int)<0:=by omega
  simp only [Qa7,iv,kz,dOk,dOp,dA,dB,dC,dM,dI,Bool.true_and,Bool.false_and,if_true,if_false,Bool.false_eq_true, *]
  first
   | done
   | rfl
end Go.Proofs.YtjgikeckbeeehaaGreat
