import Derived.Test.YtjgikeckbeeehaaGreatP11
set_option linter.unusedSimpArgs false
set_option linter.unusedVariables false
set_option maxHeartbeats 100000000
set_option maxRecDepth 100000
namespace Go.Proofs.YtjgikeckbeeehaaGreat
open Go Go.RowKit
def Qhp (b:Nat):Nat→Nat
 | 0=>0
 | j+1=>Qhp b j+b / 2^j%2
theorem Qeu (b:Nat):∀ j,Qhp b j≤j
 | 0=>Nat.le_refl _
 | j+1=>by have:=Qeu b j;unfold Qhp;omega
theorem QgU (a:Nat) (ha:a<4294967296):bits .and .u32 (a:Int) 1=((a%2:Nat):Int):=Qbu a 1 ha (by omega)
theorem Qj4 (b j:Nat) (hj:j<32):(b:Int) / 2^min (((j:Nat):Int)).toNat IntKind.u32.bits=((b / 2^j:Nat):Int):=by
 rw [show min (((j:Nat):Int)).toNat IntKind.u32.bits=j by show min j 32=j;omega,Int.natCast_ediv,Int.natCast_pow];rfl
def Qxa (p j:Nat) (bt bg:Nat):St :=
 ⟨[(1,.a (.s (.ptr 0 0))),(3,.a (.s (.int .i64 p))),(4,.a (.s (.int .i64 j)))],[(0,some ⟨true,1,[.int .u32 bt,.int .u32 bg]⟩)],[0]⟩
theorem Qge (bt bg:Nat) (h2:bg<4294967296):Fn Tryz.prog 165 [.agg [.int .u32 bt,.int .u32 bg]] [] (· =⟨.a (.s (.int .i64 (Qhp bg 32:Nat))),[],[]⟩):=by
 refine fnW Tryz.func165 ?_
 (repeat' ((conv=>whnf);first|(intro hb;first|exact zk0 hb|(try (replace hb:=zn0 hb)))|refine zst ?_|refine zbx ?_ ?_|refine zgx ?_ ?_));(all_goals (try (conv=>whnf)))
 refine Lp.inv (fun mm σ=>∃ j:Nat,mm+j=32∧σ=Qxa (Qhp bg j) j bt bg) ?_ ?_
 ·refine ⟨32,Qxa 0 0 bt bg,?_,0,by omega,rfl⟩
  (exact zwL [(0,some _)])
 rintro mm σ ⟨j,hmj,rfl⟩
 unfold Qxa
 by_cases hj:j<32
 ·have hle:=Qeu bg j
  have s1:=Qj4 bg j hj
  have s2:=QgU (bg / 2^j) (Nat.lt_of_le_of_lt (Nat.div_le_self _ _) h2)
  have s4:IntKind.i64.wrap (((Qhp bg j:Nat):Int)+((bg / 2^j%2:Nat):Int))=((Qhp bg (j+1):Nat):Int):=by
   rw [QbI (by omega) (by omega),show Qhp bg (j+1)=Qhp bg j+bg / 2^j%2 from rfl];omega
  have q2:IntKind.i64.wrap ((j:Int)+1)=((j+1:Nat):Int):=by rw [QbI (by omega) (by omega)];omega
  have hb2:bg / 2^j%2<2:=Nat.mod_lt _ (by decide)
  obtain ⟨P1,hP1⟩:∃ P1,Qhp bg (j+1)=P1:=⟨_,rfl⟩
  rw [hP1] at s4
  generalize Qhp bg j=P0 at *
  generalize bg / 2^j=bj at *
  generalize bj%2=bb at *
  (repeat' ((conv=>whnf);first|(intro hb;first|exact zk2 hb|(try (replace hb:=zn0 hb)))|(with_reducible first|refine zv s1 ?_|refine zv s2 ?_|refine zv s4 ?_|refine zv q2 ?_)|refine zst ?_|refine zbx ?_ ?_|refine zgx ?_ ?_|refine eqR ?_));(all_goals (try (conv=>whnf)))
  all_goals first
   | (
     refine ⟨mm-1,Qxa P1 (j+1) bt bg,by omega,?_,j+1,by omega,by rw [hP1];rfl⟩
     (exact zwL [(0,some 0)]))
  
 ·obtain rfl:j=32:=by omega
  generalize Qhp bg 32=P at *
  (repeat' ((conv=>whnf);first|(intro hb;first|exact zk2 hb|(try (replace hb:=zn0 hb)))|refine zst ?_|refine zbx ?_ ?_|refine zgx ?_ ?_|refine eqR ?_));(all_goals (try (conv=>whnf)))
  all_goals exact zf_
def QgZ (b:Nat) (p:Int):Bool:=decide (∀ i:Nat,i<32→b / 2^i%2=1→(i:Int)<p)
def Qxh (j:Nat) (bt bg:Nat) (p:Int):St :=
 ⟨[(1,.a (.s (.int .i64 p))),(2,.a (.s (.ptr 0 0))),(5,.a (.s (.int .i64 j)))],[(0,some ⟨true,1,[.int .u32 bt,.int .u32 bg]⟩)],[0]⟩
theorem QjI (bt bg:Nat) (h2:bg<4294967296) (p:Int):Fn Tryz.prog 127 [.agg [.int .u32 bt,.int .u32 bg],.s (.int .i64 p)] [] (· =⟨.a (.s (.bool (QgZ bg p))),[],[]⟩):=by
 obtain ⟨B,hB⟩:∃ B,QgZ bg p=B:=⟨_,rfl⟩
 rw [hB]
 unfold QgZ at hB
 refine fnW Tryz.func127 ?_
 (repeat' ((conv=>whnf);first|(intro hb;first|exact zk0 hb|(try (replace hb:=zn0 hb)))|refine zst ?_|refine zbx ?_ ?_|refine zgx ?_ ?_));(all_goals (try (conv=>whnf)))
 refine Lp.inv (fun mm σ=>∃ j:Nat,mm+j=32∧(∀ i:Nat,i<j→bg / 2^i%2=1→(i:Int)<p)∧σ=Qxh j bt bg p) ?_ ?_
 ·refine ⟨32,Qxh 0 bt bg p,?_,0,by omega,fun i h=>by omega,rfl⟩
  (exact zwL [(0,some _)])
 rintro mm σ ⟨j,hmj,hpre,rfl⟩
 unfold Qxh
 by_cases hj:j<32
 ·have s1:=Qj4 bg j hj
  have s2:=QgU (bg / 2^j) (Nat.lt_of_le_of_lt (Nat.div_le_self _ _) h2)
  have q2:IntKind.i64.wrap ((j:Int)+1)=((j+1:Nat):Int):=by rw [QbI (by omega) (by omega)];omega
  by_cases hbad:bg / 2^j%2=1∧p≤(j:Int)
  ·obtain rfl:B=false:=by
    rw [← hB];refine decide_eq_false (fun h=>?_)
    have:=h j hj hbad.1
    omega
   rw [hbad.1] at s2
   have h3:=hbad.2
   clear hB hpre hbad
   generalize bg / 2^j=bj at *
   (repeat' ((conv=>whnf);first|(intro hb;first|exact zk2 hb|(try (replace hb:=zn0 hb)))|(with_reducible first|refine zv s1 ?_|refine zv s2 ?_|refine zv q2 ?_)|refine zst ?_|refine zbx ?_ ?_|refine zgx ?_ ?_|refine eqR ?_));(all_goals (try (conv=>whnf)))
   all_goals exact zF_
  ·have hpre2:∀ i:Nat,i<j+1→bg / 2^i%2=1→(i:Int)<p:=fun i hi h=>by
    by_cases e:i=j
    ·subst e;exact Int.lt_of_not_ge (fun h2=>hbad ⟨h,h2⟩)
    ·exact hpre i (by omega) h
   have h3:bg / 2^j%2=1→(j:Int)<p:=hpre2 j (by omega)
   have hb2:bg / 2^j%2<2:=Nat.mod_lt _ (by decide)
   clear hB hpre hbad
   generalize hbj:bg / 2^j=bj at *
   generalize hbb:bj%2=bb at *
   have e:bb=0∨bb=1:=by omega
   rcases e with rfl|rfl
   all_goals
    (repeat' ((conv=>whnf);first|(intro hb;first|exact zk2 hb|(try (replace hb:=zn0 hb)))|(with_reducible first|refine zv s1 ?_|refine zv s2 ?_|refine zv q2 ?_)|refine zst ?_|refine zbx ?_ ?_|refine zgx ?_ ?_|refine eqR ?_));(all_goals (try (conv=>whnf)))
    all_goals first
     | (exfalso;omega)
     | (exfalso;simp at hb;done)
     | (
       refine ⟨mm-1,Qxh (j+1) bt bg p,by omega,?_,j+1,by omega,hpre2,rfl⟩
       (exact zwL [(0,some 0)]))
    
 ·obtain rfl:j=32:=by omega
  obtain rfl:B=true:=by rw [← hB];exact decide_eq_true hpre
  (repeat' ((conv=>whnf);first|(intro hb;first|exact zk2 hb|(try (replace hb:=zn0 hb)))|refine zst ?_|refine zbx ?_ ?_|refine zgx ?_ ?_|refine eqR ?_));(all_goals (try (conv=>whnf)))
  all_goals exact zf_
def QdI (bt bg:Nat):Bool:=(((Qhp bg 32:Nat):Int) !=((bt:Nat):Int))
theorem Qif (bt bg:Nat) (h1:bt<4294967296) (h2:bg<4294967296):Fn Tryz.prog 164 [.agg [.int .u32 bt,.int .u32 bg]] [] (· =⟨.a (.s (.bool (QdI bt bg))),[],[]⟩):=by
 have hg:=Qge bt bg h2
 have hle:=Qeu bg 32
 unfold QdI
 generalize Qhp bg 32=P at *
 refine fnW Tryz.func164 ?_
 (repeat' ((conv=>whnf);first|(intro hb;first|exact zk2 hb|(try (replace hb:=zn0 hb)))|(refine zpu hg ?_)|refine zst ?_|refine zbx ?_ ?_|refine zgx ?_ ?_|refine eqR ?_));(all_goals (try (conv=>whnf)))
 all_goals exact zf_
theorem Qh9 (a:Bool) (d:Nat) (f:Bool):Fn Tryz.prog 160 [.agg [.bool a,.int .u32 d,.bool f]] [] (· =⟨.a (.s (.bool f)),[],[]⟩):=by
 refine fnW Tryz.func160 ?_
 (repeat' ((conv=>whnf);first|(intro hb;first|exact zk2 hb|(try (replace hb:=zn0 hb)))|refine zst ?_|refine zbx ?_ ?_|refine zgx ?_ ?_|refine eqR ?_));(all_goals (try (conv=>whnf)))
 all_goals exact zf_
def QdB (k:ByteArray):Bool:=decide ((0:Int)<(k.size:Int))
theorem Qh3 (k:ByteArray):Fn Tryz.prog 161 [.agg [.str k]] [] (· =⟨.a (.s (.bool (QdB k))),[],[]⟩):=by
 unfold QdB
 refine fnW Tryz.func161 ?_
 (repeat' ((conv=>whnf);first|(intro hb;first|exact zk2 hb|(try (replace hb:=zn0 hb)))|refine zst ?_|refine zbx ?_ ?_|refine zgx ?_ ?_|refine eqR ?_));(all_goals (try (conv=>whnf)))
 all_goals exact zf_
theorem QhK (d:Dk):Fn Tryz.prog 162 [.agg d.C] [] (· =⟨.a (.s (.bool (Qc7 d.st))),[],[]⟩):=by
 obtain ⟨_,_,_,st,_,_,_,_⟩:=d
 dsimp only [Dk.C]
 obtain ⟨B,hB⟩:∃ B,Qc7 st=B:=⟨_,rfl⟩
 rw [hB]
 unfold Qc7 at hB
 refine fnW Tryz.func162 ?_
 (repeat' ((conv=>whnf);first|(intro hb;first|exact zk2 hb|(try (replace hb:=zn0 hb)))|refine zst ?_|refine zbx ?_ ?_|refine zgx ?_ ?_|refine eqR ?_));(all_goals (try (conv=>whnf)))
 all_goals first|(refine Qej ?_ ?_;(focus (exact zf_));rw [← hB];first|(rw [Bool.eq_iff_iff];simp;done)|(rw [Bool.eq_iff_iff];simp;omega)|(rw [Bool.eq_iff_iff];simp;grind))
theorem Qib (n:Nk):Fn Tryz.prog 163 [.agg n.C] [] (· =⟨.a (.s (.bool n.re)),[],[]⟩):=by
 obtain ⟨_,_,_,_,re,_⟩:=n
 dsimp only [Nk.C]
 refine fnW Tryz.func163 ?_
 (repeat' ((conv=>whnf);first|(intro hb;first|exact zk2 hb|(try (replace hb:=zn0 hb)))|refine zst ?_|refine zbx ?_ ?_|refine zgx ?_ ?_|refine eqR ?_));(all_goals (try (conv=>whnf)))
 all_goals exact zf_
def lnN (b:Bool) (k:Nat):Nat:=if b=true then 2^k else 0
theorem QcZ (b:Bool) (k:Nat) (hk:k<32):lnN b k<4294967296:=by
 unfold lnN;split
 ·exact Nat.lt_of_lt_of_le (Nat.pow_lt_pow_right (by decide) hk) (by decide)
 ·decide
theorem Qdl (b:Bool) (k:Nat) (hk:k<5):Fn Tryz.prog 159 [.s (.bool b),.s (.int .i64 k)] [] (· =⟨.a (.s (.int .u32 (lnN b k:Nat))),[],[]⟩):=by
 have e:k=0∨k=1∨k=2∨k=3∨k=4:=by omega
 cases b<;>rcases e with rfl|rfl|rfl|rfl|rfl
 all_goals
  refine fnW Tryz.func159 ?_
  (repeat' ((conv=>whnf);first|(intro hb;first|exact zk2 hb|(try (replace hb:=zn0 hb)))|refine zst ?_|refine zbx ?_ ?_|refine zgx ?_ ?_|refine eqR ?_));(all_goals (try (conv=>whnf)))
  all_goals first|(exfalso;simp at hb;done)|(exact zf_)
def Qpf (M:Mc):Nat:=(((lnN M.tf 0 ||| lnN (QdB M.ks) 1) ||| lnN (Qc7 M.d.st) 2) ||| lnN M.n.re 3) ||| lnN (QdI M.bt M.bg) 4
theorem Qr9 (M:Mc):Qpf M<4294967296:=by
 unfold Qpf
 exact (QiO _ _ (QiO _ _ (QiO _ _ (QiO _ _ (QcZ _ 0 (by decide)) (QcZ _ 1 (by decide))).2 (QcZ _ 2 (by decide))).2 (QcZ _ 3 (by decide))).2 (QcZ _ 4 (by decide))).2
theorem QmZ (M:Mc) (hM:M.ok):Fn Tryz.prog 144 [.agg (M.C 0)] [⟨false,1,wsv M.m⟩] (· =⟨.a (.s (.int .u32 (Qpf M:Nat))),[],[]⟩):=by
 have p1:=Qh9 M.ta M.td M.tf
 have p2:=Qh3 M.ks
 have p3:=QhK M.d
 have p4:=Qib M.n
 have p5:=Qif M.bt M.bg hM.dv.2.1 hM.dv.2.2.1
 have k1:=Qdl M.tf 0 (by decide)
 have k2:=Qdl (QdB M.ks) 1 (by decide)
 have k3:=Qdl (Qc7 M.d.st) 2 (by decide)
 have k4:=Qdl M.n.re 3 (by decide)
 have k5:=Qdl (QdI M.bt M.bg) 4 (by decide)
 have o1:=QiO _ _ (QcZ M.tf 0 (by decide)) (QcZ (QdB M.ks) 1 (by decide))
 have o2:=QiO _ _ o1.2 (QcZ (Qc7 M.d.st) 2 (by decide))
 have o3:=QiO _ _ o2.2 (QcZ M.n.re 3 (by decide))
 have o4:=QiO _ _ o3.2 (QcZ (QdI M.bt M.bg) 4 (by decide))
 replace o1:=o1.1
 replace o2:=o2.1
 replace o3:=o3.1
 replace o4:=o4.1
 have hsx:=Qaa M.m
 unfold Qpf
 generalize QdB M.ks=b2 at *
 generalize Qc7 M.d.st=b3 at *
 generalize QdI M.bt M.bg=b5 at *
 generalize (((lnN M.tf 0 ||| lnN b2 1) ||| lnN b3 2) ||| lnN M.n.re 3) ||| lnN b5 4=L4 at *
 generalize ((lnN M.tf 0 ||| lnN b2 1) ||| lnN b3 2) ||| lnN M.n.re 3=L3 at *
 generalize (lnN M.tf 0 ||| lnN b2 1) ||| lnN b3 2=L2 at *
 generalize lnN M.tf 0 ||| lnN b2 1=L1 at *
 generalize lnN M.tf 0=l0 at *
 generalize lnN b2 1=l1 at *
 generalize lnN b3 2=l2 at *
 generalize lnN M.n.re 3=l3 at *
 generalize lnN b5 4=l4 at *
 obtain ⟨hx,hc,hxr,hcr,_,hmr,_,hdk,hnk,_⟩:=hM
 obtain ⟨_,_,_,m,ks,ta,td,tf,d,n,bt,bg,_,_,_⟩:=M
 dsimp only at *
 obtain ⟨_,_,_,_,_,_,_,_,_,_,_,_,_,_,_,_,rfl⟩:=Qaq hx
 obtain ⟨_,_,_,_,_,_,_,_,rfl⟩:=QaJ hc
 obtain ⟨_,_,_,_,_,_,_,_⟩:=d
 obtain ⟨_,_,_,_,_,_⟩:=n
 dsimp only [Mc.C,Mc.D,Dk.C,Nk.C,Dk.ok,Nk.ok] at *
 generalize m.length=nn at *
 generalize wsv m=XX at *
 clear hxr hcr hdk hnk hmr
 refine fnW Tryz.func144 ?_
 (repeat' ((conv=>whnf);first|(intro hb;first|exact zk0 hb|(try (replace hb:=zn0 hb)))|(with_reducible first|refine zv o1 ?_|refine zv o2 ?_|refine zv o3 ?_|refine zv o4 ?_)|(refine zpu p1 ?_)|(refine zpu p2 ?_)|(refine zpu p3 ?_)|(refine zpu p4 ?_)|(refine zpu p5 ?_)|(refine zpu k1 ?_)|(refine zpu k2 ?_)|(refine zpu k3 ?_)|(refine zpu k4 ?_)|(refine zpu k5 ?_)|refine zst ?_|refine zbx ?_ ?_|refine zgx ?_ ?_));(all_goals (try (conv=>whnf)))
 all_goals exact Qbr
def Qoz (M:Mc):Nat:=Qpf M &&& M.c.getD 7 0
theorem Qeq (M:Mc) (hM:M.ok):Fn Tryz.prog 132 [.agg (M.C 0)] [⟨false,1,wsv M.m⟩] (· =⟨.a (.s (.int .u32 (Qoz M:Nat))),[],[]⟩):=by
 have hl:=QmZ M hM
 have ha:=Qex (Qpf M) (M.c.getD 7 0) (Qr9 M) (Qad hM.cr 7)
 have hsx:=Qaa M.m
 unfold Qoz
 obtain ⟨E,hE⟩:∃ E,Qpf M &&& M.c.getD 7 0=E:=⟨_,rfl⟩
 rw [hE] at ha ⊢
 clear hE
 generalize Qpf M=L at *
 obtain ⟨hx,hc,hxr,hcr,_,hmr,_,hdk,hnk,_⟩:=hM
 obtain ⟨_,_,c,m,_,_,_,_,d,n,_,_,_,_,_⟩:=M
 dsimp only at *
 obtain ⟨_,_,_,_,_,_,_,_,_,_,_,_,_,_,_,_,rfl⟩:=Qaq hx
 obtain ⟨_,_,_,_,_,_,_,c7,rfl⟩:=QaJ hc
 obtain ⟨_,_,_,_,_,_,_,_⟩:=d
 obtain ⟨_,_,_,_,_,_⟩:=n
 dsimp only [Mc.C,Mc.D,Dk.C,Nk.C,Dk.ok,Nk.ok] at *
 generalize m.length=nn at *
 generalize wsv m=XX at *
 change bits .and .u32 (L:Int) (c7:Int)=(E:Int) at ha
 clear hxr hcr hdk hnk hmr
 refine fnW Tryz.func132 ?_
 (repeat' ((conv=>whnf);first|(intro hb;first|exact zk0 hb|(try (replace hb:=zn0 hb)))|(with_reducible refine zv ha ?_)|(refine Qay hl ?_)|refine zst ?_|refine zbx ?_ ?_|refine zgx ?_ ?_));(all_goals (try (conv=>whnf)))
 all_goals exact Qbr
def Qq9 (M:Mc):Bool:=M.wt&&decide (Qoz M=0)
theorem Qiu (M:Mc) (hM:M.ok):Fn Tryz.prog 111 [.agg (M.C 0)] [⟨false,1,wsv M.m⟩] (· =⟨.a (.s (.bool (Qq9 M))),[],[]⟩):=by
 have hl:=Qeq M hM
 have hsx:=Qaa M.m
 unfold Qq9
 generalize Qoz M=E at *
 obtain ⟨B,hB⟩:∃ B,(M.wt&&decide (E=0))=B:=⟨_,rfl⟩
 rw [hB]
 obtain ⟨hx,hc,hxr,hcr,_,hmr,_,hdk,hnk,_⟩:=hM
 obtain ⟨_,_,_,m,_,_,_,_,d,n,_,_,_,wt,_⟩:=M
 dsimp only at *
 obtain ⟨_,_,_,_,_,_,_,_,_,_,_,_,_,_,_,_,rfl⟩:=Qaq hx
 obtain ⟨_,_,_,_,_,_,_,_,rfl⟩:=QaJ hc
 obtain ⟨_,_,_,_,_,_,_,_⟩:=d
 obtain ⟨_,_,_,_,_,_⟩:=n
 dsimp only [Mc.C,Mc.D,Dk.C,Nk.C,Dk.ok,Nk.ok] at *
 generalize m.length=nn at *
 generalize wsv m=XX at *
 clear hxr hcr hdk hnk hmr
 cases wt
 all_goals
  refine fnW Tryz.func111 ?_
  (repeat' ((conv=>whnf);first|(intro hb;first|exact zk2 hb|(try (replace hb:=zn0 hb)))|(refine Qay hl ?_)|refine zst ?_|refine zbx ?_ ?_|refine zgx ?_ ?_|refine eqR ?_));(all_goals (try (conv=>whnf)))
  all_goals first
   | (refine Qej ?_ ?_;(focus (exact Qbr));rw [← hB,Bool.eq_iff_iff];simp;done)
   | (refine Qej ?_ ?_;(focus (exact Qbr));rw [← hB,Bool.eq_iff_iff];simp;omega)
   | (exfalso;simp at hb;done)
  
def QiZ (M:Mc):Bool :=
 decide (1≤mpg M.m.length∧M.x.getD 0 0=0∧M.c.getD 0 0≤31∧M.c.getD 7 0≤31∧M.c.getD 6 0≤255∧M.c.getD 1 0%4=0∧Qiz M.ks=true∧Qjc M.ta M.td M.tf=true∧Qem M.d (mpg M.m.length:Nat)=true∧Qgc M.n (mpg M.m.length:Nat)=true∧QgZ M.bg (mpg M.m.length:Nat)=true∧M.ct≤1152921504606846976∧¬ (M.wt=true∧M.ht=true))
theorem QfO (M:Mc) (hM:M.ok):Fn Tryz.prog 108 [.agg (M.C 0)] [⟨false,1,wsv M.m⟩] (· =⟨.a (.s (.bool (QiZ M))),[],[]⟩):=by
 have hp:=QbN M.m _ (by have:=hM.ml;omega:M.m.length<4294967296)
 have q1:=Qjh M.ks
 have q2:=QjD M.ta M.td M.tf
 have q3:=QjQ M.d hM.dk (mpg M.m.length:Nat)
 have q4:=QjA M.n hM.nk (mpg M.m.length:Nat)
 have q5:=QjI M.bt M.bg hM.dv.2.2.1 (mpg M.m.length:Nat)
 have hsx:=Qaa M.m
 have hmp:=Qbe M.m.length
 obtain ⟨B,hB⟩:∃ B,QiZ M=B:=⟨_,rfl⟩
 rw [hB]
 unfold QiZ at hB
 generalize Qiz M.ks=b1 at *
 generalize Qjc M.ta M.td M.tf=b2 at *
 generalize Qem M.d (mpg M.m.length:Nat)=b3 at *
 generalize Qgc M.n (mpg M.m.length:Nat)=b4 at *
 generalize QgZ M.bg (mpg M.m.length:Nat)=b5 at *
 have h1:=Qad hM.cr 1
 obtain ⟨hx,hc,hxr,hcr,_,hmr,_,hdk,hnk,hdv⟩:=hM
 obtain ⟨_,_,_,m,ks,ta,td,tf,d,n,bt,bg,_,_,_⟩:=M
 dsimp only at *
 obtain ⟨_,_,_,_,_,_,_,_,_,_,_,_,_,_,_,_,rfl⟩:=Qaq hx
 obtain ⟨_,c1,_,_,_,_,_,_,rfl⟩:=QaJ hc
 obtain ⟨_,_,_,_,_,_,_,_⟩:=d
 obtain ⟨_,_,_,_,_,_⟩:=n
 dsimp only [Mc.C,Mc.D,Dk.C,Nk.C,Dk.ok,Nk.ok] at *
 generalize mpg m.length=P at *
 generalize m.length=nn at *
 generalize wsv m=XX at *
 simp only [List.getD_cons_zero,List.getD_cons_succ] at hB h1
 have m1:Int.tmod (c1:Int) 4=((c1%4:Nat):Int):=by rw [Int.tmod_eq_emod_of_nonneg (by omega)];omega
 have hct:=hdv.2.2.2.1
 clear hxr hcr hdk hnk hmr hdv
 generalize c1%4=c14 at *
 refine fnW Tryz.func108 ?_
 (repeat' ((conv=>whnf);first|(intro hb;first|exact zk2 hb|(try (replace hb:=zn0 hb)))|(with_reducible refine zv m1 ?_)|(refine Qay hp ?_)|(refine zpu q1 ?_)|(refine zpu q2 ?_)|(refine zpu q3 ?_)|(refine zpu q4 ?_)|(refine zpu q5 ?_)|refine zst ?_|refine zbx ?_ ?_|refine zgx ?_ ?_|refine eqR ?_));(all_goals (try (conv=>whnf)))
 all_goals first
  | (refine Qej ?_ ?_;(focus (exact Qbr));rw [← hB];symm;first|exact decide_eq_false (by omega)|(rw [Bool.eq_iff_iff];simp;done)|(rw [Bool.eq_iff_iff];simp;omega)|(rw [Bool.eq_iff_iff];simp;grind))
 
def QoX (M:Mc):Bool:= !QiZ M||M.ht||Qq9 M||decide (1152921504606846976≤M.ct)
theorem Qg1 (M:Mc) (hM:M.ok):Fn Tryz.prog 119 [.agg (M.C 0)] [⟨false,1,wsv M.m⟩] (· =⟨.a (.s (.bool (QoX M))),[],[]⟩):=by
 have hm:=QfO M hM
 have hi:=Qiu M hM
 have hsx:=Qaa M.m
 obtain ⟨B,hB⟩:∃ B,QoX M=B:=⟨_,rfl⟩
 rw [hB]
 unfold QoX at hB
 generalize QiZ M=b1 at *
 generalize Qq9 M=b2 at *
 obtain ⟨hx,hc,hxr,hcr,_,hmr,_,hdk,hnk,hdv⟩:=hM
 obtain ⟨_,_,_,m,_,_,_,_,d,n,_,_,_,_,_⟩:=M
 dsimp only at *
 obtain ⟨_,_,_,_,_,_,_,_,_,_,_,_,_,_,_,_,rfl⟩:=Qaq hx
 obtain ⟨_,_,_,_,_,_,_,_,rfl⟩:=QaJ hc
 obtain ⟨_,_,_,_,_,_,_,_⟩:=d
 obtain ⟨_,_,_,_,_,_⟩:=n
 dsimp only [Mc.C,Mc.D,Dk.C,Nk.C,Dk.ok,Nk.ok] at *
 generalize m.length=nn at *
 generalize wsv m=XX at *
 have hct:=hdv.2.2.2.1
 clear hxr hcr hdk hnk hmr hdv
 refine fnW Tryz.func119 ?_
 (repeat' ((conv=>whnf);first|(intro hb;first|exact zk2 hb|(try (replace hb:=zn0 hb)))|(refine Qay hm ?_)|(refine Qay hi ?_)|refine zst ?_|refine zbx ?_ ?_|refine zgx ?_ ?_|refine eqR ?_));(all_goals (try (conv=>whnf)))
 all_goals first
  | (refine Qej ?_ ?_;(focus (exact Qbr));rw [← hB];symm;first|(rw [Bool.eq_iff_iff];simp;done)|(rw [Bool.eq_iff_iff];simp;omega)|(rw [Bool.eq_iff_iff];simp_all;done)|(rw [Bool.eq_iff_iff];simp;grind))
 
def QzU (l:Nat):Nat:=if l%2=1 then 0 else if l / 2%2=1 then 1 else if l / 4%2=1 then 2 else if l / 8%2=1 then 3 else 4
theorem QsJ (l j:Nat) (hj:j<5) (h0:∀ i,i<j→l / 2^i%2=0) (h1:l / 2^j%2=1):QzU l=j:=by
 have e:j=0∨j=1∨j=2∨j=3∨j=4:=by omega
 unfold QzU
 rcases e with rfl|rfl|rfl|rfl|rfl
 ·rw [if_pos (by simpa using h1)]
 ·have a:=h0 0 (by omega)
  rw [if_neg (by simp at a;omega),if_pos (by simpa using h1)]
 ·have a:=h0 0 (by omega)
  have b:=h0 1 (by omega)
  rw [if_neg (by simp at a;omega),if_neg (by simp at b;omega),if_pos (by simpa using h1)]
 ·have a:=h0 0 (by omega)
  have b:=h0 1 (by omega)
  have d:=h0 2 (by omega)
  rw [if_neg (by simp at a;omega),if_neg (by simp at b;omega),if_neg (by simp at d;omega),if_pos (by simpa using h1)]
 ·have a:=h0 0 (by omega)
  have b:=h0 1 (by omega)
  have d:=h0 2 (by omega)
  have e:=h0 3 (by omega)
  rw [if_neg (by simp at a;omega),if_neg (by simp at b;omega),if_neg (by simp at d;omega),if_neg (by simp at e;omega)]
theorem Qy5 (l:Nat) (hl:l<32) (h:∀ i,i<5→l / 2^i%2=0):l=0:=by
 have a:=h 0 (by omega)
 have b:=h 1 (by omega)
 have c:=h 2 (by omega)
 have d:=h 3 (by omega)
 have e:=h 4 (by omega)
 simp at a b c d e
 omega
theorem Qgd (b:Bool) (k:Nat) (hk:k<5):lnN b k<32:=by
 unfold lnN;split
 ·exact Nat.lt_of_lt_of_le (Nat.pow_lt_pow_right (by omega:1<2) hk) (by decide)
 ·decide
theorem Qsw (M:Mc):Qoz M<32:=by
 unfold Qoz Qpf
 exact Nat.lt_of_le_of_lt Nat.and_le_left (or5 (or5 (or5 (or5 (Qgd _ 0 (by decide)) (Qgd _ 1 (by decide))) (Qgd _ 2 (by decide))) (Qgd _ 3 (by decide))) (Qgd _ 4 (by decide)))
theorem QvJ (a:Nat) (ha:a<4294967296):bits .and .u32 (a:Int) 2=((a / 2%2*2:Nat):Int):=by
 rw [show ((2:Int))=((2:Nat):Int) from rfl,Qex a 2 ha (by omega)]
 obtain ⟨h,l,hl,rfl⟩:=Qe7 a
 rw [Qel h l 2 hl (by decide)]
 have e:∀ l:Nat,l<32→l &&& 2=l / 2%2*2:=by decide
 rw [e l hl]
 congr 1
 omega
def Qzo (M:Mc):Bool:=decide (M.c.getD 0 0 / 2%2=1∧Qoz M≠0)
def QfA (M:Mc):Nat:=if Qzo M=true then M.c.getD 1 0 else M.pc
def Qgx (M:Mc):List Nat:=if Qzo M=true then trL M.pc M.c (16+(QzU (Qoz M):Nat)) 0 else M.c
theorem QcS (M:Mc) (hM:M.ok):(Qgx M).length=8:=by unfold Qgx;split;rfl;exact hM.c
theorem Qfm (M:Mc) (hM:M.ok):∀ y∈Qgx M,y<4294967296:=by
 unfold Qgx;split
 ·exact QeL hM.cr _ hM.pr _ _ (by decide)
 ·exact hM.cr
theorem QfG (M:Mc) (hM:M.ok):QfA M<4294967296:=by
 unfold QfA;split
 ·exact Qad hM.cr 1
 ·exact hM.pr
def Qpm (E j:Nat) (MC ZC XX:List SV):St :=
 ⟨[(1,.a (.s (.ptr 1 0))),(2,.a (.s (.ptr 2 0))),(3,.a (.s (.int .u32 E))),(4,.a (.s (.int .i64 j)))],[(0,some ⟨false,1,XX⟩),(1,some ⟨true,1,MC⟩),(2,some ⟨true,1,ZC⟩)],[0]⟩
theorem QeR (M:Mc) (hM:M.ok):Fn Tryz.prog 133 [.agg (M.C 0)] [⟨false,1,wsv M.m⟩] (· =⟨.a (.agg (Qao M.x (QfA M) (Qgx M))),[],[]⟩):=by
 have he:=Qeq M hM
 have hE:=Qsw M
 have hsx:=Qaa M.m
 have b2:=QvJ (M.c.getD 0 0) (Qad hM.cr 0)
 unfold QfA Qgx Qzo
 generalize Qoz M=E at *
 obtain ⟨hx,hc,hxr,hcr,_,hmr,hml,hdk,hnk,hdv⟩:=hM
 obtain ⟨x,pc,c,m,ks,ta,td,tf,d,n,bt,bg,ct,wt,ht⟩:=M
 dsimp only at *
 obtain ⟨x0,x1,x2,x3,x4,x5,x6,x7,x8,x9,x10,x11,x12,x13,x14,x15,rfl⟩:=Qaq hx
 obtain ⟨c0,c1,c2,c3,c4,c5,c6,c7,rfl⟩:=QaJ hc
 obtain ⟨d0,d1,d2,d3,d4,d5,d6,d7⟩:=d
 obtain ⟨n0,n1,n2,n3,n4,n5⟩:=n
 dsimp only [Mc.C,Mc.D,Dk.C,Nk.C,Dk.ok,Nk.ok] at *
 generalize m.length=nn at *
 generalize wsv m=XX at *
 simp only [List.getD_cons_zero,List.getD_cons_succ] at b2 ⊢
 have h2:c0 / 2%2<2:=Nat.mod_lt _ (by decide)
 generalize c0 / 2%2=s2 at *
 clear hxr hdk hnk hmr hdv hml
 by_cases hi:s2=1∧E≠0
 case neg =>
  rw [decide_eq_false hi,if_neg (by decide),if_neg (by decide)]
  have e:s2=0∨s2=1:=by omega
  rcases e with rfl|rfl
  ·replace b2:bits .and .u32 (c0:Int) 2=0:=b2
   refine fnW Tryz.func133 ?_
   (repeat' ((conv=>whnf);first|(intro hb;first|exact zk2 hb|(try (replace hb:=zn0 hb)))|(with_reducible refine zv b2 ?_)|(refine Qay he ?_)|refine zst ?_|refine zbx ?_ ?_|refine zgx ?_ ?_|refine eqR ?_));(all_goals (try (conv=>whnf)))
   all_goals exact Qdz
  ·obtain rfl:E=0:=by omega
   replace b2:bits .and .u32 (c0:Int) 2=2:=b2
   refine fnW Tryz.func133 ?_
   (repeat' ((conv=>whnf);first|(intro hb;first|exact zk2 hb|(try (replace hb:=zn0 hb)))|(with_reducible refine zv b2 ?_)|(refine Qay he ?_)|refine zst ?_|refine zbx ?_ ?_|refine zgx ?_ ?_|refine eqR ?_));(all_goals (try (conv=>whnf)))
   all_goals exact Qdz
 obtain ⟨rfl,hE0⟩:=hi
 rw [decide_eq_true ⟨rfl,hE0⟩,if_pos rfl,if_pos rfl]
 replace b2:bits .and .u32 (c0:Int) 2=2:=b2
 refine fnW Tryz.func133 ?_
 (repeat' ((conv=>whnf);first|(intro hb;first|exact zk2 hb|(try (replace hb:=zn0 hb)))|(with_reducible refine zv b2 ?_)|(refine Qay he ?_)|refine zst ?_|refine zbx ?_ ?_|refine zgx ?_ ?_|refine eqR ?_));(all_goals (try (conv=>whnf)))
 all_goals first|(exfalso;have hb2:=eq_of_beq hb;omega)|(exfalso;omega)|(exfalso;simp at hb;done)|skip
 refine Lp.inv (fun mm σ=>∃ j:Nat,mm+j=5∧(∀ i,i<j→E / 2^i%2=0)∧σ=Qpm E j [.int .u32 x0,.int .u32 x1,.int .u32 x2,.int .u32 x3,.int .u32 x4,.int .u32 x5,.int .u32 x6,.int .u32 x7,.int .u32 x8,.int .u32 x9,.int .u32 x10,.int .u32 x11,.int .u32 x12,.int .u32 x13,.int .u32 x14,.int .u32 x15,.int .u32 pc,.int .u32 c0,.int .u32 c1,.int .u32 c2,.int .u32 c3,.int .u32 c4,.int .u32 c5,.int .u32 c6,.int .u32 c7,.sl 0 0 nn,.str ks,.bool ta,.int .u32 td,.bool tf,.int .u32 d0,.int .u32 d1,.int .u32 d2,.int .i64 d3,.int .i64 d4,.int .u32 d5,.int .u32 d6,.str d7,.int .u32 n0,.int .u32 n1,.bool n2,.int .u32 n3,.bool n4,.int .u32 n5,.int .u32 bt,.int .u32 bg,.int .u64 ct,.bool wt,.bool ht] (List.replicate 25 (.int .u32 0)) XX) ?_ ?_
 ·refine ⟨5,Qpm E 0 [.int .u32 x0,.int .u32 x1,.int .u32 x2,.int .u32 x3,.int .u32 x4,.int .u32 x5,.int .u32 x6,.int .u32 x7,.int .u32 x8,.int .u32 x9,.int .u32 x10,.int .u32 x11,.int .u32 x12,.int .u32 x13,.int .u32 x14,.int .u32 x15,.int .u32 pc,.int .u32 c0,.int .u32 c1,.int .u32 c2,.int .u32 c3,.int .u32 c4,.int .u32 c5,.int .u32 c6,.int .u32 c7,.sl 0 0 nn,.str ks,.bool ta,.int .u32 td,.bool tf,.int .u32 d0,.int .u32 d1,.int .u32 d2,.int .i64 d3,.int .i64 d4,.int .u32 d5,.int .u32 d6,.str d7,.int .u32 n0,.int .u32 n1,.bool n2,.int .u32 n3,.bool n4,.int .u32 n5,.int .u32 bt,.int .u32 bg,.int .u64 ct,.bool wt,.bool ht] (List.replicate 25 (.int .u32 0)) XX,?_,0,by omega,fun i h=>by omega,rfl⟩
  (exact zwL [(0,some 0),(1,some _),(2,some _)])
 rintro mm σ ⟨j,hmj,hpre,rfl⟩
 unfold Qpm
 have hj5:j<5:=by
  rcases Nat.lt_or_ge j 5 with h|h
  ·exact h
  ·exact absurd (Qy5 E hE (fun i hi=>hpre i (by omega))) hE0
 have s1:=Qj4 E j (by omega)
 have s2:=QgU (E / 2^j) (Nat.lt_of_le_of_lt (Nat.div_le_self _ _) (by omega))
 have q2:IntKind.i64.wrap ((j:Int)+1)=((j+1:Nat):Int):=by rw [QbI (by omega) (by omega)];omega
 have hb2:E / 2^j%2<2:=Nat.mod_lt _ (by decide)
 obtain ⟨Z25,hZ⟩:∃ Z,List.replicate 25 (SV.int .u32 0)=Z:=⟨_,rfl⟩
 by_cases hbit:E / 2^j%2=1
 ·have hlo:=QsJ E j hj5 hpre hbit
  rw [hlo]
  have htr:=QbX [x0,x1,x2,x3,x4,x5,x6,x7,x8,x9,x10,x11,x12,x13,x14,x15] pc [c0,c1,c2,c3,c4,c5,c6,c7] (16+(j:Int)) 0 rfl rfl hcr
  rw [Qbh] at htr
  change Fn _ _ _ _ (· =⟨.a (.agg (Qao _ c1 _)),[],[]⟩) at htr
  rw [hbit] at s2
  generalize w32 (16+(j:Int))=kk at *
  generalize E / 2^j=Ej at *
  clear hpre hlo hE
  (repeat' ((conv=>whnf);first|(intro hb;first|exact zk2 hb|(try (replace hb:=zn0 hb)))|(with_reducible first|refine zv s1 ?_|refine zv s2 ?_|refine zv q2 ?_)|(refine zpu htr ?_)|refine zst ?_|refine zbx ?_ ?_|refine zgx ?_ ?_|refine eqR ?_));(all_goals (try (conv=>whnf)))
  all_goals exact Qdz
 ·have hbit0:E / 2^j%2=0:=by omega
  have hpre2:∀ i,i<j+1→E / 2^i%2=0:=fun i hi=>by
   by_cases e:i=j
   ·subst e;exact hbit0
   ·exact hpre i (by omega)
  rw [hbit0] at s2
  generalize E / 2^j=Ej at *
  (repeat' ((conv=>whnf);first|(intro hb;first|exact zk2 hb|(try (replace hb:=zn0 hb)))|(with_reducible first|refine zv s1 ?_|refine zv s2 ?_|refine zv q2 ?_)|refine zst ?_|refine zbx ?_ ?_|refine zgx ?_ ?_|refine eqR ?_));(all_goals (try (conv=>whnf)))
  all_goals first
   | (exfalso;omega)
   | (exfalso;simp at hb;done)
   | (
     refine ⟨mm-1,_,by omega,?_,j+1,by omega,hpre2,rfl⟩
     try unfold Qpm
     (exact zwL [(0,some 0),(1,some 1),(2,some 2)]))
  
def Qmk (f:Bool):Nat:=if f=true then 1 else 0
theorem Qg6 (a:Bool) (d:Nat) (f:Bool):Fn Tryz.prog 146 [.agg [.bool a,.int .u32 d,.bool f]] [] (· =⟨.a (.s (.int .u32 (Qmk f:Nat))),[],[]⟩):=by
 cases f
 all_goals
  refine fnW Tryz.func146 ?_
  (repeat' ((conv=>whnf);first|(intro hb;first|exact zk2 hb|(try (replace hb:=zn0 hb)))|refine zst ?_|refine zbx ?_ ?_|refine zgx ?_ ?_|refine eqR ?_));(all_goals (try (conv=>whnf)))
  all_goals first|(exfalso;simp at hb;done)|(exact zf_)
def Qig (d:Dk) (p:Int):Nat:=if p=4 then d.bl else if p=5 then d.fr else if p=6 then w32 d.st else 0
theorem Qg0 (d:Dk) (p:Int):Fn Tryz.prog 147 [.agg d.C,.s (.int .i64 p)] [] (· =⟨.a (.s (.int .u32 (Qig d p:Nat))),[],[]⟩):=by
 have qs:=Qav d.st
 obtain ⟨B,hB⟩:∃ B,Qig d p=B:=⟨_,rfl⟩
 rw [hB]
 unfold Qig at hB
 obtain ⟨_,_,_,st,_,_,_,_⟩:=d
 dsimp only [Dk.C] at *
 generalize w32 st=ws at *
 by_cases h4:p=4
 ·rw [if_pos h4] at hB
  subst h4 hB
  refine fnW Tryz.func147 ?_
  (repeat' ((conv=>whnf);first|(intro hb;first|exact zk2 hb|(try (replace hb:=zn0 hb)))|refine zst ?_|refine zbx ?_ ?_|refine zgx ?_ ?_|refine eqR ?_));(all_goals (try (conv=>whnf)))
  all_goals exact zF_
 rw [if_neg h4] at hB
 by_cases h5:p=5
 ·rw [if_pos h5] at hB
  subst h5 hB
  refine fnW Tryz.func147 ?_
  (repeat' ((conv=>whnf);first|(intro hb;first|exact zk2 hb|(try (replace hb:=zn0 hb)))|refine zst ?_|refine zbx ?_ ?_|refine zgx ?_ ?_|refine eqR ?_));(all_goals (try (conv=>whnf)))
  all_goals exact zF_
 rw [if_neg h5] at hB
 by_cases h6:p=6
 ·rw [if_pos h6] at hB
  subst h6 hB
  refine fnW Tryz.func147 ?_
  (repeat' ((conv=>whnf);first|(intro hb;first|exact zk2 hb|(try (replace hb:=zn0 hb)))|(with_reducible refine zv qs ?_)|refine zst ?_|refine zbx ?_ ?_|refine zgx ?_ ?_|refine eqR ?_));(all_goals (try (conv=>whnf)))
  all_goals exact zF_
 rw [if_neg h6] at hB
 subst hB
 refine fnW Tryz.func147 ?_
 (repeat' ((conv=>whnf);first|(intro hb;first|exact zk2 hb|(try (replace hb:=zn0 hb)))|refine zst ?_|refine zbx ?_ ?_|refine zgx ?_ ?_|refine eqR ?_));(all_goals (try (conv=>whnf)))
 all_goals exact zF_
def Qhx (n:Nk) (p:Int):Nat:=if p=7 then n.fr else if p=8 then n.go_ else if p=9 then (if n.po=true then 1 else 0)+(if n.re=true then 2 else 0) else 0
theorem QgB (n:Nk) (p:Int):Fn Tryz.prog 148 [.agg n.C,.s (.int .i64 p)] [] (· =⟨.a (.s (.int .u32 (Qhx n p:Nat))),[],[]⟩):=by
 obtain ⟨B,hB⟩:∃ B,Qhx n p=B:=⟨_,rfl⟩
 rw [hB]
 unfold Qhx at hB
 obtain ⟨_,_,po,_,re,_⟩:=n
 dsimp only [Nk.C] at *
 by_cases h4:p=7
 ·rw [if_pos h4] at hB
  subst h4 hB
  refine fnW Tryz.func148 ?_
  (repeat' ((conv=>whnf);first|(intro hb;first|exact zk2 hb|(try (replace hb:=zn0 hb)))|refine zst ?_|refine zbx ?_ ?_|refine zgx ?_ ?_|refine eqR ?_));(all_goals (try (conv=>whnf)))
  all_goals exact zF_
 rw [if_neg h4] at hB
 by_cases h5:p=8
 ·rw [if_pos h5] at hB
  subst h5 hB
  refine fnW Tryz.func148 ?_
  (repeat' ((conv=>whnf);first|(intro hb;first|exact zk2 hb|(try (replace hb:=zn0 hb)))|refine zst ?_|refine zbx ?_ ?_|refine zgx ?_ ?_|refine eqR ?_));(all_goals (try (conv=>whnf)))
  all_goals exact zF_
 rw [if_neg h5] at hB
 by_cases h6:p=9
 ·rw [if_pos h6] at hB
  subst h6 hB
  cases po<;>cases re
  all_goals
   refine fnW Tryz.func148 ?_
   (repeat' ((conv=>whnf);first|(intro hb;first|exact zk2 hb|(try (replace hb:=zn0 hb)))|refine zst ?_|refine zbx ?_ ?_|refine zgx ?_ ?_|refine eqR ?_));(all_goals (try (conv=>whnf)))
   all_goals exact zF_
 rw [if_neg h6] at hB
 subst hB
 refine fnW Tryz.func148 ?_
 (repeat' ((conv=>whnf);first|(intro hb;first|exact zk2 hb|(try (replace hb:=zn0 hb)))|refine zst ?_|refine zbx ?_ ?_|refine zgx ?_ ?_|refine eqR ?_));(all_goals (try (conv=>whnf)))
 all_goals exact zF_
def QhO (bt bg:Nat) (p:Int):Nat:=if p=10 then bt else if p=11 then Qhp bg 32 else 0
theorem QgJ (bt bg:Nat) (h2:bg<4294967296) (p:Int):Fn Tryz.prog 149 [.agg [.int .u32 bt,.int .u32 bg],.s (.int .i64 p)] [] (· =⟨.a (.s (.int .u32 (QhO bt bg p:Nat))),[],[]⟩):=by
 have hg:=Qge bt bg h2
 have hle:=Qeu bg 32
 obtain ⟨B,hB⟩:∃ B,QhO bt bg p=B:=⟨_,rfl⟩
 rw [hB]
 unfold QhO at hB
 generalize Qhp bg 32=P at *
 by_cases h4:p=10
 ·rw [if_pos h4] at hB
  subst h4 hB
  refine fnW Tryz.func149 ?_
  (repeat' ((conv=>whnf);first|(intro hb;first|exact zk2 hb|(try (replace hb:=zn0 hb)))|(refine zpu hg ?_)|refine zst ?_|refine zbx ?_ ?_|refine zgx ?_ ?_|refine eqR ?_));(all_goals (try (conv=>whnf)))
  all_goals exact zF_
 rw [if_neg h4] at hB
 by_cases h5:p=11
 ·rw [if_pos h5] at hB
  subst h5 hB
  refine fnW Tryz.func149 ?_
  (repeat' ((conv=>whnf);first|(intro hb;first|exact zk2 hb|(try (replace hb:=zn0 hb)))|(refine zpu hg ?_)|refine zst ?_|refine zbx ?_ ?_|refine zgx ?_ ?_|refine eqR ?_));(all_goals (try (conv=>whnf)))
  all_goals exact zF_
 rw [if_neg h5] at hB
 subst hB
 refine fnW Tryz.func149 ?_
 (repeat' ((conv=>whnf);first|(intro hb;first|exact zk2 hb|(try (replace hb:=zn0 hb)))|(refine zpu hg ?_)|refine zst ?_|refine zbx ?_ ?_|refine zgx ?_ ?_|refine eqR ?_));(all_goals (try (conv=>whnf)))
 all_goals exact zF_
def QqC (k:ByteArray) (p:Int):ByteArray:=if p=0 then (if k.size=0 then k else k.extract 1 k.size) else k
def Qp6 (k:ByteArray) (p:Int):Nat:=if p=0 then (match k[0]? with|some b=>b.toNat|none=>4294967295) else if p=1 then k.size else 0
theorem Qhb (k:ByteArray) (hk:k.size≤1000000) (p:Int):Fn Tryz.prog 145 [.agg [.str k],.s (.int .i64 p)] [] (· =⟨.tup [.agg [.str (QqC k p)],.s (.int .u32 (Qp6 k p:Nat))],[],[]⟩):=by
 obtain ⟨A,hA⟩:∃ B,QqC k p=B:=⟨_,rfl⟩
 obtain ⟨B,hB⟩:∃ B,Qp6 k p=B:=⟨_,rfl⟩
 rw [hA,hB]
 unfold QqC at hA
 unfold Qp6 at hB
 by_cases h4:p=0
 ·rw [if_pos h4] at hA hB
  subst h4
  by_cases h0:k.size=0
  ·rw [if_pos h0] at hA
   have hn:k[0]?=none:=by simp [h0]
   rw [hn] at hB
   subst hA hB
   dsimp only
   refine fnW Tryz.func145 ?_
   (repeat' ((conv=>whnf);first|(intro hb;first|exact zk2 hb|(try (replace hb:=zn0 hb)))|refine zst ?_|refine zbx ?_ ?_|refine zgx ?_ ?_|refine eqR ?_));(all_goals (try (conv=>whnf)))
   all_goals exact zF_
  ·rw [if_neg h0] at hA
   have hn:k[0]?=some k[0]:=by simp
   rw [hn] at hB
   have hlt:=UInt8.toNat_lt k[0]
   generalize k[0]=b at *
   subst hA hB
   dsimp only
   refine fnW Tryz.func145 ?_
   (repeat' ((conv=>whnf);first|(intro hb;first|exact zk2 hb|(try (replace hb:=zn0 hb)))|((with_reducible apply Ge.mk (α:=UInt8)); · exact hn)|refine zst ?_|refine zbx ?_ ?_|refine zgx ?_ ?_|refine eqR ?_));(all_goals (try (conv=>whnf)))
   all_goals exact zF_
 rw [if_neg h4] at hA hB
 by_cases h5:p=1
 ·rw [if_pos h5] at hB
  subst h5 hA hB
  refine fnW Tryz.func145 ?_
  (repeat' ((conv=>whnf);first|(intro hb;first|exact zk2 hb|(try (replace hb:=zn0 hb)))|refine zst ?_|refine zbx ?_ ?_|refine zgx ?_ ?_|refine eqR ?_));(all_goals (try (conv=>whnf)))
  all_goals exact zF_
 rw [if_neg h5] at hB
 subst hA hB
 refine fnW Tryz.func145 ?_
 (repeat' ((conv=>whnf);first|(intro hb;first|exact zk2 hb|(try (replace hb:=zn0 hb)))|refine zst ?_|refine zbx ?_ ?_|refine zgx ?_ ?_|refine eqR ?_));(all_goals (try (conv=>whnf)))
 all_goals exact zF_
def Qbk (n f:Nat):Bool:=decide ((f:Int)<(mpg n:Nat))
theorem QcV (xs:List Nat) (n:Nat) (hl:xs.length=n) (hn:n<4294967296) (f:Nat) (hf:f<4294967296):Fn Tryz.prog 142 [.s (.sl 0 0 n),.s (.int .u32 f)] [⟨false,1,wsv xs⟩] (· =⟨.a (.s (.bool (Qbk n f))),[],[]⟩):=by
 have hp:=QbN xs n (by omega)
 have hsx:=Qaa xs
 have hmp:=Qbe n
 unfold Qbk
 generalize mpg n=P at *
 generalize wsv xs=XX at *
 have c1:IntKind.u64.wrap (P:Int)=P:=by rw [Qxc (by omega) (by omega)]
 have c2:IntKind.u64.wrap (f:Int)=f:=by rw [Qxc (by omega) (by omega)]
 refine fnW Tryz.func142 ?_
 (repeat' ((conv=>whnf);first|(intro hb;first|exact zk2 hb|(try (replace hb:=zn0 hb)))|(with_reducible first|refine zv c1 ?_|refine zv c2 ?_)|(refine Qay hp ?_)|refine zst ?_|refine zbx ?_ ?_|refine zgx ?_ ?_|refine eqR ?_));(all_goals (try (conv=>whnf)))
 all_goals exact Qbr
def Qw7 (a:Bool) (d:Nat) (f:Bool):List SV:=if a=true then [.bool false,.int .u32 d,.bool true] else [.bool a,.int .u32 d,.bool f]
theorem QiF (a:Bool) (d:Nat) (f:Bool):Fn Tryz.prog 128 [.agg [.bool a,.int .u32 d,.bool f]] [] (· =⟨.tup [.agg (Qw7 a d f),.s (.bool a)],[],[]⟩):=by
 unfold Qw7
 cases a
 all_goals
  simp only [if_true,Bool.false_eq_true,if_false]
  refine fnW Tryz.func128 ?_
  (repeat' ((conv=>whnf);first|(intro hb;first|exact zk2 hb|(try (replace hb:=zn0 hb)))|refine zst ?_|refine zbx ?_ ?_|refine zgx ?_ ?_|refine eqR ?_));(all_goals (try (conv=>whnf)))
  all_goals first|(exfalso;simp at hb;done)|(exact zf_)
def QqG (k:ByteArray) (b:Nat):ByteArray:=if 16≤(k.size:Int) then k else k++strOfNums [b]
theorem QiY (k:ByteArray) (hk:k.size≤1000000) (b:Nat):Fn Tryz.prog 129 [.agg [.str k],.s (.int .u8 b)] [] (· =⟨.tup [.agg [.str (QqG k b)],.s (.bool (decide ((k.size:Int)<16)))],[],[]⟩):=by
 obtain ⟨K2,hK⟩:∃ B,QqG k b=B:=⟨_,rfl⟩
 rw [hK]
 unfold QqG at hK
 by_cases h:16≤(k.size:Int)
 ·rw [if_pos h] at hK
  rw [decide_eq_false (by omega)]
  subst hK
  refine fnW Tryz.func129 ?_
  (repeat' ((conv=>whnf);first|(intro hb;first|exact zk2 hb|(try (replace hb:=zn0 hb)))|refine zst ?_|refine zbx ?_ ?_|refine zgx ?_ ?_|refine eqR ?_));(all_goals (try (conv=>whnf)))
  all_goals first|(exfalso;omega)|(exfalso;simp at hb;omega)|(exact zf_)
 ·rw [if_neg h] at hK
  rw [decide_eq_true (by omega)]
  have hs1:(strOfNums [(b:Int)]).size=1:=rfl
  refine fnW Tryz.func129 ?_
  (repeat' ((conv=>whnf);first|(intro hb;first|exact zk2 hb|(try (replace hb:=zn0 hb)))|((with_reducible apply Ge.mk (α:=List Int)); · exact rfl)|((with_reducible apply Vl.mk (α:=ByteArray)); · with_reducible exact hK)|refine zst ?_|refine zbx ?_ ?_|refine zgx ?_ ?_|refine eqR ?_));(all_goals (try (conv=>whnf)))
  all_goals first|(exfalso;omega)|(exfalso;simp at hb;omega)|(exact zf_)
def Qw0 (d:Nat):List SV:=if (d:Int)=0 then [.bool false,.int .u32 0,.bool false] else [.bool true,.int .u32 d,.bool false]
theorem Qk1 (d:Nat):Fn Tryz.prog 150 [.s (.int .u32 d)] [] (· =⟨.a (.agg (Qw0 d)),[],[]⟩):=by
 unfold Qw0
 by_cases h:(d:Int)=0
 ·rw [if_pos h]
  refine fnW Tryz.func150 ?_
  (repeat' ((conv=>whnf);first|(intro hb;first|exact zk2 hb|(try (replace hb:=zn0 hb)))|refine zst ?_|refine zbx ?_ ?_|refine zgx ?_ ?_|refine eqR ?_));(all_goals (try (conv=>whnf)))
  all_goals first|(exfalso;omega)|(exfalso;simp at hb;omega)|(exact zf_)
 ·rw [if_neg h]
  refine fnW Tryz.func150 ?_
  (repeat' ((conv=>whnf);first|(intro hb;first|exact zk2 hb|(try (replace hb:=zn0 hb)))|refine zst ?_|refine zbx ?_ ?_|refine zgx ?_ ?_|refine eqR ?_));(all_goals (try (conv=>whnf)))
  all_goals first|(exfalso;omega)|(exfalso;simp at hb;omega)|(exact zf_)
theorem Qs0 (a:Bool) (d:Nat) (f:Bool) (w:Nat):Fn Tryz.prog 118 [.agg [.bool a,.int .u32 d,.bool f],.s (.int .u32 w)] [] (· =⟨.a (.s (.bool (a&&decide ((d:Int)≤w)))),[],[]⟩):=by
 cases a
 all_goals
  refine fnW Tryz.func118 ?_
  (repeat' ((conv=>whnf);first|(intro hb;first|exact zk2 hb|(try (replace hb:=zn0 hb)))|refine zst ?_|refine zbx ?_ ?_|refine zgx ?_ ?_|refine eqR ?_));(all_goals (try (conv=>whnf)))
  all_goals first|(exfalso;simp at hb;done)|(refine Qej ?_ ?_;(focus (exact zf_));simp)
def Qq2 (d:Dk) (c:Nat):List SV:=if d.st=1 then (if d.cmd=1 then [.int .i64 3,.int .u64 c,.int .u32 d.ob,.str ⟨#[]⟩] else if d.cmd=2 then [.int .i64 4,.int .u64 c,.int .u32 d.ob,.str d.od] else [.int .i64 0,.int .u64 0,.int .u32 0,.str ⟨#[]⟩]) else [.int .i64 0,.int .u64 0,.int .u32 0,.str ⟨#[]⟩]
def Qxb (d:Dk):Bool:=decide (d.st=1∧(d.cmd=1∨d.cmd=2))
theorem Qhq (d:Dk) (c:Nat):Fn Tryz.prog 167 [.agg d.C,.s (.int .u64 c)] [] (· =⟨.tup [.agg (Qq2 d c),.s (.bool (Qxb d))],[],[]⟩):=by
 obtain ⟨O,hO⟩:∃ B,Qq2 d c=B:=⟨_,rfl⟩
 obtain ⟨B,hB⟩:∃ B,Qxb d=B:=⟨_,rfl⟩
 rw [hO,hB]
 unfold Qq2 at hO
 unfold Qxb at hB
 obtain ⟨_,_,_,st,cmd,_,_,_⟩:=d
 dsimp only [Dk.C] at *
 by_cases h1:st=1
 ·rw [if_pos h1] at hO
  by_cases h2:cmd=1
  ·rw [if_pos h2] at hO
   rw [decide_eq_true (by omega)] at hB
   subst hO hB h1 h2
   refine fnW Tryz.func167 ?_
   (repeat' ((conv=>whnf);first|(intro hb;first|exact zk2 hb|(try (replace hb:=zn0 hb)))|refine zst ?_|refine zbx ?_ ?_|refine zgx ?_ ?_|refine eqR ?_));(all_goals (try (conv=>whnf)))
   all_goals first|(exfalso;omega)|(exfalso;simp at hb;omega)|(exact zf_)
  rw [if_neg h2] at hO
  by_cases h3:cmd=2
  ·rw [if_pos h3] at hO
   rw [decide_eq_true (by omega)] at hB
   subst hO hB h1 h3
   refine fnW Tryz.func167 ?_
   (repeat' ((conv=>whnf);first|(intro hb;first|exact zk2 hb|(try (replace hb:=zn0 hb)))|refine zst ?_|refine zbx ?_ ?_|refine zgx ?_ ?_|refine eqR ?_));(all_goals (try (conv=>whnf)))
   all_goals first|(exfalso;omega)|(exfalso;simp at hb;omega)|(exact zf_)
  rw [if_neg h3] at hO
  rw [decide_eq_false (by omega)] at hB
  subst hO hB h1
  refine fnW Tryz.func167 ?_
  (repeat' ((conv=>whnf);first|(intro hb;first|exact zk2 hb|(try (replace hb:=zn0 hb)))|refine zst ?_|refine zbx ?_ ?_|refine zgx ?_ ?_|refine eqR ?_));(all_goals (try (conv=>whnf)))
  all_goals first|(exfalso;omega)|(exfalso;simp at hb;omega)|(exact zf_)
 rw [if_neg h1] at hO
 rw [decide_eq_false (by omega)] at hB
 subst hO hB
 refine fnW Tryz.func167 ?_
 (repeat' ((conv=>whnf);first|(intro hb;first|exact zk2 hb|(try (replace hb:=zn0 hb)))|refine zst ?_|refine zbx ?_ ?_|refine zgx ?_ ?_|refine eqR ?_));(all_goals (try (conv=>whnf)))
 all_goals first|(exfalso;omega)|(exfalso;simp at hb;omega)|(exact zf_)
def inV (M:Mc) (p:Int) (w:Nat):Nat:=if p≤1 then Qp6 M.ks p else if p=2 then w else if p=3 then Qmk M.tf else if p≤6 then Qig M.d p else if p≤9 then Qhx M.n p else QhO M.bt M.bg p
def inM (M:Mc) (p:Int):Mc:=if p≤1 then { M with ks:=QqC M.ks p } else M
theorem QwP (M:Mc) (hM:M.ok) (p:Int) (w:Nat):Fn Tryz.prog 134 [.s (.ptr 0 0),.s (.int .i64 p),.s (.int .u32 w)] [⟨true,1,M.C 1⟩,⟨true,1,wsv M.m⟩]
  (· =⟨.a (.s (.int .u32 (inV M p w:Nat))),[(0,some ⟨true,1,(inM M p).C 1⟩)],[]⟩):=by
 have q1:=Qhb M.ks hM.dv.2.2.2.2 p
 have q2:=Qg6 M.ta M.td M.tf
 have q3:=Qg0 M.d p
 have q4:=QgB M.n p
 have q5:=QgJ M.bt M.bg hM.dv.2.2.1 p
 have hsx:=Qaa M.m
 obtain ⟨B,hB⟩:∃ B,inV M p w=B:=⟨_,rfl⟩
 obtain ⟨M2,hM2⟩:∃ B,inM M p=B:=⟨_,rfl⟩
 rw [hB,hM2]
 unfold inV at hB
 unfold inM at hM2
 generalize Qp6 M.ks p=v1 at *
 generalize QqC M.ks p=k2 at *
 generalize Qmk M.tf=v2 at *
 generalize Qig M.d p=v3 at *
 generalize Qhx M.n p=v4 at *
 generalize QhO M.bt M.bg p=v5 at *
 obtain ⟨hx,hc,hxr,hcr,hpr,hmr,_,hdk,hnk,hdv⟩:=hM
 obtain ⟨_,_,_,m,ks,ta,td,tf,d,n,bt,bg,_,_,_⟩:=M
 dsimp only at *
 obtain ⟨_,_,_,_,_,_,_,_,_,_,_,_,_,_,_,_,rfl⟩:=Qaq hx
 obtain ⟨_,_,_,_,_,_,_,_,rfl⟩:=QaJ hc
 obtain ⟨_,_,_,_,_,_,_,_⟩:=d
 obtain ⟨_,_,_,_,_,_⟩:=n
 dsimp only [Mc.C,Mc.D,Dk.C,Nk.C,Dk.ok,Nk.ok] at *
 generalize hnn:m.length=nn at *
 generalize wsv m=XX at *
 clear hxr hcr hdk hnk hmr hdv hpr
 by_cases h1:p≤1
 ·rw [if_pos h1] at hB hM2
  subst hB hM2
  dsimp only
  rw [hnn]
  refine fnW Tryz.func134 ?_
  (repeat' ((conv=>whnf);first|(intro hb;first|exact zk2 hb|(try (replace hb:=zn0 hb)))|(refine zpu q1 ?_)|refine zst ?_|refine zbx ?_ ?_|refine zgx ?_ ?_|refine eqR ?_));(all_goals (try (conv=>whnf)))
  all_goals first|(exfalso;omega)|(exfalso;simp at hb;done)|(exact QbS)|(exfalso;simp only [decide_eq_true_eq,decide_eq_false_iff_not,beq_iff_eq,beq_eq_false_iff_ne,ne_eq] at *;omega)
 rw [if_neg h1] at hB hM2
 subst hM2
 by_cases h2:p=2
 ·rw [if_pos h2] at hB
  subst hB h2
  dsimp only
  rw [hnn]
  refine fnW Tryz.func134 ?_
  (repeat' ((conv=>whnf);first|(intro hb;first|exact zk2 hb|(try (replace hb:=zn0 hb)))|refine zst ?_|refine zbx ?_ ?_|refine zgx ?_ ?_|refine eqR ?_));(all_goals (try (conv=>whnf)))
  all_goals first|(exfalso;omega)|(exfalso;simp at hb;done)|(exact QbS)|(exfalso;simp only [decide_eq_true_eq,decide_eq_false_iff_not,beq_iff_eq,beq_eq_false_iff_ne,ne_eq] at *;omega)
 rw [if_neg h2] at hB
 by_cases h3:p=3
 ·rw [if_pos h3] at hB
  subst hB h3
  dsimp only
  rw [hnn]
  refine fnW Tryz.func134 ?_
  (repeat' ((conv=>whnf);first|(intro hb;first|exact zk2 hb|(try (replace hb:=zn0 hb)))|(refine zpu q2 ?_)|refine zst ?_|refine zbx ?_ ?_|refine zgx ?_ ?_|refine eqR ?_));(all_goals (try (conv=>whnf)))
  all_goals first|(exfalso;omega)|(exfalso;simp at hb;done)|(exact QbS)|(exfalso;simp only [decide_eq_true_eq,decide_eq_false_iff_not,beq_iff_eq,beq_eq_false_iff_ne,ne_eq] at *;omega)
 rw [if_neg h3] at hB
 by_cases h4:p≤6
 ·rw [if_pos h4] at hB
  subst hB
  dsimp only
  rw [hnn]
  refine fnW Tryz.func134 ?_
  (repeat' ((conv=>whnf);first|(intro hb;first|exact zk2 hb|(try (replace hb:=zn0 hb)))|(refine zpu q3 ?_)|refine zst ?_|refine zbx ?_ ?_|refine zgx ?_ ?_|refine eqR ?_));(all_goals (try (conv=>whnf)))
  all_goals first|(exfalso;omega)|(exfalso;simp at hb;done)|(exact QbS)|(exfalso;simp only [decide_eq_true_eq,decide_eq_false_iff_not,beq_iff_eq,beq_eq_false_iff_ne,ne_eq] at *;omega)
 rw [if_neg h4] at hB
 by_cases h5:p≤9
 ·rw [if_pos h5] at hB
  subst hB
  dsimp only
  rw [hnn]
  refine fnW Tryz.func134 ?_
  (repeat' ((conv=>whnf);first|(intro hb;first|exact zk2 hb|(try (replace hb:=zn0 hb)))|(refine zpu q4 ?_)|refine zst ?_|refine zbx ?_ ?_|refine zgx ?_ ?_|refine eqR ?_));(all_goals (try (conv=>whnf)))
  all_goals first|(exfalso;omega)|(exfalso;simp at hb;done)|(exact QbS)|(exfalso;simp only [decide_eq_true_eq,decide_eq_false_iff_not,beq_iff_eq,beq_eq_false_iff_ne,ne_eq] at *;omega)
 rw [if_neg h5] at hB
 subst hB
 dsimp only
 rw [hnn]
 refine fnW Tryz.func134 ?_
 (repeat' ((conv=>whnf);first|(intro hb;first|exact zk2 hb|(try (replace hb:=zn0 hb)))|(refine zpu q5 ?_)|refine zst ?_|refine zbx ?_ ?_|refine zgx ?_ ?_|refine eqR ?_));(all_goals (try (conv=>whnf)))
 all_goals first|(exfalso;omega)|(exfalso;simp at hb;done)|(exact QbS)|(exfalso;simp only [decide_eq_true_eq,decide_eq_false_iff_not,beq_iff_eq,beq_eq_false_iff_ne,ne_eq] at *;omega)
def Qd2 (x:Nat):Nat→List Int
 | 0=> []
 | j+1=>Qd2 x j++ [((x / 2^(8*j)%256:Nat):Int)]
theorem Qd6 (x:Nat):∀ j,(Qd2 x j).length=j
 | 0=>rfl
 | j+1=>by unfold Qd2;rw [List.length_append,Qd6 x j];rfl
def Qw8 (x j:Nat) (R:List SV):St :=
 ⟨[(0,.a (.s (.int .u32 x))),(1,.a (.s (.int .i64 4))),(5,.a (.s (.sl 0 0 j))),(6,.a (.s (.int .i64 j)))],[(0,some ⟨true,1,R⟩)],[0]⟩
theorem QcR:∀ l:List Int,Qds (isv .u8 l)=some l
 | []=>rfl
 | x::l=>by
  have:=QcR l
  unfold isv at *
  rw [List.map_cons]
  simp only [Qds,this]
theorem QrJ (x:Nat) (hx:x<4294967296):Fn Tryz.prog 169 [.s (.int .u32 x),.s (.int .i64 4)] [] (· =⟨.a (.s (.str (strOfNums (Qd2 x 4)))),[],[]⟩):=by
 refine fnW Tryz.func169 ?_
 (repeat' ((conv=>whnf);first|(intro hb;first|exact zk0 hb|(try (replace hb:=zn0 hb)))|refine zst ?_|refine zbx ?_ ?_|refine zgx ?_ ?_));(all_goals (try (conv=>whnf)))
 refine Lp.inv (fun mm σ=>∃ j:Nat,mm+j=4∧σ=Qw8 x j (isv .u8 (Qd2 x j))) ?_ ?_
 ·refine ⟨4,Qw8 x 0 [],?_,0,by omega,rfl⟩
  apply Qhw (m:= [(0,none)])
  ·repeat' (first|exact Qc4|apply Qci)
   all_goals first|exact Qcu (Qcx (Qcd rfl))|exact Qcu (Qcx (Qcw rfl))|exact Qcu (Qcx (Qes rfl))
  ·show HlS _ _ [] _
   refine QbG (QcF rfl rfl) ?_
   exact Qcy
  ·rfl
 rintro mm σ ⟨j,hmj,rfl⟩
 unfold Qw8
 have hRs:=QaH .u8 (Qd2 x (j+1))
 have hR0:=QaH .u8 (Qd2 x j)
 have hlen:(isv .u8 (Qd2 x j)).length=j:=by unfold isv;rw [List.length_map,Qd6]
 by_cases hj:j<4
 ·have s1:=Qj4 x (8*j) (by omega)
  have happ:isv .u8 (Qd2 x j)++ [.int .u8 ((x / 2^(8*j)%256:Nat):Int)]=isv .u8 (Qd2 x (j+1)):=by unfold isv;rw [Qd2,List.map_append];rfl
  have q1:IntKind.i64.wrap (8*(j:Int))=((8*j:Nat):Int):=by rw [QbI (by omega) (by omega)];omega
  have q2:IntKind.i64.wrap ((j:Int)+1)=((j+1:Nat):Int):=by rw [QbI (by omega) (by omega)];omega
  have q3:IntKind.u64.wrap ((8*j:Nat):Int)=((8*j:Nat):Int):=by rw [Qxc (by omega) (by omega)]
  have q4:∀ y:Nat,IntKind.u8.wrap (y:Int)=((y%256:Nat):Int):=fun y=>by rw [QAH];omega
  have q4':=q4 (x / 2^(8*j))
  clear q4
  generalize x / 2^(8*j)=y at *
  generalize isv .u8 (Qd2 x j)=R0 at *
  generalize hR1:isv .u8 (Qd2 x (j+1))=R1 at *
  generalize h8:8*j=j8 at *
  generalize y%256=z at *
  (repeat' ((conv=>whnf);first|(intro hb;first|exact zk2 hb|(try (replace hb:=zn0 hb)))|(with_reducible first|refine zv q1 ?_|refine zv q2 ?_|refine zv q3 ?_|refine zv q4' ?_|refine zv s1 ?_)|(apply Sd.mk; · refine ⟨rfl,rfl,?_,?_,?_⟩;(focus (show R0.length=j*1;omega));(focus (show (j+1)*1≤_;omega));(focus omega))|((with_reducible apply Vl.mk (α:=List SV)); · with_reducible exact happ)|refine zst ?_|refine zbx ?_ ?_|refine zgx ?_ ?_|refine eqR ?_));(all_goals (try (conv=>whnf)))
  all_goals first
   | (
     refine ⟨mm-1,Qw8 x (j+1) R1,by omega,?_,j+1,by omega,by rw [hR1];rfl⟩
     (exact zwL [(0,some _)]))
  
 ·obtain rfl:j=4:=by omega
  have ht:=QcR (Qd2 x 4)
  have sg:(isv .u8 (Qd2 x 4)).length=4∧∀ (i:Nat) s,(isv .u8 (Qd2 x 4))[i]?=some s→(isv .u8 (Qd2 x 4))[0+i]?=some s:=⟨hlen,fun i s hs=>by rw [Nat.zero_add];exact hs⟩
  generalize isv .u8 (Qd2 x 4)=R0 at *
  generalize Qd2 x 4=L at *
  (repeat' ((conv=>whnf);first|(intro hb;first|exact zk2 hb|(try (replace hb:=zn0 hb)))|(apply Sg.mk; · exact sg)|((with_reducible apply Ge.mk (α:=List Int)); · exact ht)|refine zst ?_|refine zbx ?_ ?_|refine zgx ?_ ?_|refine eqR ?_));(all_goals (try (conv=>whnf)))
  all_goals first|(exfalso;simp at hb;done)|(exact zf_)
theorem QjW (l:List Int) (h:∀ y∈l,0≤y∧y<256):QbZ (strOfNums l)=isv .u8 l:=by
 unfold QbZ strOfNums isv
 simp
 intro y hy
 have:=h y hy
 omega
theorem Qmp (x:Nat):∀ j,∀ y∈Qd2 x j,0≤y∧y<256
 | 0=>fun y hy=>by cases hy
 | j+1=>fun y hy=>by
  unfold Qd2 at hy
  rcases List.mem_append.1 hy with h|h
  ·exact Qmp x j y h
  ·rw [List.mem_singleton] at h;subst h;omega
def pgL (xs:List Nat) (p:Nat):Nat→List Int
 | 0=> []
 | j+1=>pgL xs p j++Qd2 (xs.getD (p*32+j) 0) 4
theorem QfH (xs:List Nat) (p:Nat):∀ j,(pgL xs p j).length=4*j
 | 0=>rfl
 | j+1=>by unfold pgL;rw [List.length_append,QfH xs p j,Qd6];omega
def QwY (n p j r:Nat) (X R:List SV):St :=
 ⟨[(0,.a (.s (.sl 0 0 n))),(1,.a (.s (.int .i64 p))),(6,.a (.s (.sl 1 0 r))),(7,.a (.s (.int .i64 j)))],[(0,some ⟨false,1,X⟩),(1,some ⟨true,1,R⟩)],[0]⟩
def pgV (xs:List Nat) (n p:Nat):ByteArray:=if p<mpg n then strOfNums (pgL xs p 32) else ⟨#[]⟩
theorem Qgt (xs:List Nat) (n:Nat) (hl:xs.length=n) (hn:n≤1000000) (hxr:∀ y∈xs,y<4294967296) (p:Nat):Fn Tryz.prog 166 [.s (.sl 0 0 n),.s (.int .i64 p)] [⟨false,1,wsv xs⟩] (· =⟨.tup [.s (.str (pgV xs n p)),.s (.bool (decide (p<mpg n)))],[],[]⟩):=by
 have hp:=QbN xs n (by omega)
 have hsx:=Qaa xs
 have hmp:=Qbe n
 have hmn:mpg n*32≤n:=by unfold mpg;split<;>omega
 unfold pgV
 by_cases hlt:p<mpg n
 ·rw [if_pos hlt,decide_eq_true hlt]
  generalize mpg n=P at *
  generalize hX:wsv xs=XX at *
  refine fnW Tryz.func166 ?_
  (repeat' ((conv=>whnf);first|(intro hb;first|exact zk2 hb|(try (replace hb:=zn0 hb)))|(refine Qay hp ?_)|refine zst ?_|refine zbx ?_ ?_|refine zgx ?_ ?_|refine eqR ?_));(all_goals (try (conv=>whnf)))
  all_goals try (exfalso;simp at hb;omega)
  refine Lp.inv (fun mm σ=>∃ j:Nat,mm+j=32∧σ=QwY n p j (4*j) XX (isv .u8 (pgL xs p j))) ?_ ?_
  ·refine ⟨32,QwY n p 0 0 XX [],?_,0,by omega,rfl⟩
   apply Qhw (m:= [(0,some 0),(1,none)])
   ·repeat' (first|exact Qc4|apply Qci)
    all_goals first|exact Qcu (Qcx (Qcd rfl))|exact Qcu (Qcx (Qcw rfl))|exact Qcu (Qcx (Qes rfl))
   ·show HlS _ _ [] _
    refine QbG (Qb0 rfl rfl rfl rfl (Qa8 hsx)) ?_
    refine QbG (QcF rfl rfl) ?_
    exact Qcy
   ·rfl
  rintro mm σ ⟨j,hmj,rfl⟩
  unfold QwY
  have hRs:=QaH .u8 (pgL xs p (j+1))
  have hR0:=QaH .u8 (pgL xs p j)
  have hlen:(isv .u8 (pgL xs p j)).length=4*j:=by unfold isv;rw [List.length_map,QfH]
  by_cases hj:j<32
  ·have hlo:=QrJ (xs.getD (p*32+j) 0) (Qad hxr _)
   have happ:isv .u8 (pgL xs p j)++QbZ (strOfNums (Qd2 (xs.getD (p*32+j) 0) 4))=isv .u8 (pgL xs p (j+1)):=by rw [QjW _ (Qmp _ _),pgL];unfold isv;rw [List.map_append]
   have hsz:(strOfNums (Qd2 (xs.getD (p*32+j) 0) 4)).size=4:=by rw [strOfNums_size,Qd6]
   have hge:XX[p*32+j]?=some (.int .u32 (xs.getD (p*32+j) 0:Nat)):=by
    rw [← hX]
    unfold wsv
    rw [List.getElem?_map,List.getD_eq_getElem?_getD,List.getElem?_eq_getElem (by omega)]
    rfl
   have q1:IntKind.i64.wrap ((p:Int)*32)=((p*32:Nat):Int):=by rw [QbI (by omega) (by omega)];omega
   have q2:IntKind.i64.wrap ((j:Int)+1)=((j+1:Nat):Int):=by rw [QbI (by omega) (by omega)];omega
   have q3:IntKind.i64.wrap (((p*32:Nat):Int)+(j:Int))=((p*32+j:Nat):Int):=by rw [QbI (by omega) (by omega)];omega
   generalize xs.getD (p*32+j) 0=v at *
   generalize strOfNums (Qd2 v 4)=S at *
   have hn2:4*j+S.size=4*(j+1):=by omega
   generalize isv .u8 (pgL xs p j)=R0 at *
   generalize hR1:isv .u8 (pgL xs p (j+1))=R1 at *
   have hx1:(0:Int)≤((p*32+j:Nat):Int)∧((p*32+j:Nat):Int)<(n:Int):=by omega
   generalize p*32+j=ix at *
   generalize p*32=p32 at *
   generalize hr0:4*j=r0 at *
   generalize hr1:4*(j+1)=r1 at *
   (repeat' ((conv=>whnf);first|(intro hb;first|exact zk2 hb|(try (replace hb:=zn0 hb)))|(with_reducible first|refine zv q1 ?_|refine zv q2 ?_|refine zv q3 ?_)|((with_reducible apply Vl.mk (α:=Nat)); · with_reducible exact hn2)|((with_reducible apply Ge.mk (α:=SV)); · exact hge)|(refine zpu hlo ?_)|(apply Sd.mk; · first|exact hx1|(refine ⟨rfl,rfl,?_,?_,?_⟩;(focus (show R0.length=r0*1;omega));(focus (show (r0+S.size)*1≤_;omega));(focus omega)))|((with_reducible apply Vl.mk (α:=List SV)); · with_reducible exact happ)|refine zst ?_|refine zbx ?_ ?_|refine zgx ?_ ?_|refine eqR ?_));(all_goals (try (conv=>whnf)))
   all_goals first
    | (
      refine ⟨mm-1,QwY n p (j+1) r1 XX R1,by omega,?_,j+1,by omega,by rw [hR1,hr1];rfl⟩
      (exact zwL [(0,some 0),(1,some _)]))
   
  ·clear hRs
   obtain rfl:j=32:=by omega
   have ht:=QcR (pgL xs p 32)
   have sg:(isv .u8 (pgL xs p 32)).length=4*32∧∀ (i:Nat) s,(isv .u8 (pgL xs p 32))[i]?=some s→(isv .u8 (pgL xs p 32))[0+i]?=some s:=⟨hlen,fun i s hs=>by rw [Nat.zero_add];exact hs⟩
   generalize isv .u8 (pgL xs p 32)=R0 at *
   generalize pgL xs p 32=L at *
   generalize h128:4*32=r0 at *
   (repeat' ((conv=>whnf);first|(intro hb;first|exact zk2 hb|(try (replace hb:=zn0 hb)))|(apply Sg.mk; · exact sg)|((with_reducible apply Ge.mk (α:=List Int)); · exact ht)|refine zst ?_|refine zbx ?_ ?_|refine zgx ?_ ?_|refine eqR ?_));(all_goals (try (conv=>whnf)))
   all_goals first|(exfalso;simp at hb;done)|(exact Qbr)
 ·rw [if_neg hlt,decide_eq_false hlt]
  generalize mpg n=P at *
  generalize wsv xs=XX at *
  refine fnW Tryz.func166 ?_
  (repeat' ((conv=>whnf);first|(intro hb;first|exact zk2 hb|(try (replace hb:=zn0 hb)))|(refine Qay hp ?_)|refine zst ?_|refine zbx ?_ ?_|refine zgx ?_ ?_|refine eqR ?_));(all_goals (try (conv=>whnf)))
  all_goals first|(exfalso;simp at hb;omega)|(exact Qbr)
end Go.Proofs.YtjgikeckbeeehaaGreat
