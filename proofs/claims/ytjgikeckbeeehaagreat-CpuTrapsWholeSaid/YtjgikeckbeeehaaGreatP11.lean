import Derived.Test.YtjgikeckbeeehaaGreatP10
set_option linter.unusedSimpArgs false
set_option linter.unusedVariables false
set_option maxHeartbeats 100000000
set_option maxRecDepth 100000
namespace Go.Proofs.YtjgikeckbeeehaaGreat
open Go Go.RowKit
theorem QeG {xs:List Nat} {n s r va:Nat} {sz ac:Int} (h:rsK xs n s r va sz ac=0):rsO xs n s r va sz ac=true:=by
 unfold rsK at h
 split at h
 ·assumption
 ·split at h
  ·omega
  ·split at h
   ·unfold Qcn at h;split at h;omega;split at h<;>omega
   ·omega
theorem QeA {xs:List Nat} {n s r va:Nat} {sz ac:Int} (h:rsO xs n s r va sz ac=true) (hva:va<4294967296):acB sz n (rsA xs n s r va sz ac)=true∧rsA xs n s r va sz ac<4294967296:=by
 have h0:=h
 unfold rsO at h
 simp only [Bool.and_eq_true,decide_eq_true_eq] at h
 obtain ⟨⟨⟨_,h2⟩,h3⟩,h4⟩:=h
 unfold rsA
 rw [h0,if_pos rfl]
 cases hp:Qjj s with
 | false =>
  rw [hp,if_neg (by decide)] at h4
  rw [if_neg (by decide)]
  exact ⟨h4,hva⟩
 | true =>
  rw [hp,if_pos rfl] at h4
  rw [if_pos rfl]
  unfold Qfv at h4
  simp only [Bool.and_eq_true,decide_eq_true_eq] at h4
  have hm:=Qbe n
  have hf:=h4.2
  unfold szB at h2
  simp only [decide_eq_true_eq] at h2
  generalize frW (Qa9 xs r va)=f at *
  refine ⟨?_,by omega⟩
  unfold acB
  rcases h2 with rfl|rfl
  ·rw [if_neg (by decide)]
   unfold ld1
   exact decide_eq_true (by omega)
  ·rw [if_pos rfl]
   unfold ld4
   rw [decide_eq_true (by omega),decide_eq_true (by omega)];rfl
def ftW (xs:List Nat) (n s r pc:Nat):Nat:=if rsK xs n s r pc 4 1=0 then (rsM xs n s r pc 4 1).getD (rsA xs n s r pc 4 1 / 4) 0 else 0
theorem Qj7 (xs:List Nat) (n s r pc:Nat) (hxr:∀ y∈xs,y<4294967296):ftW xs n s r pc<4294967296:=by
 unfold ftW;split
 ·exact Qad (Qcl xs n s r pc 4 1 hxr) _
 ·decide
theorem Qg4 (x:List Nat) (pc:Nat) (c:List Nat) (xs:List Nat) (n:Nat) (hx:x.length=16) (hc:c.length=8) (hcl:∀ y∈c,y<4294967296) (hpc:pc<4294967296) (hl:xs.length=n) (hxr:∀ y∈xs,y<4294967296) (hn:n<4294967296) :
  Fn Tryz.prog 12 [.agg (Qao x pc c),.s (.sl 0 0 n)] [⟨false,1,wsv xs⟩]
   (· =⟨.tup [.s (.int .u32 (ftW xs n (c.getD 0 0) (c.getD 6 0) pc:Nat)),.s (.sl 1 0 n),.s (.int .i64 (rsK xs n (c.getD 0 0) (c.getD 6 0) pc 4 1))],[],[⟨true,1,wsv (rsM xs n (c.getD 0 0) (c.getD 6 0) pc 4 1)⟩]⟩):=by
 have hr:=Qce x pc c xs n pc 4 1 hx hc hcl hl hxr hn hpc
 have hlCC:=Qai (x) (pc) (c) hx hc
 have hsCC:=Qae (x) (pc) (c)
 have hkCC:=Qab (x) (pc) (c)
 have hzCC:=Qac hlCC
 have gpCC:=Qas (x) (pc) (c) hx
 generalize c.getD 0 0=S at *
 generalize c.getD 6 0=R at *
 have hsx:=Qaa xs
 have hsm:=Qaa (rsM xs n S R pc 4 1)
 unfold ftW
 by_cases hK:rsK xs n S R pc 4 1=0
 ·have hok:=QeG hK
  obtain ⟨ha,hb1⟩:=QeA hok hpc
  have hlo:=QcK (rsM xs n S R pc 4 1) n (rsA xs n S R pc 4 1) (by rw [Qa4];exact hl) hn hb1 ha
  rw [if_pos hK]
  rw [hK] at hr ⊢
  generalize rsA xs n S R pc 4 1=AA at *
  generalize (rsM xs n S R pc 4 1).getD (AA / 4) 0=W at *
  generalize wsv (rsM xs n S R pc 4 1)=XM at *
  generalize wsv xs=XX at *
  generalize Qao (x) (pc) (c)=CC at *
  refine fnW Tryz.func12 ?_
  (repeat' ((conv=>whnf);first|(intro hb;first|exact zk2 hb|(try (replace hb:=zn0 hb)))|(apply Sd.mk; · first|exact ⟨hlCC,hkCC,rfl,(by show 0+CC.length≤25;omega)⟩|(refine ⟨rfl,rfl,rfl,?_⟩;show 0+16+1≤CC.length;omega))|((with_reducible apply Vl.mk (α:=List SV)); · first|exact hzCC _ (by first|rfl|assumption))|(apply Sg.mk; · first|exact Qaj CC hlCC)|((with_reducible apply Ge.mk (α:=SV)); · first|exact gpCC)|(refine Qay hr ?_)|(refine Qay hlo ?_)|refine zst ?_|refine zbx ?_ ?_|refine zgx ?_ ?_|refine eqR ?_));(all_goals (try (conv=>whnf)))
  all_goals exact Qco
 ·rw [if_neg hK]
  generalize rsK xs n S R pc 4 1=K at *
  generalize rsA xs n S R pc 4 1=AA at *
  generalize wsv (rsM xs n S R pc 4 1)=XM at *
  generalize wsv xs=XX at *
  generalize Qao (x) (pc) (c)=CC at *
  refine fnW Tryz.func12 ?_
  (repeat' ((conv=>whnf);first|(intro hb;first|exact zk2 hb|(try (replace hb:=zn0 hb)))|(apply Sd.mk; · first|exact ⟨hlCC,hkCC,rfl,(by show 0+CC.length≤25;omega)⟩|(refine ⟨rfl,rfl,rfl,?_⟩;show 0+16+1≤CC.length;omega))|((with_reducible apply Vl.mk (α:=List SV)); · first|exact hzCC _ (by first|rfl|assumption))|(apply Sg.mk; · first|exact Qaj CC hlCC)|((with_reducible apply Ge.mk (α:=SV)); · first|exact gpCC)|(refine Qay hr ?_)|refine zst ?_|refine zbx ?_ ?_|refine zgx ?_ ?_|refine eqR ?_));(all_goals (try (conv=>whnf)))
  all_goals exact Qco
def wd (o:Int):Int:=if o=32∨o=35 then 4 else 1
theorem QiT (o:Int) (h:32≤o∧o≤36):Fn Tryz.prog 64 [.s (.int .i64 o)] [] (· =⟨.a (.s (.int .i64 (wd o))),[],[]⟩):=by
 have e:o=32∨o=33∨o=34∨o=35∨o=36:=by omega
 rcases e with rfl|rfl|rfl|rfl|rfl
 all_goals
  refine fnW Tryz.func64 ?_
  (repeat' ((conv=>whnf);first|(intro hb;first|exact zk0 hb|(try (replace hb:=zn0 hb)))|refine zs0 ?_|refine zbx ?_ ?_|refine zgx ?_ ?_));(all_goals (try (conv=>whnf)))
  all_goals exact Qan rfl rfl
def sx8 (x:Nat):Nat:=if x%256<128 then x%256 else x%256+4294967040
theorem QBh (x:Nat) (hx:x<4294967296):IntKind.u32.wrap ((x:Int)*2^min ((32:Int)-8).toNat IntKind.u32.bits)=((x%256:Nat):Int)*16777216:=by
 rw [show (2:Int)^min ((32:Int)-8).toNat IntKind.u32.bits=16777216 from rfl,Qbo]
 omega
theorem QCn (x:Nat) (hx:x<256):IntKind.i32.wrap ((x:Int)*16777216)=(if x<128 then (x:Int) else x-256)*16777216:=by
 unfold IntKind.wrap
 simp only [IntKind.signed,IntKind.bits,Bool.true_and,decide_eq_true_eq]
 by_cases h:x<128
 ·rw [if_pos h,if_neg (by simp;omega)];omega
 ·rw [if_neg h,if_pos (by simp;omega)];omega
theorem QCw (x:Int):x*16777216 / 2^min ((32:Int)-8).toNat IntKind.i32.bits=x:=by
 rw [show (2:Int)^min ((32:Int)-8).toNat IntKind.i32.bits=16777216 from rfl]
 omega
theorem QBP (x:Nat):IntKind.u32.wrap (if x%256<128 then ((x%256:Nat):Int) else ((x%256:Nat):Int)-256)=(sx8 x:Nat):=by
 unfold sx8
 rw [Qbo]
 by_cases h:x%256<128
 ·rw [if_pos h,if_pos h];omega
 ·rw [if_neg h,if_neg h];omega
theorem Qu5 (x:Nat) (hx:x<4294967296):Fn Tryz.prog 62 [.s (.int .u32 x),.s (.int .i64 8)] [] (· =⟨.a (.s (.int .u32 (sx8 x:Nat))),[],[]⟩):=by
 refine fnW Tryz.func62 ?_
 (repeat' ((conv=>whnf);first|(intro hb;first|exact zk0 hb|(try (replace hb:=zn0 hb)))|((with_reducible apply Vl.mk (α:=Int)); · first|exact QBh x hx|exact QCn (x%256) (by omega)|exact QCw _|exact QBP x)|refine zs0 ?_|refine zbx ?_ ?_|refine zgx ?_ ?_));(all_goals (try (conv=>whnf)))
 all_goals exact Qan rfl rfl
theorem Quv (x:Nat):sx8 x<4294967296:=by unfold sx8;split<;>omega
theorem QlZ (w a:Nat):byN w a<256:=Nat.mod_lt _ (by decide)
def ldV (o:Int) (M:List Nat) (a:Nat):Nat:=if o=32 then M.getD (a / 4) 0 else if o=33 then sx8 (byN (M.getD (a / 4) 0) a) else byN (M.getD (a / 4) 0) a
theorem QwQ (o:Int) (M:List Nat) (a:Nat) (h:∀ y∈M,y<4294967296):ldV o M a<4294967296:=by
 have:=Qad h (a / 4)
 have:=QlZ (M.getD (a / 4) 0) a
 have:=Quv (byN (M.getD (a / 4) 0) a)
 unfold ldV;split;assumption;split<;>omega
def stM (o:Int) (M:List Nat) (a v:Nat):List Nat:=if o=35 then M.set (a / 4) v else Qio M a v
theorem Qso (o:Int) (M:List Nat) (a v:Nat):(stM o M a v).length=M.length:=by unfold stM Qio;split<;>simp
theorem Qus (o:Int) (M:List Nat) (a v:Nat) (h:∀ y∈M,y<4294967296) (hv:v<4294967296):∀ y∈stM o M a v,y<4294967296:=by
 unfold stM Qio;split
 ·exact Qbw h _ _ hv
 ·exact Qbw h _ _ (Qqf _ _ _)
def vaO (x:List Nat) (B:Nat) (m:Int):Nat:=w32 ((x.getD B 0:Nat)+(w32 m:Nat))
def ldX (x:List Nat) (xs:List Nat) (n s r va:Nat) (o:Int) (A:Nat):List Nat:=if rsK xs n s r va (wd o) 2=0 then QaE x A (ldV o (rsM xs n s r va (wd o) 2) (rsA xs n s r va (wd o) 2)) else x
def trP (pc:Nat) (c:List Nat) (K:Int):Nat:=if K=0 then w32 ((pc:Int)+4) else c.getD 1 0
def trC (pc:Nat) (c:List Nat) (K:Int) (va:Nat):List Nat:=if K=0 then c else trL pc c K va
def stX (xs:List Nat) (n s r va v:Nat) (o:Int):List Nat:=if rsK xs n s r va (wd o) 3=0 then stM o (rsM xs n s r va (wd o) 3) (rsA xs n s r va (wd o) 3) v else rsM xs n s r va (wd o) 3
theorem QoJ (x:List Nat) (pc:Nat) (c:List Nat) (xs:List Nat) (n:Nat) (o:Int) (A B C:Nat) (m:Int) (hx:x.length=16) (hc:c.length=8) (hcl:∀ y∈c,y<4294967296) (hpc:pc<4294967296) (hl:xs.length=n) (hxr:∀ y∈xs,y<4294967296) (hn:n<4294967296) (hxx:∀ y∈x,y<4294967296) (hA:A<16) (hB:B<16) (ho:32≤o∧o≤34) :
  Fn Tryz.prog 34 [.agg (Qao x pc c),.s (.sl 0 0 n),.agg (iv o A B C m)] [⟨false,1,wsv xs⟩]
   (· =⟨.tup [.agg (Qao (ldX x xs n (c.getD 0 0) (c.getD 6 0) (vaO x B m) o A) (trP pc c (rsK xs n (c.getD 0 0) (c.getD 6 0) (vaO x B m) (wd o) 2)) (trC pc c (rsK xs n (c.getD 0 0) (c.getD 6 0) (vaO x B m) (wd o) 2) (vaO x B m))),.s (.sl 1 0 n)],[],[⟨true,1,wsv (rsM xs n (c.getD 0 0) (c.getD 6 0) (vaO x B m) (wd o) 2)⟩]⟩):=by
 have hva:vaO x B m<4294967296:=Qax _
 have hwd:=QiT o (by omega)
 have hr:=Qce x pc c xs n (vaO x B m) (wd o) 2 hx hc hcl hl hxr hn hva
 have rA:=Qak x pc c A hx hA
 have rB:=Qak x pc c B hx hB
 have xA:=Qad hxx A
 have qm:IntKind.u32.wrap m=((w32 m:Nat):Int):=Qav m
 have q4:IntKind.u32.wrap ((pc:Int)+4)=((w32 ((pc:Int)+4):Nat):Int):=Qav _
 have qv:IntKind.u32.wrap (((x.getD B 0:Nat):Int)+((w32 m:Nat):Int))=((vaO x B m:Nat):Int):=Qav _
 have hsx:=Qaa xs
 generalize hS:c.getD 0 0=S at *
 generalize hR:c.getD 6 0=R at *
 generalize vaO x B m=va at *
 have hlCC:=Qai (x) (pc) (c) hx hc
 have hsCC:=Qae (x) (pc) (c)
 have hkCC:=Qab (x) (pc) (c)
 have hzCC:=Qac hlCC
 have gpCC:=Qas (x) (pc) (c) hx
 have hsm:=Qaa (rsM xs n S R va (wd o) 2)
 unfold ldX trP trC
 by_cases hK:rsK xs n S R va (wd o) 2=0
 ·have hok:=QeG hK
  obtain ⟨ha,hb1⟩:=QeA hok hva
  have hml:(rsM xs n S R va (wd o) 2).length=n:=by rw [Qa4];exact hl
  have hmr:=Qcl xs n S R va (wd o) 2 hxr
  rw [if_pos hK,if_pos hK,if_pos hK]
  rw [hK] at hr
  generalize rsM xs n S R va (wd o) 2=M at *
  generalize rsA xs n S R va (wd o) 2=AA at *
  obtain ⟨V0,hlo,hV⟩:∃ V0,Fn Tryz.prog 27 [.s (.sl 0 0 n),.s (.int .u32 AA),.s (.int .i64 (wd o))] [⟨false,1,wsv M⟩] (· =⟨.tup [.s (.int .u32 ((V0:Nat):Int)),.s (.bool true)],[],[]⟩)∧V0<4294967296∧ldV o M AA=(if o=33 then sx8 V0 else V0):=by
   by_cases h32:o=32
   ·subst h32
    exact ⟨_,QcK M n AA hml hn hb1 ha,Qad hmr _,rfl⟩
   ·have hw1:wd o=1:=if_neg (by omega)
    rw [hw1] at ha ⊢
    refine ⟨_,QiG M n AA hml hmr hn hb1 ha,Nat.lt_trans (QlZ _ _) (by decide),?_⟩
    unfold ldV;rw [if_neg h32]
  have hsx8:=Qu5 V0 hV.1
  obtain ⟨V,hVe⟩:∃ V,ldV o M AA=V:=⟨_,rfl⟩
  rw [hVe] at hV ⊢
  have hst:=Qew x pc c A V hx hc hA
  have hw2:=QaB (QaE x A V) pc c (w32 ((pc:Int)+4)) (by rw [Qap];exact hx)
  have hlC2:=Qai (QaE x A V) (pc) (c) (by rw [Qap];exact hx) hc
  have hsC2:=Qae (QaE x A V) (pc) (c)
  have hkC2:=Qab (QaE x A V) (pc) (c)
  have hzC2:=Qac hlC2
  have gpC2:=Qas (QaE x A V) (pc) (c) (by rw [Qap];exact hx)
  have hlC3:=Qai (QaE x A V) (w32 ((pc:Int)+4)) (c) (by rw [Qap];exact hx) hc
  have hsC3:=Qae (QaE x A V) (w32 ((pc:Int)+4)) (c)
  have hkC3:=Qab (QaE x A V) (w32 ((pc:Int)+4)) (c)
  have hzC3:=Qac hlC3
  have gpC3:=Qas (QaE x A V) (w32 ((pc:Int)+4)) (c) (by rw [Qap];exact hx)
  clear hVe
  generalize wsv M=XM at *
  generalize wsv xs=XX at *
  generalize x.getD A 0=vA at *
  generalize x.getD B 0=vB at *
  generalize w32 m=mm at *
  generalize Qao (QaE x A V) (w32 ((pc:Int)+4)) (c)=C3 at *
  generalize Qao (QaE x A V) (pc) (c)=C2 at *
  generalize Qao (x) (pc) (c)=CC at *
  generalize w32 ((pc:Int)+4)=p4 at *
  have e:o=32∨o=33∨o=34:=by omega
  have hV0:=hV.1
  rcases e with rfl|rfl|rfl
  all_goals first
   | (
     obtain hq:V=sx8 V0:=hV.2
     rw [← hq] at hsx8
     clear hq hV)
   | (
     obtain rfl:V=V0:=hV.2
     clear hV)
  all_goals
   refine fnW Tryz.func34 ?_
   (repeat' ((conv=>whnf);first|(intro hb;first|exact zk2 hb|(try (replace hb:=zn0 hb)))|(with_reducible first|refine zv qm ?_|refine zv q4 ?_|refine zv qv ?_)|(apply Sd.mk; · first|exact ⟨hlCC,hkCC,rfl,(by show 0+CC.length≤25;omega)⟩|exact ⟨hlC2,hkC2,rfl,(by show 0+C2.length≤25;omega)⟩|exact ⟨hlC3,hkC3,rfl,(by show 0+C3.length≤25;omega)⟩|exact ⟨hlCC,hkCC,rfl,(by show 0+CC.length≤C2.length;omega)⟩|exact ⟨hlCC,hkCC,rfl,(by show 0+CC.length≤C3.length;omega)⟩|exact ⟨hlC2,hkC2,rfl,(by show 0+C2.length≤CC.length;omega)⟩|exact ⟨hlC2,hkC2,rfl,(by show 0+C2.length≤C3.length;omega)⟩|exact ⟨hlC3,hkC3,rfl,(by show 0+C3.length≤CC.length;omega)⟩|exact ⟨hlC3,hkC3,rfl,(by show 0+C3.length≤C2.length;omega)⟩|(show (0:Int)≤A∧(A:Int)<16;omega)|(show (0:Int)≤B∧(B:Int)<16;omega)|(refine ⟨rfl,rfl,rfl,?_⟩;show 0+16+1≤CC.length;omega)|(refine ⟨rfl,rfl,rfl,?_⟩;show 0+16+1≤C2.length;omega)|(refine ⟨rfl,rfl,rfl,?_⟩;show 0+16+1≤C3.length;omega))|((with_reducible apply Vl.mk (α:=List SV)); · first|exact hw2|exact hzCC _ (by first|rfl|assumption)|exact hzC2 _ (by first|rfl|assumption)|exact hzC3 _ (by first|rfl|assumption))|(apply Sg.mk; · first|exact Qaj CC hlCC|exact Qaj C2 hlC2|exact Qaj C3 hlC3)|((with_reducible apply Ge.mk (α:=SV)); · first|exact rA|exact rB|exact gpCC|exact gpC2|exact gpC3)|(refine Qay hr ?_)|(refine Qay hlo ?_)|(refine zpu hwd ?_)|(refine zpu hsx8 ?_)|(refine zpu hst ?_)|refine zst ?_|refine zbx ?_ ?_|refine zgx ?_ ?_|refine eqR ?_));(all_goals (try (conv=>whnf)))
   all_goals exact Qco
 ·have htr:=Qdv x pc c (rsK xs n S R va (wd o) 2) va hx hc hcl
  rw [Qbh] at htr
  rw [if_neg hK,if_neg hK,if_neg hK]
  have hlC3:=Qai (x) (c.getD 1 0) (trL pc c (rsK xs n S R va (wd o) 2) va) hx rfl
  have hsC3:=Qae (x) (c.getD 1 0) (trL pc c (rsK xs n S R va (wd o) 2) va)
  have hkC3:=Qab (x) (c.getD 1 0) (trL pc c (rsK xs n S R va (wd o) 2) va)
  have hzC3:=Qac hlC3
  have gpC3:=Qas (x) (c.getD 1 0) (trL pc c (rsK xs n S R va (wd o) 2) va) hx
  generalize wsv (rsM xs n S R va (wd o) 2)=XM at *
  generalize rsA xs n S R va (wd o) 2=AA at *
  generalize wsv xs=XX at *
  generalize x.getD A 0=vA at *
  generalize x.getD B 0=vB at *
  generalize w32 m=mm at *
  generalize Qao (x) (c.getD 1 0) (trL pc c (rsK xs n S R va (wd o) 2) va)=C3 at *
  generalize Qao (x) (pc) (c)=CC at *
  generalize rsK xs n S R va (wd o) 2=K at *
  generalize wd o=wo at *
  refine fnW Tryz.func34 ?_
  (repeat' ((conv=>whnf);first|(intro hb;first|exact zk2 hb|(try (replace hb:=zn0 hb)))|(with_reducible first|refine zv qm ?_|refine zv q4 ?_|refine zv qv ?_)|(apply Sd.mk; · first|exact ⟨hlCC,hkCC,rfl,(by show 0+CC.length≤25;omega)⟩|exact ⟨hlC3,hkC3,rfl,(by show 0+C3.length≤25;omega)⟩|exact ⟨hlCC,hkCC,rfl,(by show 0+CC.length≤C3.length;omega)⟩|exact ⟨hlC3,hkC3,rfl,(by show 0+C3.length≤CC.length;omega)⟩|(show (0:Int)≤A∧(A:Int)<16;omega)|(show (0:Int)≤B∧(B:Int)<16;omega)|(refine ⟨rfl,rfl,rfl,?_⟩;show 0+16+1≤CC.length;omega)|(refine ⟨rfl,rfl,rfl,?_⟩;show 0+16+1≤C3.length;omega))|((with_reducible apply Vl.mk (α:=List SV)); · first|exact hzCC _ (by first|rfl|assumption)|exact hzC3 _ (by first|rfl|assumption))|(apply Sg.mk; · first|exact Qaj CC hlCC|exact Qaj C3 hlC3)|((with_reducible apply Ge.mk (α:=SV)); · first|exact rA|exact rB|exact gpCC|exact gpC3)|(refine Qay hr ?_)|(refine zpu hwd ?_)|(refine zpu htr ?_)|refine zst ?_|refine zbx ?_ ?_|refine zgx ?_ ?_|refine eqR ?_));(all_goals (try (conv=>whnf)))
  all_goals exact Qco
theorem QkW (x:List Nat) (pc:Nat) (c:List Nat) (xs:List Nat) (n:Nat) (o:Int) (A B C:Nat) (m:Int) (hx:x.length=16) (hc:c.length=8) (hcl:∀ y∈c,y<4294967296) (hpc:pc<4294967296) (hl:xs.length=n) (hxr:∀ y∈xs,y<4294967296) (hn:n<4294967296) (hxx:∀ y∈x,y<4294967296) (hA:A<16) (hB:B<16) (ho:35≤o∧o≤36) :
  Fn Tryz.prog 35 [.agg (Qao x pc c),.s (.sl 0 0 n),.agg (iv o A B C m)] [⟨false,1,wsv xs⟩]
   (· =⟨.tup [.agg (Qao x (trP pc c (rsK xs n (c.getD 0 0) (c.getD 6 0) (vaO x B m) (wd o) 3)) (trC pc c (rsK xs n (c.getD 0 0) (c.getD 6 0) (vaO x B m) (wd o) 3) (vaO x B m))),.s (.sl 1 0 n)],[],[⟨true,1,wsv (stX xs n (c.getD 0 0) (c.getD 6 0) (vaO x B m) (x.getD A 0) o)⟩]⟩):=by
 have hva:vaO x B m<4294967296:=Qax _
 have hwd:=QiT o (by omega)
 have hr:=Qce x pc c xs n (vaO x B m) (wd o) 3 hx hc hcl hl hxr hn hva
 have rA:=Qak x pc c A hx hA
 have rB:=Qak x pc c B hx hB
 have xA:=Qad hxx A
 have qm:IntKind.u32.wrap m=((w32 m:Nat):Int):=Qav m
 have q4:IntKind.u32.wrap ((pc:Int)+4)=((w32 ((pc:Int)+4):Nat):Int):=Qav _
 have qv:IntKind.u32.wrap (((x.getD B 0:Nat):Int)+((w32 m:Nat):Int))=((vaO x B m:Nat):Int):=Qav _
 have hsx:=Qaa xs
 generalize hS:c.getD 0 0=S at *
 generalize hR:c.getD 6 0=R at *
 generalize vaO x B m=va at *
 have hlCC:=Qai (x) (pc) (c) hx hc
 have hsCC:=Qae (x) (pc) (c)
 have hkCC:=Qab (x) (pc) (c)
 have hzCC:=Qac hlCC
 have gpCC:=Qas (x) (pc) (c) hx
 have hsm:=Qaa (rsM xs n S R va (wd o) 3)
 unfold stX trP trC
 by_cases hK:rsK xs n S R va (wd o) 3=0
 ·have hok:=QeG hK
  obtain ⟨ha,hb1⟩:=QeA hok hva
  have hml:(rsM xs n S R va (wd o) 3).length=n:=by rw [Qa4];exact hl
  have hmr:=Qcl xs n S R va (wd o) 3 hxr
  rw [if_pos hK,if_pos hK,if_pos hK]
  rw [hK] at hr
  generalize rsM xs n S R va (wd o) 3=M at *
  generalize rsA xs n S R va (wd o) 3=AA at *
  have hlo:Fn Tryz.prog 51 [.s (.sl 0 0 n),.s (.int .u32 AA),.s (.int .i64 (wd o)),.s (.int .u32 (x.getD A 0:Nat))] [⟨false,1,wsv M⟩] (· =⟨.tup [.s (.sl 1 0 n),.s (.bool true)],[],[⟨true,1,wsv (stM o M AA (x.getD A 0))⟩]⟩):=by
   by_cases h35:o=35
   ·subst h35
    exact Qhg M n AA (x.getD A 0) hml hn hb1 ha
   ·have hw1:wd o=1:=if_neg (by omega)
    rw [hw1] at ha ⊢
    unfold stM;rw [if_neg h35]
    exact QkO M n AA (x.getD A 0) hml hn hb1 ha
  have hss:=Qaa (stM o M AA (x.getD A 0))
  have hw2:=QaB x pc c (w32 ((pc:Int)+4)) hx
  have hlC3:=Qai (x) (w32 ((pc:Int)+4)) (c) hx hc
  have hsC3:=Qae (x) (w32 ((pc:Int)+4)) (c)
  have hkC3:=Qab (x) (w32 ((pc:Int)+4)) (c)
  have hzC3:=Qac hlC3
  have gpC3:=Qas (x) (w32 ((pc:Int)+4)) (c) hx
  generalize wsv (stM o M AA (x.getD A 0))=XS at *
  generalize wsv M=XM at *
  generalize wsv xs=XX at *
  generalize x.getD A 0=vA at *
  generalize x.getD B 0=vB at *
  generalize w32 m=mm at *
  generalize Qao (x) (w32 ((pc:Int)+4)) (c)=C3 at *
  generalize Qao (x) (pc) (c)=CC at *
  generalize w32 ((pc:Int)+4)=p4 at *
  generalize wd o=wo at *
  refine fnW Tryz.func35 ?_
  (repeat' ((conv=>whnf);first|(intro hb;first|exact zk2 hb|(try (replace hb:=zn0 hb)))|(with_reducible first|refine zv qm ?_|refine zv q4 ?_|refine zv qv ?_)|(apply Sd.mk; · first|exact ⟨hlCC,hkCC,rfl,(by show 0+CC.length≤25;omega)⟩|exact ⟨hlC3,hkC3,rfl,(by show 0+C3.length≤25;omega)⟩|exact ⟨hlCC,hkCC,rfl,(by show 0+CC.length≤C3.length;omega)⟩|exact ⟨hlC3,hkC3,rfl,(by show 0+C3.length≤CC.length;omega)⟩|(show (0:Int)≤A∧(A:Int)<16;omega)|(show (0:Int)≤B∧(B:Int)<16;omega)|(refine ⟨rfl,rfl,rfl,?_⟩;show 0+16+1≤CC.length;omega)|(refine ⟨rfl,rfl,rfl,?_⟩;show 0+16+1≤C3.length;omega))|((with_reducible apply Vl.mk (α:=List SV)); · first|exact hw2|exact hzCC _ (by first|rfl|assumption)|exact hzC3 _ (by first|rfl|assumption))|(apply Sg.mk; · first|exact Qaj CC hlCC|exact Qaj C3 hlC3)|((with_reducible apply Ge.mk (α:=SV)); · first|exact rA|exact rB|exact gpCC|exact gpC3)|(refine Qay hr ?_)|(refine Qay hlo ?_)|(refine zpu hwd ?_)|refine zst ?_|refine zbx ?_ ?_|refine zgx ?_ ?_|refine eqR ?_));(all_goals (try (conv=>whnf)))
  all_goals exact Qco
 ·have htr:=Qdv x pc c (rsK xs n S R va (wd o) 3) va hx hc hcl
  rw [Qbh] at htr
  rw [if_neg hK,if_neg hK,if_neg hK]
  have hlC3:=Qai (x) (c.getD 1 0) (trL pc c (rsK xs n S R va (wd o) 3) va) hx rfl
  have hsC3:=Qae (x) (c.getD 1 0) (trL pc c (rsK xs n S R va (wd o) 3) va)
  have hkC3:=Qab (x) (c.getD 1 0) (trL pc c (rsK xs n S R va (wd o) 3) va)
  have hzC3:=Qac hlC3
  have gpC3:=Qas (x) (c.getD 1 0) (trL pc c (rsK xs n S R va (wd o) 3) va) hx
  generalize wsv (rsM xs n S R va (wd o) 3)=XM at *
  generalize rsA xs n S R va (wd o) 3=AA at *
  generalize wsv xs=XX at *
  generalize x.getD A 0=vA at *
  generalize x.getD B 0=vB at *
  generalize w32 m=mm at *
  generalize Qao (x) (c.getD 1 0) (trL pc c (rsK xs n S R va (wd o) 3) va)=C3 at *
  generalize Qao (x) (pc) (c)=CC at *
  generalize rsK xs n S R va (wd o) 3=K at *
  generalize wd o=wo at *
  refine fnW Tryz.func35 ?_
  (repeat' ((conv=>whnf);first|(intro hb;first|exact zk2 hb|(try (replace hb:=zn0 hb)))|(with_reducible first|refine zv qm ?_|refine zv q4 ?_|refine zv qv ?_)|(apply Sd.mk; · first|exact ⟨hlCC,hkCC,rfl,(by show 0+CC.length≤25;omega)⟩|exact ⟨hlC3,hkC3,rfl,(by show 0+C3.length≤25;omega)⟩|exact ⟨hlCC,hkCC,rfl,(by show 0+CC.length≤C3.length;omega)⟩|exact ⟨hlC3,hkC3,rfl,(by show 0+C3.length≤CC.length;omega)⟩|(show (0:Int)≤A∧(A:Int)<16;omega)|(show (0:Int)≤B∧(B:Int)<16;omega)|(refine ⟨rfl,rfl,rfl,?_⟩;show 0+16+1≤CC.length;omega)|(refine ⟨rfl,rfl,rfl,?_⟩;show 0+16+1≤C3.length;omega))|((with_reducible apply Vl.mk (α:=List SV)); · first|exact hzCC _ (by first|rfl|assumption)|exact hzC3 _ (by first|rfl|assumption))|(apply Sg.mk; · first|exact Qaj CC hlCC|exact Qaj C3 hlC3)|((with_reducible apply Ge.mk (α:=SV)); · first|exact rA|exact rB|exact gpCC|exact gpC3)|(refine Qay hr ?_)|(refine zpu hwd ?_)|(refine zpu htr ?_)|refine zst ?_|refine zbx ?_ ?_|refine zgx ?_ ?_|refine eqR ?_));(all_goals (try (conv=>whnf)))
  all_goals exact Qco
def nA (w:Nat):Nat:=w / 2^20%2^4
def nB (w:Nat):Nat:=w / 2^16%2^4
def nC (w:Nat):Nat:=(dC w).toNat
theorem Quh (w:Nat) (hw:w<4294967296) (h:dOk w=true):Fn Tryz.prog 32 [.s (.int .u32 w)] [] (· =⟨.tup [.agg (iv (dOp w) (dA w) (dB w) (dC w) (dM w)),.s (.bool true)],[],[]⟩):=by
 have:=QgF w hw
 rw [h] at this
 exact this
theorem QwE (w:Nat) (hw:w<4294967296) (h:dOk w=false):Fn Tryz.prog 32 [.s (.int .u32 w)] [] (· =⟨.tup [.agg (iv 0 0 0 0 0),.s (.bool false)],[],[]⟩):=by
 have:=QgF w hw
 rw [h] at this
 exact this
theorem Qkn (w:Nat) (h:dOk w=true):dA w=(nA w:Nat)∧nA w<16∧dB w=(nB w:Nat)∧nB w<16∧dC w=(nC w:Nat)∧nC w<16∧(-32768≤dM w∧dM w≤65535)∧(dOp w=58→0≤dM w∧dM w<8) ∧
  (1≤dOp w∧dOp w≤13∨16≤dOp w∧dOp w≤24∨32≤dOp w∧dOp w≤36∨40≤dOp w∧dOp w≤45∨dOp w=48∨dOp w=49∨56≤dOp w∧dOp w≤64):=by
 unfold dOk at h
 rw [Bool.and_eq_true] at h
 obtain ⟨h1,h2⟩:=h
 unfold Qgh at h2
 simp only [Bool.and_eq_true,decide_eq_true_eq] at h2
 obtain ⟨⟨⟨⟨⟨_,_⟩,_⟩,h6⟩,h7⟩,h8⟩:=h2
 have hc0:0≤dC w:=by unfold dC;split<;>omega
 have hc1:dC w<16:=by
  cases hu:Qp7 (dOp w) with
  | false=>unfold dC;rw [hu];simp
  | true =>
   rw [hu] at h6
   unfold Qm4 at h6
   simp only [Bool.and_eq_true,decide_eq_true_eq] at h6
   omega
 have hcls:1≤dOp w∧dOp w≤13∨16≤dOp w∧dOp w≤24∨32≤dOp w∧dOp w≤36∨40≤dOp w∧dOp w≤45∨dOp w=48∨dOp w=49∨56≤dOp w∧dOp w≤64:=by
  unfold Qfy Qqg at h1
  simp only [Bool.or_eq_true,decide_eq_true_eq] at h1
  omega
 refine ⟨rfl,Nat.mod_lt _ (by decide),rfl,Nat.mod_lt _ (by decide),(by unfold nC;omega),(by unfold nC;omega),?_,?_,hcls⟩
 ·have hlo: -32768≤Qf3 (dOp w):=by unfold Qf3;split<;>omega
  have hhi:Qgi (dOp w)≤65535:=by
                      unfold Qgi;repeat' split
                      all_goals omega
  omega
 ·intro h58
  rw [h58] at h7 h8
  have a:Qf3 58=0:=rfl
  have b:Qgi 58=7:=rfl
  omega
structure Ex where
 (x:List Nat) (pc:Nat) (c:List Nat) (m:List Nat) (e:List SV)
def E0:List SV:= [.int .i64 0,.int .i64 0,.int .i64 0,.int .u32 (0:Nat)]
def exS (x:List Nat) (pc:Nat) (c:List Nat) (xs:List Nat) (n:Nat):Ex :=
 if rsK xs n (c.getD 0 0) (c.getD 6 0) pc 4 1≠0 then ⟨x,c.getD 1 0,trL pc c (rsK xs n (c.getD 0 0) (c.getD 6 0) pc 4 1) pc,rsM xs n (c.getD 0 0) (c.getD 6 0) pc 4 1,E0⟩
 else if dOk (ftW xs n (c.getD 0 0) (c.getD 6 0) pc)=false then ⟨x,c.getD 1 0,trL pc c 1 (ftW xs n (c.getD 0 0) (c.getD 6 0) pc),rsM xs n (c.getD 0 0) (c.getD 6 0) pc 4 1,E0⟩
 else if 57≤dOp (ftW xs n (c.getD 0 0) (c.getD 6 0) pc)∧c.getD 0 0%2=0 then ⟨x,c.getD 1 0,trL pc c 2 (ftW xs n (c.getD 0 0) (c.getD 6 0) pc),rsM xs n (c.getD 0 0) (c.getD 6 0) pc 4 1,E0⟩
 else if 32≤dOp (ftW xs n (c.getD 0 0) (c.getD 6 0) pc)∧dOp (ftW xs n (c.getD 0 0) (c.getD 6 0) pc)≤34 then
  ⟨ldX x (rsM xs n (c.getD 0 0) (c.getD 6 0) pc 4 1) n (c.getD 0 0) (c.getD 6 0) (vaO x (nB (ftW xs n (c.getD 0 0) (c.getD 6 0) pc)) (dM (ftW xs n (c.getD 0 0) (c.getD 6 0) pc))) (dOp (ftW xs n (c.getD 0 0) (c.getD 6 0) pc)) (nA (ftW xs n (c.getD 0 0) (c.getD 6 0) pc)),
   trP pc c (rsK (rsM xs n (c.getD 0 0) (c.getD 6 0) pc 4 1) n (c.getD 0 0) (c.getD 6 0) (vaO x (nB (ftW xs n (c.getD 0 0) (c.getD 6 0) pc)) (dM (ftW xs n (c.getD 0 0) (c.getD 6 0) pc))) (wd (dOp (ftW xs n (c.getD 0 0) (c.getD 6 0) pc))) 2),
   trC pc c (rsK (rsM xs n (c.getD 0 0) (c.getD 6 0) pc 4 1) n (c.getD 0 0) (c.getD 6 0) (vaO x (nB (ftW xs n (c.getD 0 0) (c.getD 6 0) pc)) (dM (ftW xs n (c.getD 0 0) (c.getD 6 0) pc))) (wd (dOp (ftW xs n (c.getD 0 0) (c.getD 6 0) pc))) 2) (vaO x (nB (ftW xs n (c.getD 0 0) (c.getD 6 0) pc)) (dM (ftW xs n (c.getD 0 0) (c.getD 6 0) pc))),
   rsM (rsM xs n (c.getD 0 0) (c.getD 6 0) pc 4 1) n (c.getD 0 0) (c.getD 6 0) (vaO x (nB (ftW xs n (c.getD 0 0) (c.getD 6 0) pc)) (dM (ftW xs n (c.getD 0 0) (c.getD 6 0) pc))) (wd (dOp (ftW xs n (c.getD 0 0) (c.getD 6 0) pc))) 2,E0⟩
 else if 35≤dOp (ftW xs n (c.getD 0 0) (c.getD 6 0) pc)∧dOp (ftW xs n (c.getD 0 0) (c.getD 6 0) pc)≤36 then
  ⟨x,
   trP pc c (rsK (rsM xs n (c.getD 0 0) (c.getD 6 0) pc 4 1) n (c.getD 0 0) (c.getD 6 0) (vaO x (nB (ftW xs n (c.getD 0 0) (c.getD 6 0) pc)) (dM (ftW xs n (c.getD 0 0) (c.getD 6 0) pc))) (wd (dOp (ftW xs n (c.getD 0 0) (c.getD 6 0) pc))) 3),
   trC pc c (rsK (rsM xs n (c.getD 0 0) (c.getD 6 0) pc 4 1) n (c.getD 0 0) (c.getD 6 0) (vaO x (nB (ftW xs n (c.getD 0 0) (c.getD 6 0) pc)) (dM (ftW xs n (c.getD 0 0) (c.getD 6 0) pc))) (wd (dOp (ftW xs n (c.getD 0 0) (c.getD 6 0) pc))) 3) (vaO x (nB (ftW xs n (c.getD 0 0) (c.getD 6 0) pc)) (dM (ftW xs n (c.getD 0 0) (c.getD 6 0) pc))),
   stX (rsM xs n (c.getD 0 0) (c.getD 6 0) pc 4 1) n (c.getD 0 0) (c.getD 6 0) (vaO x (nB (ftW xs n (c.getD 0 0) (c.getD 6 0) pc)) (dM (ftW xs n (c.getD 0 0) (c.getD 6 0) pc))) (x.getD (nA (ftW xs n (c.getD 0 0) (c.getD 6 0) pc)) 0) (dOp (ftW xs n (c.getD 0 0) (c.getD 6 0) pc)),E0⟩
 else
  ⟨exX x pc c (dOp (ftW xs n (c.getD 0 0) (c.getD 6 0) pc)) (nA (ftW xs n (c.getD 0 0) (c.getD 6 0) pc)) (nB (ftW xs n (c.getD 0 0) (c.getD 6 0) pc)) (nC (ftW xs n (c.getD 0 0) (c.getD 6 0) pc)) (dM (ftW xs n (c.getD 0 0) (c.getD 6 0) pc)),
   exP x pc c (dOp (ftW xs n (c.getD 0 0) (c.getD 6 0) pc)) (nA (ftW xs n (c.getD 0 0) (c.getD 6 0) pc)) (nB (ftW xs n (c.getD 0 0) (c.getD 6 0) pc)) (dM (ftW xs n (c.getD 0 0) (c.getD 6 0) pc)),
   exC x pc c (dOp (ftW xs n (c.getD 0 0) (c.getD 6 0) pc)) (nA (ftW xs n (c.getD 0 0) (c.getD 6 0) pc)) (dM (ftW xs n (c.getD 0 0) (c.getD 6 0) pc)),
   rsM xs n (c.getD 0 0) (c.getD 6 0) pc 4 1,
   exE x (dOp (ftW xs n (c.getD 0 0) (c.getD 6 0) pc)) (nA (ftW xs n (c.getD 0 0) (c.getD 6 0) pc)) (dM (ftW xs n (c.getD 0 0) (c.getD 6 0) pc))⟩
theorem QsA (x:List Nat) (pc:Nat) (c:List Nat) (o:Int) (A B C:Nat) (m:Int) (hx:x.length=16) (hc:c.length=8) (hxr:∀ y∈x,y<4294967296) (hcr:∀ y∈c,y<4294967296) (hpc:pc<4294967296) (hA:A<16) (hB:B<16) (hC:C<16) (hm:o=58→0≤m∧m<8) (hmr: -32768≤m∧m≤65535) (ho:1≤o∧o≤13∨16≤o∧o≤24∨40≤o∧o≤45∨o=48∨o=49∨56≤o∧o≤64) :
  Fn Tryz.prog 36 [.agg (Qao x pc c),.agg (iv o A B C m)] [] (· =⟨.tup [.agg (Qao (exX x pc c o A B C m) (exP x pc c o A B m) (exC x pc c o A m)),.agg (exE x o A m)],[],[]⟩):=by
 by_cases h1:1≤o∧o≤13
 ·exact QnJ x pc c o A B C m hx hc hxr hcr hpc hA hB hC hm hmr h1
 by_cases h2:16≤o∧o≤23
 ·exact Qnb x pc c o A B C m hx hc hxr hcr hpc hA hB hC hm hmr h2
 by_cases h3:40≤o∧o≤45
 ·cases h:Qfu o (x.getD A 0) (x.getD B 0) with
  | true=>exact Qil x pc c o A B C m hx hc hxr hcr hpc hA hB hC hm hmr ⟨h3,h⟩
  | false=>exact Qha x pc c o A B C m hx hc hxr hcr hpc hA hB hC hm hmr ⟨h3,h⟩
 have e:o=24∨o=48∨o=49∨o=56∨o=57∨o=58∨o=59∨o=60∨o=61∨o=62∨o=63∨o=64:=by omega
 rcases e with h|h|h|h|h|h|h|h|h|h|h|h
 ·exact QqT x pc c o A B C m hx hc hxr hcr hpc hA hB hC hm hmr h
 ·exact Qtv x pc c o A B C m hx hc hxr hcr hpc hA hB hC hm hmr h
 ·exact Qpw x pc c o A B C m hx hc hxr hcr hpc hA hB hC hm hmr h
 ·exact Qlv x pc c o A B C m hx hc hxr hcr hpc hA hB hC hm hmr h
 ·exact Qpq x pc c o A B C m hx hc hxr hcr hpc hA hB hC hm hmr h
 ·exact QnP x pc c o A B C m hx hc hxr hcr hpc hA hB hC hm hmr h
 ·exact QoV x pc c o A B C m hx hc hxr hcr hpc hA hB hC hm hmr h
 ·exact Qwt x pc c o A B C m hx hc hxr hcr hpc hA hB hC hm hmr h
 ·exact Qs9 x pc c o A B C m hx hc hxr hcr hpc hA hB hC hm hmr h
 ·exact Qrw x pc c o A B C m hx hc hxr hcr hpc hA hB hC hm hmr h
 ·exact QlX x pc c o A B C m hx hc hxr hcr hpc hA hB hC hm hmr h
 ·exact Qnn x pc c o A B C m hx hc hxr hcr hpc hA hB hC hm hmr h
theorem Qdd (x:List Nat) (pc:Nat) (c:List Nat) (o:Int) (A B C:Nat) (m:Int):(exX x pc c o A B C m).length=x.length:=by
 unfold exX
 repeat' split
 all_goals simp only [Qap]
theorem QfE (x:List Nat) (pc:Nat) (c:List Nat) (o:Int) (A:Nat) (m:Int) (hc:c.length=8):(exC x pc c o A m).length=8:=by
 unfold exC
 split
 ·rfl
 ·split
  ·simpa using hc
  ·split
   ·rw [QeJ];exact hc
   ·exact hc
theorem QfB (x:List Nat) (o:Int) (A:Nat) (m:Int):Qau (exE x o A m)=true∧Qat (exE x o A m)=true∧(exE x o A m).length=4:=by
 unfold exE
 repeat' split
 all_goals exact ⟨rfl,rfl,rfl⟩
theorem Qey (x xs:List Nat) (n s r va:Nat) (o:Int) (A:Nat):(ldX x xs n s r va o A).length=x.length:=by
 unfold ldX;split
 ·rw [Qap]
 ·rfl
theorem QdK (pc:Nat) (c:List Nat) (K:Int) (va:Nat) (hc:c.length=8):(trC pc c K va).length=8:=by
 unfold trC;split
 ·exact hc
 ·rfl
theorem QiL (x:List Nat) (pc:Nat) (c:List Nat) (xs:List Nat) (n:Nat) (hx:x.length=16) (hc:c.length=8) (hcl:∀ y∈c,y<4294967296) (hpc:pc<4294967296) (hl:xs.length=n) (hxr:∀ y∈xs,y<4294967296) (hn:n<4294967296) (hxx:∀ y∈x,y<4294967296) (Q:Ex) (hQ:exS x pc c xs n=Q) :
  Fn Tryz.prog 14 [.agg (Qao x pc c),.s (.sl 0 0 n)] [⟨false,1,wsv xs⟩]
   (· =⟨.tup [.agg (Qao Q.x Q.pc Q.c),.s (.sl 1 0 n),.agg Q.e],[],[⟨true,1,wsv Q.m⟩]⟩):=by
 have hf:=Qg4 x pc c xs n hx hc hcl hpc hl hxr hn
 have hk:=Qg2 x pc c hx hc (Qad hcl 0)
 have hwl:=Qj7 xs n (c.getD 0 0) (c.getD 6 0) pc hxr
 have hM:=Qcl xs n (c.getD 0 0) (c.getD 6 0) pc 4 1 hxr
 have hMl:(rsM xs n (c.getD 0 0) (c.getD 6 0) pc 4 1).length=n:=by rw [Qa4];exact hl
 have hsx:=Qaa xs
 have hsm:=Qaa (rsM xs n (c.getD 0 0) (c.getD 6 0) pc 4 1)
 have hlCC:=Qai (x) (pc) (c) hx hc
 have hsCC:=Qae (x) (pc) (c)
 have hkCC:=Qab (x) (pc) (c)
 have hzCC:=Qac hlCC
 have gpCC:=Qas (x) (pc) (c) hx
 unfold exS at hQ
 by_cases hK:rsK xs n (c.getD 0 0) (c.getD 6 0) pc 4 1=0
 case neg =>
  rw [if_pos hK] at hQ
  subst hQ
  have htr:=Qdv x pc c (rsK xs n (c.getD 0 0) (c.getD 6 0) pc 4 1) pc hx hc hcl
  rw [Qbh] at htr
  dsimp only [E0]
  have hlC3:=Qai (x) (c.getD 1 0) (trL pc c (rsK xs n (c.getD 0 0) (c.getD 6 0) pc 4 1) (pc)) hx rfl
  have hsC3:=Qae (x) (c.getD 1 0) (trL pc c (rsK xs n (c.getD 0 0) (c.getD 6 0) pc 4 1) (pc))
  have hkC3:=Qab (x) (c.getD 1 0) (trL pc c (rsK xs n (c.getD 0 0) (c.getD 6 0) pc 4 1) (pc))
  have hzC3:=Qac hlC3
  have gpC3:=Qas (x) (c.getD 1 0) (trL pc c (rsK xs n (c.getD 0 0) (c.getD 6 0) pc 4 1) (pc)) hx
  generalize Qao (x) (c.getD 1 0) (trL pc c (rsK xs n (c.getD 0 0) (c.getD 6 0) pc 4 1) (pc))=C3 at *
  generalize rsK xs n (c.getD 0 0) (c.getD 6 0) pc 4 1=K at *
  generalize ftW xs n (c.getD 0 0) (c.getD 6 0) pc=W at *
  generalize wsv (rsM xs n (c.getD 0 0) (c.getD 6 0) pc 4 1)=XM at *
  generalize wsv xs=XX at *
  generalize Qao (x) (pc) (c)=CC at *
  refine fnW Tryz.func14 ?_
  (repeat' ((conv=>whnf);first|(intro hb;first|exact zk2 hb|(try (replace hb:=zn0 hb)))|(apply Sd.mk; · first|exact ⟨hlCC,hkCC,rfl,(by show 0+CC.length≤25;omega)⟩|exact ⟨hlC3,hkC3,rfl,(by show 0+C3.length≤25;omega)⟩|exact ⟨hlCC,hkCC,rfl,(by show 0+CC.length≤C3.length;omega)⟩|exact ⟨hlC3,hkC3,rfl,(by show 0+C3.length≤CC.length;omega)⟩|(refine ⟨rfl,rfl,rfl,?_⟩;show 0+16+1≤CC.length;omega)|(refine ⟨rfl,rfl,rfl,?_⟩;show 0+16+1≤C3.length;omega))|((with_reducible apply Vl.mk (α:=List SV)); · first|exact hzCC _ (by first|rfl|assumption)|exact hzC3 _ (by first|rfl|assumption))|(apply Sg.mk; · first|exact Qaj CC hlCC|exact Qaj C3 hlC3)|((with_reducible apply Ge.mk (α:=SV)); · first|exact gpCC|exact gpC3)|(refine Qay hf ?_)|(refine zpu htr ?_)|refine zst ?_|refine zbx ?_ ?_|refine zgx ?_ ?_|refine eqR ?_));(all_goals (try (conv=>whnf)))
  all_goals exact Qco
 rw [if_neg (fun h=>h hK)] at hQ
 rw [hK] at hf
 generalize hS:c.getD 0 0=S at *
 generalize hR:c.getD 6 0=R at *
 generalize hW:ftW xs n S R pc=W at *
 generalize hXM:rsM xs n S R pc 4 1=M at *
 clear hK hW hXM
 cases hd:dOk W with
 | false =>
  rw [if_pos hd] at hQ
  subst hQ
  have hde:=QwE W hwl hd
  unfold iv at hde
  have htr:=Qdv x pc c 1 W hx hc hcl
  rw [Qbh] at htr
  dsimp only [E0]
  have hlC3:=Qai (x) (c.getD 1 0) (trL pc c (1) (W)) hx rfl
  have hsC3:=Qae (x) (c.getD 1 0) (trL pc c (1) (W))
  have hkC3:=Qab (x) (c.getD 1 0) (trL pc c (1) (W))
  have hzC3:=Qac hlC3
  have gpC3:=Qas (x) (c.getD 1 0) (trL pc c (1) (W)) hx
  generalize Qao (x) (c.getD 1 0) (trL pc c (1) (W))=C3 at *
  generalize wsv M=XM at *
  generalize wsv xs=XX at *
  generalize Qao (x) (pc) (c)=CC at *
  refine fnW Tryz.func14 ?_
  (repeat' ((conv=>whnf);first|(intro hb;first|exact zk2 hb|(try (replace hb:=zn0 hb)))|(apply Sd.mk; · first|exact ⟨hlCC,hkCC,rfl,(by show 0+CC.length≤25;omega)⟩|exact ⟨hlC3,hkC3,rfl,(by show 0+C3.length≤25;omega)⟩|exact ⟨hlCC,hkCC,rfl,(by show 0+CC.length≤C3.length;omega)⟩|exact ⟨hlC3,hkC3,rfl,(by show 0+C3.length≤CC.length;omega)⟩|(refine ⟨rfl,rfl,rfl,?_⟩;show 0+16+1≤CC.length;omega)|(refine ⟨rfl,rfl,rfl,?_⟩;show 0+16+1≤C3.length;omega))|((with_reducible apply Vl.mk (α:=List SV)); · first|exact hzCC _ (by first|rfl|assumption)|exact hzC3 _ (by first|rfl|assumption))|(apply Sg.mk; · first|exact Qaj CC hlCC|exact Qaj C3 hlC3)|((with_reducible apply Ge.mk (α:=SV)); · first|exact gpCC|exact gpC3)|(refine Qay hf ?_)|(refine zpu hde ?_)|(refine zpu htr ?_)|refine zst ?_|refine zbx ?_ ?_|refine zgx ?_ ?_|refine eqR ?_));(all_goals (try (conv=>whnf)))
  all_goals exact Qco
 | true =>
 rw [if_neg (by rw [hd];decide)] at hQ
 have hde:=Quh W hwl hd
 obtain ⟨a1,a2,b1,b2,c1,c2,m1,m2,_⟩:=Qkn W hd
 rw [a1,b1,c1] at hde
 have hpr:=Qsi (dOp W)
 generalize nA W=A at *
 generalize nB W=B at *
 generalize nC W=C at *
 generalize dM W=m at *
 generalize dOp W=o at *
 clear hd a1 b1 c1
 by_cases hpv:57≤o∧S%2=0
 ·rw [if_pos hpv] at hQ
  subst hQ
  rw [show QeY o=true from decide_eq_true (by omega)] at hpr
  rw [hpv.2] at hk
  have htr:=Qdv x pc c 2 W hx hc hcl
  rw [Qbh] at htr
  dsimp only [E0]
  unfold iv at hde
  have hlC3:=Qai (x) (c.getD 1 0) (trL pc c (2) (W)) hx rfl
  have hsC3:=Qae (x) (c.getD 1 0) (trL pc c (2) (W))
  have hkC3:=Qab (x) (c.getD 1 0) (trL pc c (2) (W))
  have hzC3:=Qac hlC3
  have gpC3:=Qas (x) (c.getD 1 0) (trL pc c (2) (W)) hx
  generalize Qao (x) (c.getD 1 0) (trL pc c (2) (W))=C3 at *
  generalize wsv M=XM at *
  generalize wsv xs=XX at *
  generalize Qao (x) (pc) (c)=CC at *
  refine fnW Tryz.func14 ?_
  (repeat' ((conv=>whnf);first|(intro hb;first|exact zk2 hb|(try (replace hb:=zn0 hb)))|(apply Sd.mk; · first|exact ⟨hlCC,hkCC,rfl,(by show 0+CC.length≤25;omega)⟩|exact ⟨hlC3,hkC3,rfl,(by show 0+C3.length≤25;omega)⟩|exact ⟨hlCC,hkCC,rfl,(by show 0+CC.length≤C3.length;omega)⟩|exact ⟨hlC3,hkC3,rfl,(by show 0+C3.length≤CC.length;omega)⟩|(refine ⟨rfl,rfl,rfl,?_⟩;show 0+16+1≤CC.length;omega)|(refine ⟨rfl,rfl,rfl,?_⟩;show 0+16+1≤C3.length;omega))|((with_reducible apply Vl.mk (α:=List SV)); · first|exact hzCC _ (by first|rfl|assumption)|exact hzC3 _ (by first|rfl|assumption))|(apply Sg.mk; · first|exact Qaj CC hlCC|exact Qaj C3 hlC3)|((with_reducible apply Ge.mk (α:=SV)); · first|exact gpCC|exact gpC3)|(refine Qay hf ?_)|(refine zpu hde ?_)|(refine zpu hpr ?_)|(refine zpu hk ?_)|(refine zpu htr ?_)|refine zst ?_|refine zbx ?_ ?_|refine zgx ?_ ?_|refine eqR ?_));(all_goals (try (conv=>whnf)))
  all_goals exact Qco
 rw [if_neg hpv] at hQ
 obtain ⟨bp,hbp,hk2⟩:∃ bp,QeY o=bp∧(bp=true→S%2=1):=⟨_,rfl,fun h=>by unfold QeY at h;simp only [decide_eq_true_eq] at h;omega⟩
 rw [hbp] at hpr
 generalize hs2:S%2=S2 at *
 by_cases h32:32≤o∧o≤34
 ·rw [if_pos h32] at hQ
  subst hQ
  have hx2:=QoJ x pc c M n o A B C m hx hc hcl hpc hMl hM hn hxx a2 b2 h32
  rw [hS,hR] at hx2
  dsimp only [E0]
  have hsl:=Qaa (rsM M n S R (vaO x B m) (wd o) 2)
  obtain rfl:bp=false:=by rw [← hbp];exact decide_eq_false (by omega)
  clear hk hk2 hpv
  have hlC3:=Qai (ldX x M n S R (vaO x B m) o A) (trP pc c (rsK M n S R (vaO x B m) (wd o) 2)) (trC pc c (rsK M n S R (vaO x B m) (wd o) 2) (vaO x B m)) (by rw [Qey];exact hx) (QdK _ _ _ _ hc)
  have hsC3:=Qae (ldX x M n S R (vaO x B m) o A) (trP pc c (rsK M n S R (vaO x B m) (wd o) 2)) (trC pc c (rsK M n S R (vaO x B m) (wd o) 2) (vaO x B m))
  have hkC3:=Qab (ldX x M n S R (vaO x B m) o A) (trP pc c (rsK M n S R (vaO x B m) (wd o) 2)) (trC pc c (rsK M n S R (vaO x B m) (wd o) 2) (vaO x B m))
  have hzC3:=Qac hlC3
  have gpC3:=Qas (ldX x M n S R (vaO x B m) o A) (trP pc c (rsK M n S R (vaO x B m) (wd o) 2)) (trC pc c (rsK M n S R (vaO x B m) (wd o) 2) (vaO x B m)) (by rw [Qey];exact hx)
  generalize Qao (ldX x M n S R (vaO x B m) o A) (trP pc c (rsK M n S R (vaO x B m) (wd o) 2)) (trC pc c (rsK M n S R (vaO x B m) (wd o) 2) (vaO x B m))=C3 at *
  generalize wsv (rsM M n S R (vaO x B m) (wd o) 2)=XL at *
  generalize wsv M=XM at *
  generalize wsv xs=XX at *
  generalize Qao (x) (pc) (c)=CC at *
  unfold iv at hde hx2
  have e:o=32∨o=33∨o=34:=by omega
  rcases e with rfl|rfl|rfl
  all_goals
   refine fnW Tryz.func14 ?_
   (repeat' ((conv=>whnf);first|(intro hb;first|exact zk2 hb|(try (replace hb:=zn0 hb)))|(apply Sd.mk; · first|exact ⟨hlCC,hkCC,rfl,(by show 0+CC.length≤25;omega)⟩|exact ⟨hlC3,hkC3,rfl,(by show 0+C3.length≤25;omega)⟩|exact ⟨hlCC,hkCC,rfl,(by show 0+CC.length≤C3.length;omega)⟩|exact ⟨hlC3,hkC3,rfl,(by show 0+C3.length≤CC.length;omega)⟩|(refine ⟨rfl,rfl,rfl,?_⟩;show 0+16+1≤CC.length;omega)|(refine ⟨rfl,rfl,rfl,?_⟩;show 0+16+1≤C3.length;omega))|((with_reducible apply Vl.mk (α:=List SV)); · first|exact hzCC _ (by first|rfl|assumption)|exact hzC3 _ (by first|rfl|assumption))|(apply Sg.mk; · first|exact Qaj CC hlCC|exact Qaj C3 hlC3)|((with_reducible apply Ge.mk (α:=SV)); · first|exact gpCC|exact gpC3)|(refine Qay hf ?_)|(refine zpu hde ?_)|(refine zpu hpr ?_)|(refine Qay hx2 ?_)|refine zst ?_|refine zbx ?_ ?_|refine zgx ?_ ?_|refine eqR ?_));(all_goals (try (conv=>whnf)))
   all_goals exact Qco
 rw [if_neg h32] at hQ
 by_cases h35:35≤o∧o≤36
 ·rw [if_pos h35] at hQ
  subst hQ
  have hx2:=QkW x pc c M n o A B C m hx hc hcl hpc hMl hM hn hxx a2 b2 h35
  rw [hS,hR] at hx2
  dsimp only [E0]
  have hsl:=Qaa (stX M n S R (vaO x B m) (x.getD A 0) o)
  obtain rfl:bp=false:=by rw [← hbp];exact decide_eq_false (by omega)
  clear hk hk2 hpv
  have hlC3:=Qai (x) (trP pc c (rsK M n S R (vaO x B m) (wd o) 3)) (trC pc c (rsK M n S R (vaO x B m) (wd o) 3) (vaO x B m)) hx (QdK _ _ _ _ hc)
  have hsC3:=Qae (x) (trP pc c (rsK M n S R (vaO x B m) (wd o) 3)) (trC pc c (rsK M n S R (vaO x B m) (wd o) 3) (vaO x B m))
  have hkC3:=Qab (x) (trP pc c (rsK M n S R (vaO x B m) (wd o) 3)) (trC pc c (rsK M n S R (vaO x B m) (wd o) 3) (vaO x B m))
  have hzC3:=Qac hlC3
  have gpC3:=Qas (x) (trP pc c (rsK M n S R (vaO x B m) (wd o) 3)) (trC pc c (rsK M n S R (vaO x B m) (wd o) 3) (vaO x B m)) hx
  generalize Qao (x) (trP pc c (rsK M n S R (vaO x B m) (wd o) 3)) (trC pc c (rsK M n S R (vaO x B m) (wd o) 3) (vaO x B m))=C3 at *
  generalize wsv (stX M n S R (vaO x B m) (x.getD A 0) o)=XL at *
  generalize wsv M=XM at *
  generalize wsv xs=XX at *
  generalize Qao (x) (pc) (c)=CC at *
  unfold iv at hde hx2
  have e:o=35∨o=36:=by omega
  rcases e with rfl|rfl
  all_goals
   refine fnW Tryz.func14 ?_
   (repeat' ((conv=>whnf);first|(intro hb;first|exact zk2 hb|(try (replace hb:=zn0 hb)))|(apply Sd.mk; · first|exact ⟨hlCC,hkCC,rfl,(by show 0+CC.length≤25;omega)⟩|exact ⟨hlC3,hkC3,rfl,(by show 0+C3.length≤25;omega)⟩|exact ⟨hlCC,hkCC,rfl,(by show 0+CC.length≤C3.length;omega)⟩|exact ⟨hlC3,hkC3,rfl,(by show 0+C3.length≤CC.length;omega)⟩|(refine ⟨rfl,rfl,rfl,?_⟩;show 0+16+1≤CC.length;omega)|(refine ⟨rfl,rfl,rfl,?_⟩;show 0+16+1≤C3.length;omega))|((with_reducible apply Vl.mk (α:=List SV)); · first|exact hzCC _ (by first|rfl|assumption)|exact hzC3 _ (by first|rfl|assumption))|(apply Sg.mk; · first|exact Qaj CC hlCC|exact Qaj C3 hlC3)|((with_reducible apply Ge.mk (α:=SV)); · first|exact gpCC|exact gpC3)|(refine Qay hf ?_)|(refine zpu hde ?_)|(refine zpu hpr ?_)|(refine Qay hx2 ?_)|refine zst ?_|refine zbx ?_ ?_|refine zgx ?_ ?_|refine eqR ?_));(all_goals (try (conv=>whnf)))
   all_goals exact Qco
 rw [if_neg h35] at hQ
 subst hQ
 have hx2:=QsA x pc c o A B C m hx hc hxx hcl hpc a2 b2 c2 m2 m1 (by omega)
 obtain ⟨es,ek,el⟩:=QfB x o A m
 have hlC3:=Qai (exX x pc c o A B C m) (exP x pc c o A B m) (exC x pc c o A m) (by rw [Qdd];exact hx) (QfE x pc c o A m hc)
 have hsC3:=Qae (exX x pc c o A B C m) (exP x pc c o A B m) (exC x pc c o A m)
 have hkC3:=Qab (exX x pc c o A B C m) (exP x pc c o A B m) (exC x pc c o A m)
 have hzC3:=Qac hlC3
 have gpC3:=Qas (exX x pc c o A B C m) (exP x pc c o A B m) (exC x pc c o A m) (by rw [Qdd];exact hx)
 have n1:¬ o=32:=by omega
 have n2:¬ o=33:=by omega
 have n3:¬ o=34:=by omega
 have n4:¬ o=35:=by omega
 have n5:¬ o=36:=by omega
 dsimp only
 generalize Qao (exX x pc c o A B C m) (exP x pc c o A B m) (exC x pc c o A m)=C3 at *
 generalize wsv M=XM at *
 generalize wsv xs=XX at *
 generalize exE x o A m=EE at *
 have hze:∀ c:List SV,c.length=4→QaF c 0 EE=EE:=fun c hc=>Qbt (hc.trans el.symm)
 generalize Qao (x) (pc) (c)=CC at *
 unfold iv at hde hx2
 cases bp with
 | false =>
  clear hk hk2 hpv
  refine fnW Tryz.func14 ?_
  (repeat' ((conv=>whnf);first|(intro hb;first|exact zk2 hb|(try (replace hb:=zn0 hb)))|(apply Sd.mk; · first|exact ⟨hlCC,hkCC,rfl,(by show 0+CC.length≤25;omega)⟩|exact ⟨hlC3,hkC3,rfl,(by show 0+C3.length≤25;omega)⟩|exact ⟨hlCC,hkCC,rfl,(by show 0+CC.length≤C3.length;omega)⟩|exact ⟨hlC3,hkC3,rfl,(by show 0+C3.length≤CC.length;omega)⟩|exact ⟨el,ek,rfl,(by show 0+EE.length≤4;omega)⟩|exact ⟨el,ek,rfl,(by show 0+EE.length≤EE.length;omega)⟩|(refine ⟨rfl,rfl,rfl,?_⟩;show 0+16+1≤CC.length;omega)|(refine ⟨rfl,rfl,rfl,?_⟩;show 0+16+1≤C3.length;omega))|((with_reducible apply Vl.mk (α:=List SV)); · first|exact hze _ (by first|rfl|assumption)|exact hzCC _ (by first|rfl|assumption)|exact hzC3 _ (by first|rfl|assumption))|(apply Sg.mk; · first|exact Qaj CC hlCC|exact Qaj C3 hlC3|exact Qaj EE el)|((with_reducible apply Ge.mk (α:=SV)); · first|exact gpCC|exact gpC3)|(refine Qay hf ?_)|(refine zpu hde ?_)|(refine zpu hpr ?_)|(refine zpu hx2 ?_)|refine zst ?_|refine zbx ?_ ?_|refine zgx ?_ ?_|refine eqR ?_));(all_goals (try (conv=>whnf)))
  all_goals exact Qco
 | true =>
  obtain rfl:S2=1:=hk2 rfl
  refine fnW Tryz.func14 ?_
  (repeat' ((conv=>whnf);first|(intro hb;first|exact zk2 hb|(try (replace hb:=zn0 hb)))|(apply Sd.mk; · first|exact ⟨hlCC,hkCC,rfl,(by show 0+CC.length≤25;omega)⟩|exact ⟨hlC3,hkC3,rfl,(by show 0+C3.length≤25;omega)⟩|exact ⟨hlCC,hkCC,rfl,(by show 0+CC.length≤C3.length;omega)⟩|exact ⟨hlC3,hkC3,rfl,(by show 0+C3.length≤CC.length;omega)⟩|exact ⟨el,ek,rfl,(by show 0+EE.length≤4;omega)⟩|exact ⟨el,ek,rfl,(by show 0+EE.length≤EE.length;omega)⟩|(refine ⟨rfl,rfl,rfl,?_⟩;show 0+16+1≤CC.length;omega)|(refine ⟨rfl,rfl,rfl,?_⟩;show 0+16+1≤C3.length;omega))|((with_reducible apply Vl.mk (α:=List SV)); · first|exact hze _ (by first|rfl|assumption)|exact hzCC _ (by first|rfl|assumption)|exact hzC3 _ (by first|rfl|assumption))|(apply Sg.mk; · first|exact Qaj CC hlCC|exact Qaj C3 hlC3|exact Qaj EE el)|((with_reducible apply Ge.mk (α:=SV)); · first|exact gpCC|exact gpC3)|(refine Qay hf ?_)|(refine zpu hde ?_)|(refine zpu hpr ?_)|(refine zpu hk ?_)|(refine zpu hx2 ?_)|refine zst ?_|refine zbx ?_ ?_|refine zgx ?_ ?_|refine eqR ?_));(all_goals (try (conv=>whnf)))
  all_goals exact Qco
theorem Qqb (x:List Nat) (r v:Nat):(QaE x r v).getD 0 0=x.getD 0 0:=by
 unfold QaE
 split
 ·rfl
 ·rename_i h
  rw [List.getD_eq_getElem?_getD,List.getD_eq_getElem?_getD,List.getElem?_set_ne (by omega)]
theorem QwK (x:List Nat) (pc:Nat) (c xs:List Nat) (n:Nat):(exS x pc c xs n).x.getD 0 0=x.getD 0 0:=by
 unfold exS
 split
 ·rfl
 split
 ·rfl
 split
 ·rfl
 split
 ·dsimp only
  unfold ldX
  split
  ·exact Qqb _ _ _
  ·rfl
 split
 ·rfl
 ·dsimp only
  unfold exX
  repeat' split
  all_goals first|exact Qqb _ _ _|rfl
theorem QzG (p:Nat):(p ||| 8) ||| 8=p ||| 8:=by rw [Nat.or_assoc,Nat.or_self]
theorem QqF (xs:List Nat) (n s r va:Nat) (sz ac:Int) (h:ac≠3) (i:Nat):(rsM xs n s r va sz ac).getD i 0 ||| 8=xs.getD i 0 ||| 8:=by
 unfold rsM
 split
 ·rw [List.getD_eq_getElem?_getD,List.getElem?_set]
  split
  ·rename_i h1
   subst h1
   split
   ·unfold Qfg
    rw [if_neg h]
    exact QzG _
   ·rename_i h2
    rw [List.getD_eq_getElem?_getD,List.getElem?_eq_none (by omega)]
  ·rw [List.getD_eq_getElem?_getD]
 ·rfl
theorem Qq6 (xs:List Nat) (n s r va:Nat) (sz ac:Int) (h:rsK xs n s r va sz ac≠0):rsM xs n s r va sz ac=xs:=by
 have h0:¬ (rsO xs n s r va sz ac=true):=fun e=>h (by unfold rsK;rw [if_pos e])
 unfold rsM
 rw [if_neg (fun e=>h0 e.1)]
theorem Qju (x:List Nat) (pc:Nat) (c xs:List Nat) (n:Nat) (hc:c.length=8) (hpc:pc<4294967296) (hep:c.getD 2 0=4294967295-pc) (ht:(exS x pc c xs n).c.getD 2 0=pc):(exS x pc c xs n).e=E0∧∀ i,(exS x pc c xs n).m.getD i 0 ||| 8=xs.getD i 0 ||| 8:=by
 have hne:c.getD 2 0≠pc:=by omega
 have h1:=QqF xs n (c.getD 0 0) (c.getD 6 0) pc 4 1 (by decide)
 revert ht
 unfold exS
 split
 ·exact fun _=>⟨rfl,h1⟩
 split
 ·exact fun _=>⟨rfl,h1⟩
 split
 ·exact fun _=>⟨rfl,h1⟩
 generalize ftW xs n (c.getD 0 0) (c.getD 6 0) pc=w
 generalize rsM xs n (c.getD 0 0) (c.getD 6 0) pc 4 1=ys at *
 split
 ·intro _
  refine ⟨rfl,fun i=>?_⟩
  exact (QqF ys n (c.getD 0 0) (c.getD 6 0) _ _ 2 (by decide) i).trans (h1 i)
 split
 ·intro ht
  refine ⟨rfl,fun i=>?_⟩
  dsimp only at ht ⊢
  have hk:rsK ys n (c.getD 0 0) (c.getD 6 0) (vaO x (nB w) (dM w)) (wd (dOp w)) 3≠0:=fun e=>by
   unfold trC at ht
   rw [if_pos e] at ht
   exact hne ht
  unfold stX
  rw [if_neg hk,Qq6 _ _ _ _ _ _ _ hk]
  exact h1 i
 ·intro ht
  dsimp only at ht ⊢
  refine ⟨?_,h1⟩
  generalize dOp w=o at *
  have hcs:¬ (60≤o∧o≤64):=fun ho=>by
   unfold exC at ht
   rw [if_neg (by omega),if_neg (by omega),if_neg (by omega)] at ht
   exact hne ht
  unfold exE
  rw [if_neg (by omega),if_neg (by omega),if_neg (by omega),if_neg (by omega),if_neg (by omega)]
  rfl
theorem QaS {H:List Row} {Q:Res→Prop} {R0:Res} {σ:St} {x:TV} (hq:Q R0) (h:Fin H (· =R0) σ x):Fin H Q σ x:=by
 induction h with
 | mk R m h1 h2 h3 h4=>exact .mk R m (h1 ▸ hq) h2 h3 h4
 | fr hn hf _ ih=>exact .fr hn hf ih
theorem Qvw {P:Program} {f:FuncId} {args:List AV} {H:List Row} {Q Q':Res→Prop} (h:Fn P f args H Q) (hq:∀ R,Q R→Q' R):Fn P f args H Q' :=
 ⟨h.1,fun ρ w vs a b c=>(h.2 ρ w vs a b c).mono fun e w' he=>by
  obtain ⟨R,v,ρ',hR,rest⟩:=he
  exact ⟨R,v,ρ',hq R hR,rest⟩⟩
theorem QqK (n:Nat):(List.replicate n (SV.int .u32 0)).length=n*ty23.size∧∀ (k:Nat) s,(List.replicate n (SV.int .u32 0))[k]?=some s→ty23.zero[k%ty23.size]?=some s:=by
 refine ⟨by rw [List.length_replicate];show n=n*1;omega,fun k s h=>?_⟩
 rw [List.getElem?_replicate] at h
 split at h
 ·injection h with h;subst h
  show [SV.int .u32 0][k%1]?=_
  rw [Nat.mod_one];rfl
 ·cases h
theorem Qeg (xs:List Nat) (n:Nat) (hl:xs.length=n) (hn:n<4294967296):Fn Tryz.prog 28 [.s (.sl 0 0 n)] [⟨false,1,wsv xs⟩] (· =⟨.a (.s (.sl 1 0 n)),[],[⟨true,1,wsv xs⟩]⟩):=by
 have hlw:(wsv xs).length=n:=by simp [hl]
 have hsc:Qau (wsv xs)=true:=Qaa xs
 have hkn:Qat (wsv xs)=true:=QbB xs
 have hz:=QqK n
 have hset:QaF (List.replicate n (SV.int .u32 0)) 0 (wsv xs)=wsv xs:=QaR (by rw [hlw,List.length_replicate])
 have hlz:(List.replicate n (SV.int .u32 0)).length=n:=List.length_replicate
 have m1:min n n=n:=Nat.min_self n
 generalize List.replicate n (SV.int .u32 0)=Z at *
 generalize wsv xs=M at *
 refine fnW Tryz.func28 ?_
 (repeat' ((conv=>whnf);first|(intro hb;first|exact zk0 hb|(try (replace hb:=zn0 hb)))|(refine Zs.mk Z hz ?_)|(apply Sk.mk; · first|exact Qbs M hlw hkn|exact Qbs M (by show M.length=min n n*1;omega) hkn)|(apply Sd.mk; · exact ⟨rfl,by show 0+M.length≤Z.length;omega⟩)|((with_reducible apply Vl.mk (α:=List SV)); · with_reducible exact hset)|refine zst ?_|refine zbx ?_ ?_|refine zgx ?_ ?_));(all_goals (try (conv=>whnf)))
 all_goals exact Qa2
structure Dk where
 (bs bl fr:Nat) (st cmd:Int) (ob of_:Nat) (od:ByteArray)
structure Nk where
 (fr ln:Nat) (po:Bool) (bu:Nat) (re:Bool) (go_:Nat)
structure Mc where
 (x:List Nat) (pc:Nat) (c:List Nat) (m:List Nat) (ks:ByteArray) (ta:Bool) (td:Nat) (tf:Bool) (d:Dk) (n:Nk) (bt bg ct:Nat) (wt ht:Bool)
def Dk.C (d:Dk):List SV:= [.int .u32 d.bs,.int .u32 d.bl,.int .u32 d.fr,.int .i64 d.st,.int .i64 d.cmd,.int .u32 d.ob,.int .u32 d.of_,.str d.od]
def Nk.C (n:Nk):List SV:= [.int .u32 n.fr,.int .u32 n.ln,.bool n.po,.int .u32 n.bu,.bool n.re,.int .u32 n.go_]
def Mc.D (M:Mc):List SV:= .str M.ks:: .bool M.ta:: .int .u32 M.td:: .bool M.tf::(M.d.C++(M.n.C++ [.int .u32 M.bt,.int .u32 M.bg,.int .u64 M.ct,.bool M.wt,.bool M.ht]))
def Mc.C (M:Mc) (k:Nat):List SV:=Qao M.x M.pc M.c++(.sl k 0 M.m.length::M.D)
def Dk.ok (d:Dk):Prop:=d.bs<4294967296∧d.bl<4294967296∧d.fr<4294967296∧d.ob<4294967296∧d.of_<4294967296∧d.od.size≤1000000∧(Lit.int .i64 d.st).wf=true∧(Lit.int .i64 d.cmd).wf=true
def Nk.ok (n:Nk):Prop:=n.fr<4294967296∧n.ln<4294967296∧n.bu<4294967296∧n.go_<4294967296
structure Mc.ok (M:Mc):Prop where
 (x:M.x.length=16) (c:M.c.length=8) (xr:∀ y∈M.x,y<4294967296) (cr:∀ y∈M.c,y<4294967296) (pr:M.pc<4294967296) (mr:∀ y∈M.m,y<4294967296) (ml:M.m.length≤1000000) (dk:M.d.ok) (nk:M.n.ok) (dv:M.td<4294967296∧M.bt<4294967296∧M.bg<4294967296∧M.ct<18446744073709551616∧M.ks.size≤1000000)
theorem Qa1 (M:Mc) (hM:M.ok):Fn Tryz.prog 38 [.agg (M.C 0)] [⟨false,1,wsv M.m⟩] (· =⟨.a (.agg (M.C 1)),[],[⟨true,1,wsv M.m⟩]⟩):=by
 have hco:=Qeg M.m _ rfl (by have:=hM.ml;omega)
 have hsx:=Qaa M.m
 obtain ⟨hx,hc⟩:=hM
 obtain ⟨x,pc,c,m,ks,ta,td,tf,⟨d0,d1,d2,d3,d4,d5,d6,d7⟩,⟨n0,n1,n2,n3,n4,n5⟩,bt,bg,ct,wt,ht⟩:=M
 dsimp only at *
 obtain ⟨_,_,_,_,_,_,_,_,_,_,_,_,_,_,_,_,rfl⟩:=Qaq hx
 obtain ⟨_,_,_,_,_,_,_,_,rfl⟩:=QaJ hc
 generalize hn:m.length=n at *
 generalize wsv m=XX at *
 dsimp only [Mc.C,Mc.D,Dk.C,Nk.C]
 rw [hn]
 refine fnW Tryz.func38 ?_
 (repeat' ((conv=>whnf);first|(intro hb;first|exact zk0 hb|(try (replace hb:=zn0 hb)))|(refine Qay hco ?_)|refine zst ?_|refine zbx ?_ ?_|refine zgx ?_ ?_));(all_goals (try (conv=>whnf)))
 all_goals exact Qa2
def Qiz (k:ByteArray):Bool:=decide ((k.size:Int)≤16)
def Qjc (a:Bool) (d:Nat) (f:Bool):Bool:=decide (¬ (a=true∧f=true)∧(a=true→d≠0)∧(a=false→f=false→d=0))
def Qc7 (s:Int):Bool:=decide (s=2∨s=3)
def noD (b:ByteArray):Bool:=b.toList==(⟨#[]⟩:ByteArray).toList
def Qem (d:Dk) (p:Int):Bool:=decide (d.bs≤64∧0≤d.st∧d.st≤3∧(d.st≠1→d.cmd=0∧d.ob=0∧d.of_=0∧noD d.od=true)∧(d.st=1→d.ob<d.bs∧(d.of_:Int)<p∧(d.cmd=1∧noD d.od=true∨d.cmd=2∧d.od.size=128)))
def Qgc (n:Nk) (p:Int):Bool:=decide ((n.po=true→n.re=false∧(n.bu:Int)<p)∧(n.po=false→n.bu=0)∧(n.re=true→1≤n.go_∧n.go_≤128)∧(n.re=false→n.go_=0))
theorem Qej {H:List Row} {v w:Bool} {σ:St} (h:Fin H (· =⟨.a (.s (.bool v)),[],[]⟩) σ (.a (.s (.bool v)))) (e:w=v):Fin H (· =⟨.a (.s (.bool v)),[],[]⟩) σ (.a (.s (.bool w))):=by subst e;exact h
theorem Qjh (k:ByteArray):Fn Tryz.prog 123 [.agg [.str k]] [] (· =⟨.a (.s (.bool (Qiz k))),[],[]⟩):=by
 unfold Qiz
 refine fnW Tryz.func123 ?_
 (repeat' ((conv=>whnf);first|(intro hb;first|exact zk2 hb|(try (replace hb:=zn0 hb)))|refine zst ?_|refine zbx ?_ ?_|refine zgx ?_ ?_|refine eqR ?_));(all_goals (try (conv=>whnf)))
 all_goals exact zf_
theorem QjD (a:Bool) (d:Nat) (f:Bool):Fn Tryz.prog 124 [.agg [.bool a,.int .u32 d,.bool f]] [] (· =⟨.a (.s (.bool (Qjc a d f))),[],[]⟩):=by
 cases a<;>cases f
 all_goals
  refine fnW Tryz.func124 ?_
  (repeat' ((conv=>whnf);first|(intro hb;first|exact zk2 hb|(try (replace hb:=zn0 hb)))|refine zst ?_|refine zbx ?_ ?_|refine zgx ?_ ?_|refine eqR ?_));(all_goals (try (conv=>whnf)))
  all_goals first|(refine Qej ?_ ?_;(focus (exact zf_));unfold Qjc;rw [Bool.eq_iff_iff];simp;try omega)
theorem QjQ (d:Dk) (hd:d.ok) (p:Int):Fn Tryz.prog 125 [.agg d.C,.s (.int .i64 p)] [] (· =⟨.a (.s (.bool (Qem d p))),[],[]⟩):=by
 obtain ⟨_,_,_,_,_,_,_,_⟩:=hd
 obtain ⟨bs,bl,fr,st,cmd,ob,of_,od⟩:=d
 dsimp only at *
 dsimp only [Dk.C]
 generalize hB:Qem ⟨bs,bl,fr,st,cmd,ob,of_,od⟩ p=B
 unfold Qem at hB
 dsimp only at hB
 have hno:(od.toList==(⟨#[]⟩:ByteArray).toList)=noD od:=rfl
 generalize noD od=nd at *
 refine fnW Tryz.func125 ?_
 (repeat' ((conv=>whnf);first|(intro hb;first|exact zk2 hb|(try (replace hb:=zn0 hb)))|((with_reducible apply Vl.mk (α:=Bool)); · with_reducible exact hno)|refine zst ?_|refine zbx ?_ ?_|refine zgx ?_ ?_|refine eqR ?_));(all_goals (try (conv=>whnf)))
 all_goals first|(refine Qej ?_ ?_;(focus (exact zf_));rw [← hB];first|(symm;exact decide_eq_false (by omega))|(rw [Bool.eq_iff_iff];simp;grind))
theorem QjA (n:Nk) (hn:n.ok) (p:Int):Fn Tryz.prog 126 [.agg n.C,.s (.int .i64 p)] [] (· =⟨.a (.s (.bool (Qgc n p))),[],[]⟩):=by
 obtain ⟨r1,r2,r3,r4⟩:=hn
 obtain ⟨fr,ln,po,bu,re,go_⟩:=n
 dsimp only at *
 dsimp only [Nk.C]
 generalize hB:Qgc ⟨fr,ln,po,bu,re,go_⟩ p=B
 unfold Qgc at hB
 dsimp only at hB
 cases po<;>cases re
 all_goals
  refine fnW Tryz.func126 ?_
  (repeat' ((conv=>whnf);first|(intro hb;first|exact zk2 hb|(try (replace hb:=zn0 hb)))|refine zst ?_|refine zbx ?_ ?_|refine zgx ?_ ?_|refine eqR ?_));(all_goals (try (conv=>whnf)))
  all_goals first|(refine Qej ?_ ?_;(focus (exact zf_));rw [← hB];first|(rw [Bool.eq_iff_iff];simp;done)|(rw [Bool.eq_iff_iff];simp;omega)|(rw [Bool.eq_iff_iff];simp;grind))
end Go.Proofs.YtjgikeckbeeehaaGreat
