import Derived.Test.YtflelebfmdggkaaGreatP46
import Derived.Test.YtflelebfmdggkaaGreatP76
set_option linter.unusedSimpArgs false
set_option linter.unusedVariables false
set_option maxHeartbeats 100000000
set_option maxRecDepth 100000
namespace Go.Proofs.YtflelebfmdggkaaGreat
open Go Go.RowKit
def inV (M:Mc) (p:Int) (w:Nat):Nat:=if p≤1 then Qoc M.ks p else if p=2 then w else if p=3 then QmV M.tf else if p≤6 then Qg8 M.d p else if p≤9 then QgZ M.n p else QgO M.bt M.bg p
def inM (M:Mc) (p:Int):Mc:=if p≤1 then { M with ks:=Qll M.ks p } else M
theorem QAu (M:Mc) (hM:M.ok) (p:Int) (w:Nat):FN 49 [.s (.ptr 0 0),.s (.i p),.s (.u w)] [⟨true,1,M.C 1⟩,⟨true,1,wsv M.m⟩]
  (· =⟨.a (.s (.u (inV M p w:Nat))),[(0,some ⟨true,1,(inM M p).C 1⟩)],[]⟩):=by
 have q1:=Qqw M.ks hM.dv.2.2.2.2 p;have q2:=Qoz M.ta M.td M.tf;have q3:=QpU M.d p;have q4:=QrF M.n p;have q5:=QqJ M.bt M.bg hM.dv.2.2.1 p;have gL:=Qaa M.m;obtain ⟨B,hB⟩:∃ B,inV M p w=B:=⟨_,rfl⟩;obtain ⟨M2,wI⟩:∃ B,inM M p=B:=⟨_,rfl⟩;rw [hB,wI];unfold inV at hB;unfold inM at wI;generalize Qoc M.ks p=v1,Qll M.ks p=k2,QmV M.tf=v2,Qg8 M.d p=v3,QgZ M.n p=v4,QgO M.bt M.bg p=v5 at *;obtain ⟨hx,hc,hY,gA,gH,gB,_,gE,gD,gF⟩:=hM;obtain ⟨_,_,_,m,ks,ta,td,tf,d,n,bt,bg⟩:=M;dsimp only at *;obtain ⟨_,_,_,_,_,_,_,_,_,_,_,_,_,_,_,_,rfl⟩:=Qav hx;obtain ⟨_,_,_,_,_,_,_,_,rfl⟩:=QaM hc;cases d;cases n;dsimp only [Mc.C,Mc.D,Dk.C,Nk.C,Dk.ok,Nk.ok] at *;generalize gJ:m.length=nn,wsv m=XX at *;clear hY gA gE gD gB gF gH
 by_cases h1:p≤1
 ·rw [zP h1] at hB wI
  subst hB wI;dsimp only;rw [gJ];refine fnW Tryz.func49 ?_;(repeat' ((conv=>whnf);first|exact zi2|(refine zj0 ?_;intro hb)|(refine zpu q1 ?_)|refine zse ?_|refine zbb ?_ ?_))
  all_goals exact Qw9
 rw [zN h1] at hB wI;subst wI
 by_cases h2:p=2
 ·rw [zP h2] at hB
  subst hB h2;dsimp only;rw [gJ];refine fnW Tryz.func49 ?_;exact Qx3
 rw [zN h2] at hB
 by_cases h3:p=3
 ·rw [zP h3] at hB
  subst hB h3;dsimp only;rw [gJ];refine fnW Tryz.func49 ?_;(repeat' ((conv=>whnf);first|exact zi2|(refine zj0 ?_;intro hb)|(refine zpu q2 ?_)|refine zse ?_|refine zbb ?_ ?_))
  all_goals exact QFw
 rw [zN h3] at hB
 by_cases h4:p≤6
 ·rw [zP h4] at hB
  subst hB;dsimp only;rw [gJ];refine fnW Tryz.func49 ?_;(repeat' ((conv=>whnf);first|exact zi2|(refine zj0 ?_;intro hb)|(refine zpu q3 ?_)|refine zse ?_|refine zbb ?_ ?_))
  all_goals exact Qw9
 rw [zN h4] at hB
 by_cases h5:p≤9
 ·rw [zP h5] at hB
  subst hB;dsimp only;rw [gJ];refine fnW Tryz.func49 ?_;(repeat' ((conv=>whnf);first|exact zi2|(refine zj0 ?_;intro hb)|(refine zpu q4 ?_)|refine zse ?_|refine zbb ?_ ?_))
  all_goals exact Qw9
 rw [zN h5] at hB;subst hB;dsimp only;rw [gJ];refine fnW Tryz.func49 ?_;(repeat' ((conv=>whnf);first|exact zi2|(refine zj0 ?_;intro hb)|(refine zpu q5 ?_)|refine zse ?_|refine zbb ?_ ?_))
 all_goals exact Qw9
def QeV (x:Nat):Nat→List Int
 | 0=> []
 | j+1=>QeV x j++ [((x / 2^(8*j)%256:Nat):Int)]
theorem QfH (x:Nat):∀ j,(QeV x j).length=j
 | 0=>rfl
 | j+1=>by unfold QeV;rw [List.length_append,QfH x j];rfl
def QEN (x j:Nat) (R:List SV):St :=
 ⟨[(0,.a (.s (.u x))),(1,.a (.s (.i 4))),(5,.a (.s (.sl 0 0 j))),(6,.a (.s (.i j)))],[(0,some ⟨true,1,R⟩)],[0]⟩
theorem QdG:∀ l:List Int,QdW (isv .u8 l)=some l
 | []=>rfl
 | x::l=>by
  have:=QdG l;unfold isv at *;rw [List.map_cons];simp only [QdW,this]
theorem Qy3 (x:Nat) (hx:x<4294967296):FN 228 [.s (.u x),.s (.i 4)] [] (· =⟨.a (.s (.str (strOfNums (QeV x 4)))),[],[]⟩):=by
 refine fnW Tryz.func228 ?_;(repeat' ((conv=>whnf);first|exact zi0|(refine zj0 ?_;intro hb)|refine zst ?_|refine zbb ?_ ?_));all_goals (conv=>whnf)
 refine Lp.inv (fun mm σ=>∃ j:Nat,mm+j=4∧σ=QEN x j (isv .u8 (QeV x j))) ?_ ?_
 ·refine ⟨4,QEN x 0 [],?_,0,by omega,rfl⟩
  apply Qcb (m:= [(0,none)])
  ·repeat' (first|exact Qa1|apply QaP)
   all_goals first|exact QcB (Qcx (QaL rfl))|exact QcB (Qcx (QeJ rfl))
  ·show HlS _ _ [] _
   refine Qaq (QcR rfl rfl) ?_;exact QaN
  ·rfl
 rintro mm σ ⟨j,yP,rfl⟩;unfold QEN;have wB:=QaO .u8 (QeV x (j+1));have VG:=QaO .u8 (QeV x j);have gG:(isv .u8 (QeV x j)).length=j:=by unfold isv;rw [List.length_map,QfH]
 by_cases hj:j<4
 ·have s1:=Qnd x (8*j) (by omega)
  have jJ:isv .u8 (QeV x j)++ [.int .u8 ((x / 2^(8*j)%256:Nat):Int)]=isv .u8 (QeV x (j+1)):=by unfold isv;rw [QeV,List.map_append];rfl
  have q1:IntKind.i64.wrap (8*(j:Int))=((8*j:Nat):Int):=QbP;have q2:IntKind.i64.wrap ((j:Int)+1)=((j+1:Nat):Int):=QbP;have q3:IntKind.u64.wrap ((8*j:Nat):Int)=((8*j:Nat):Int):=QjD;have q4:∀ y:Nat,IntKind.u8.wrap (y:Int)=((y%256:Nat):Int):=fun y=>by rw [Qn5];omega
  have q4':=q4 (x / 2^(8*j));clear q4;generalize x / 2^(8*j)=y,isv .u8 (QeV x j)=R0,hR1:isv .u8 (QeV x (j+1))=R1 at *;generalize 8*j=j8,y%256=z at *;(repeat' ((conv=>whnf);first|exact zi2|(refine zj0 ?_;intro hb)|(with_reducible first|refine zv q1 ?_|refine zv q2 ?_|refine zv q3 ?_|refine zv q4' ?_|refine zv s1 ?_)|(apply Sd.mk; · refine ⟨rfl,rfl,?_,?_,?_⟩;(focus (show R0.length=j*1;omega));(focus (show (j+1)*1≤_;omega));(focus omega))|refine QDr ?_|refine zse ?_|refine zbb ?_ ?_));all_goals (conv=>whnf)
  all_goals first
   | (
     refine ⟨mm-1,QEN x (j+1) R1,by omega,?_,j+1,by omega,by rw [hR1];rfl⟩
     (exact zwL [(0,some _)]))
 ·obtain rfl:j=4:=by omega
  have ht:=QdG (QeV x 4);have sg:(isv .u8 (QeV x 4)).length=4∧∀ (i:Nat) s,(isv .u8 (QeV x 4))[i]?=some s→(isv .u8 (QeV x 4))[0+i]?=some s:=⟨gG,fun i s hs=>by rw [Nat.zero_add];exact hs⟩;generalize isv .u8 (QeV x 4)=R0 at *;generalize QeV x 4=L at *;(repeat' ((conv=>whnf);first|exact zi2|(refine zj0 ?_;intro hb)|(apply Sg.mk; · exact sg)|refine QG4 ?_|refine zse ?_|refine zbb ?_ ?_))
  all_goals exact QBx
theorem QnD (l:List Int) (h:∀ y∈l,0≤y∧y<256):Qcy (strOfNums l)=isv .u8 l:=by
 unfold Qcy strOfNums isv;simp;intro y hy;have:=h y hy;omega
theorem Qpx (x:Nat):∀ j,∀ y∈QeV x j,0≤y∧y<256
 | 0=>fun y hy=>by cases hy
 | j+1=>fun y hy=>by
  unfold QeV at hy;rcases List.mem_append.1 hy with h|h
  ·exact Qpx x j y h
  ·rw [List.mem_singleton] at h;subst h;omega
def pgL (xs:List Nat) (p:Nat):Nat→List Int
 | 0=> []
 | j+1=>pgL xs p j++QeV (xs.getD (p*32+j) 0) 4
theorem Qgg (xs:List Nat) (p:Nat):∀ j,(pgL xs p j).length=4*j
 | 0=>rfl
 | j+1=>by unfold pgL;rw [List.length_append,Qgg xs p j,QfH];omega
def QEy (n p j r:Nat) (X R:List SV):St :=
 ⟨[(0,.a (.s (.sl 0 0 n))),(1,.a (.s (.i p))),(6,.a (.s (.sl 1 0 r))),(7,.a (.s (.i j)))],[(0,some ⟨false,1,X⟩),(1,some ⟨true,1,R⟩)],[0]⟩
def pgV (xs:List Nat) (n p:Nat):ByteArray:=if p<mpg n then strOfNums (pgL xs p 32) else ⟨#[]⟩
theorem QiC (xs:List Nat) (n:Nat) (hl:xs.length=n) (hn:n≤1000000) (hY:∀ y∈xs,y<4294967296) (p:Nat):FN 169 [.s (.sl 0 0 n),.s (.i p)] [⟨false,1,wsv xs⟩] (· =⟨.tup [.s (.str (pgV xs n p)),.s (.bool (decide (p<mpg n)))],[],[]⟩):=by
 have hp:=Qck xs n (by omega);have gL:=Qaa xs;have zS:=QaU n;have hmn:mpg n*32≤n:=QcQ;unfold pgV
 by_cases gT:p<mpg n
 ·rw [zP gT,decide_eq_true gT]
  generalize mpg n=P,hX:wsv xs=XX at *;refine fnW Tryz.func169 ?_;(repeat' ((conv=>whnf);first|exact zi2|(refine zj0 ?_;intro hb)|(refine QaD hp ?_)|refine zse ?_|refine zbb ?_ ?_));all_goals (conv=>whnf)
  all_goals try (exfalso;simp at hb;omega)
  refine Lp.inv (fun mm σ=>∃ j:Nat,mm+j=32∧σ=QEy n p j (4*j) XX (isv .u8 (pgL xs p j))) ?_ ?_
  ·refine ⟨32,QEy n p 0 0 XX [],?_,0,by omega,rfl⟩
   apply Qcb (m:= [(0,some 0),(1,none)])
   ·repeat' (first|exact Qa1|apply QaP)
    all_goals exact Qg2
   ·show HlS _ _ [] _
    refine Qaq (Qan rfl rfl rfl rfl (Qaj gL)) ?_;refine Qaq (QcR rfl rfl) ?_;exact QaN
   ·rfl
  rintro mm σ ⟨j,yP,rfl⟩;unfold QEy;have wB:=QaO .u8 (pgL xs p (j+1));have VG:=QaO .u8 (pgL xs p j);have gG:(isv .u8 (pgL xs p j)).length=4*j:=by unfold isv;rw [List.length_map,Qgg]
  by_cases hj:j<32
  ·have qJ:=Qy3 (xs.getD (p*32+j) 0) (Qab hY _)
   have jJ:isv .u8 (pgL xs p j)++Qcy (strOfNums (QeV (xs.getD (p*32+j) 0) 4))=isv .u8 (pgL xs p (j+1)):=by rw [QnD _ (Qpx _ _),pgL];unfold isv;rw [List.map_append]
   have fZ:(strOfNums (QeV (xs.getD (p*32+j) 0) 4)).size=4:=by rw [strOfNums_size,QfH]
   have uU:XX[p*32+j]?=some (.u (xs.getD (p*32+j) 0:Nat)):=by
    rw [← hX];unfold wsv;rw [List.getElem?_map,List.getD_eq_getElem?_getD,List.getElem?_eq_getElem (by omega)];rfl
   have q1:IntKind.i64.wrap ((p:Int)*32)=((p*32:Nat):Int):=QbP;have q2:IntKind.i64.wrap ((j:Int)+1)=((j+1:Nat):Int):=QbP;have q3:IntKind.i64.wrap (((p*32:Nat):Int)+(j:Int))=((p*32+j:Nat):Int):=QbP;generalize xs.getD (p*32+j) 0=v at *;generalize strOfNums (QeV v 4)=S at *;have vI:4*j+S.size=4*(j+1):=by omega
   generalize isv .u8 (pgL xs p j)=R0,hR1:isv .u8 (pgL xs p (j+1))=R1 at *;have WZ:(0:Int)≤((p*32+j:Nat):Int)∧((p*32+j:Nat):Int)<(n:Int):=by omega
   generalize p*32+j=ix at *;generalize p*32=p32,4*j=r0,yZ:4*(j+1)=r1 at *;(repeat' ((conv=>whnf);first|exact zi2|(refine zj0 ?_;intro hb)|refine QF7 ?_|((with_reducible apply Vl.mk (α:=Nat)); · with_reducible exact vI)|refine Qtj ?_|(refine zpu qJ ?_)|(apply Sd.mk; · first|exact WZ|(refine ⟨rfl,rfl,?_,?_,?_⟩;(focus (show R0.length=r0*1;omega));(focus (show (r0+S.size)*1≤_;omega));(focus omega)))|refine QDr ?_|refine zse ?_|refine zbb ?_ ?_));all_goals (conv=>whnf)
   all_goals first
    | (
      refine ⟨mm-1,QEy n p (j+1) r1 XX R1,by omega,?_,j+1,by omega,by rw [hR1,yZ];rfl⟩
      (exact zwL [(0,some 0),(1,some _)]))
  ·clear wB
   obtain rfl:j=32:=by omega
   have ht:=QdG (pgL xs p 32);have sg:(isv .u8 (pgL xs p 32)).length=4*32∧∀ (i:Nat) s,(isv .u8 (pgL xs p 32))[i]?=some s→(isv .u8 (pgL xs p 32))[0+i]?=some s:=⟨gG,fun i s hs=>by rw [Nat.zero_add];exact hs⟩;generalize isv .u8 (pgL xs p 32)=R0 at *;generalize pgL xs p 32=L,4*32=r0 at *;(repeat' ((conv=>whnf);first|exact zi2|(refine zj0 ?_;intro hb)|(apply Sg.mk; · exact sg)|refine QG4 ?_|refine zse ?_|refine zbb ?_ ?_))
   all_goals exact Qrv
 ·rw [zN gT,decide_eq_false gT]
  generalize mpg n=P,wsv xs=XX at *;refine fnW Tryz.func169 ?_;(repeat' ((conv=>whnf);first|exact zi2|(refine zj0 ?_;intro hb)|(refine QaD hp ?_)|refine zse ?_|refine zbb ?_ ?_))
  all_goals exact Qrv
def oS (k:Nat):Option (List SV)→SV
 | none=> .nilsl
 | some _=> .sl k 0 1
def oR:Option (List SV)→List Row
 | none=> []
 | some l=> [⟨true,4,l⟩]
def Qqi (d:Dk) (v c:Nat) (b:ByteArray):Dk:=⟨d.bs,d.bl,d.fr,1,v,d.bl,d.fr,if (v:Int)=2 then b else ⟨#[]⟩⟩
def Qa6 (d:Dk) (xs:List Nat) (n:Nat) (p:Int) (v c:Nat):Dk × Option (List SV) :=
 if p=4 then (⟨d.bs,v,d.fr,d.st,d.cmd,d.ob,d.of_,d.od⟩,none)
 else if p=5 then (⟨d.bs,d.bl,v,d.st,d.cmd,d.ob,d.of_,d.od⟩,none)
 else if ¬ p=6 then (d,none)
 else if (v:Int)=0∧(d.st=2∨d.st=3) then (⟨d.bs,d.bl,d.fr,0,d.cmd,d.ob,d.of_,d.od⟩,none)
 else if ((v:Int)=1∨(v:Int)=2)∧d.st=0 then
  (if (d.bs:Int)≤d.bl then (⟨d.bs,d.bl,d.fr,3,d.cmd,d.ob,d.of_,d.od⟩,none)
   else if QbG n d.fr=false then (⟨d.bs,d.bl,d.fr,3,d.cmd,d.ob,d.of_,d.od⟩,none)
   else (Qqi d v c (pgV xs n d.fr),some (QnQ (Qqi d v c (pgV xs n d.fr)) c)))
 else (d,none)
theorem Qns (d:Dk) (hd:d.ok) (xs:List Nat) (n:Nat) (hl:xs.length=n) (hn:n≤1000000) (hY:∀ y∈xs,y<4294967296) (p:Int) (v:Nat) (hv:v<4294967296) (c:Nat) :
  FN 101 [.agg d.C,.s (.sl 0 0 n),.s (.i p),.s (.u v),.s (.w c)] [⟨false,1,wsv xs⟩] (· =⟨.tup [.agg (Qa6 d xs n p v c).1.C,.s (oS 1 (Qa6 d xs n p v c).2)],[],oR (Qa6 d xs n p v c).2⟩):=by
 obtain ⟨_,_,e3,_,_,_,_,_⟩:=hd;have q1:=QfT xs n hl (by omega) d.fr e3;have q2:=QiC xs n hl hn hY d.fr;have q3:=Qk9 (Qqi d v c (pgV xs n d.fr)) c;have gL:=Qaa xs;obtain ⟨D,hD⟩:∃ D,Qa6 d xs n p v c=D:=⟨_,rfl⟩;rw [hD];unfold Qa6 at hD;generalize hO:QnQ (Qqi d v c (pgV xs n d.fr)) c=O at *
 have YF:O.length=4∧Qau O=true∧Qas O=true:=by
  rw [← hO];unfold QnQ;split<;>(try split)<;>(try split)<;>exact ⟨rfl,rfl,rfl⟩
 generalize QvF (Qqi d v c (pgV xs n d.fr))=RB at *;unfold Qqi at *;generalize pgV xs n d.fr=PG,decide (d.fr<mpg n)=PB,QbG n d.fr=pb,wsv xs=XX at *;obtain ⟨bs,bl,fr,st⟩:=d;dsimp only [Dk.C] at *;have cv:IntKind.i64.wrap (v:Int)=v:=Qm3;have cf:IntKind.i64.wrap (fr:Int)=fr:=Qm3
 by_cases h4:p=4
 ·rw [zP h4] at hD
  subst hD h4;dsimp only [oS,oR];refine fnW Tryz.func101 ?_;exact Qxh
 rw [zN h4] at hD
 by_cases h5:p=5
 ·rw [zP h5] at hD
  subst hD h5;dsimp only [oS,oR];refine fnW Tryz.func101 ?_;exact Qxh
 rw [zN h5] at hD
 by_cases h6:¬ p=6
 ·rw [zP h6] at hD
  subst hD;dsimp only [oS,oR];refine fnW Tryz.func101 ?_;exact Qxh
 rw [zN h6] at hD;obtain rfl:p=6:=by omega
 by_cases h7:(v:Int)=0∧(st=2∨st=3)
 ·rw [zP h7] at hD
  subst hD;dsimp only [oS,oR];refine fnW Tryz.func101 ?_;exact Qxh
 rw [zN h7] at hD
 by_cases h8:((v:Int)=1∨(v:Int)=2)∧st=0
 ·rw [zP h8] at hD
  by_cases h9:(bs:Int)≤bl
  ·rw [zP h9] at hD
   subst hD;dsimp only [oS,oR];refine fnW Tryz.func101 ?_;exact Qxh
  rw [zN h9] at hD;cases pb
  ·rw [zP rfl] at hD
   subst hD;dsimp only [oS,oR];refine fnW Tryz.func101 ?_;(repeat' ((conv=>whnf);first|exact zi2|(refine zj0 ?_;intro hb)|(refine QaD q1 ?_)|refine zse ?_|refine zbb ?_ ?_))
   all_goals exact Qfz
  rw [zN (by decide)] at hD
  by_cases h2:(v:Int)=2
  ·rw [zP h2] at hD q3
   obtain rfl:v=2:=by omega
   obtain rfl:O= [.i 4,.w c,.u bl,.str PG]:=by rw [← hO];rfl
   clear hO YF;subst hD;dsimp only [oS,oR];refine fnW Tryz.func101 ?_;exact Qpp
  ·rw [zN h2] at hD q3
   obtain rfl:v=1:=by omega
   obtain rfl:O= [.i 3,.w c,.u bl,.str ⟨#[]⟩]:=by rw [← hO];rfl
   clear hO YF;subst hD;dsimp only [oS,oR];refine fnW Tryz.func101 ?_;exact Qpp
 rw [zN h8] at hD;subst hD;dsimp only [oS,oR];refine fnW Tryz.func101 ?_;exact QAv
def Qbk (d:Nk) (xs:List Nat) (n:Nat) (p:Int) (v c:Nat):Nk × Option (List SV) :=
 if p=7 then (⟨v,d.ln,d.po,d.bu,d.re,d.go_⟩,none)
 else if p=8 then (⟨d.fr,v,d.po,d.bu,d.re,d.go_⟩,none)
 else if ¬ p=9 then (d,none)
 else if (v:Int)=0 then (⟨d.fr,d.ln,d.po,d.bu,false,0⟩,none)
 else if (v:Int)=1∧1≤(d.ln:Int)∧(d.ln:Int)≤128∧QbG n d.fr=true then (d,some [.i 2,.w c,.u 0,.str ((pgV xs n d.fr).extract 0 d.ln)])
 else if (v:Int)=2∧QbG n d.fr=true∧d.po=false∧d.re=false then (⟨d.fr,d.ln,true,d.fr,d.re,d.go_⟩,none)
 else (d,none)
theorem QhZ {xs:List Nat} {n f:Nat} (h:QbG n f=true):(pgV xs n f).size=128:=by
 unfold QbG at h;have:=of_decide_eq_true h;unfold pgV;rw [zP (by omega),strOfNums_size,Qgg]
theorem QnS (d:Nk) (hd:d.ok) (xs:List Nat) (n:Nat) (hl:xs.length=n) (hn:n≤1000000) (hY:∀ y∈xs,y<4294967296) (p:Int) (v:Nat) (hv:v<4294967296) (c:Nat) :
  FN 102 [.agg d.C,.s (.sl 0 0 n),.s (.i p),.s (.u v),.s (.w c)] [⟨false,1,wsv xs⟩] (· =⟨.tup [.agg (Qbk d xs n p v c).1.C,.s (oS 1 (Qbk d xs n p v c).2)],[],oR (Qbk d xs n p v c).2⟩):=by
 obtain ⟨e1,e2,e3,e4⟩:=hd;have q1:=QfT xs n hl (by omega) d.fr e1;have q2:=QiC xs n hl hn hY d.fr;have wO:=@QhZ xs n d.fr;have gL:=Qaa xs;obtain ⟨D,hD⟩:∃ D,Qbk d xs n p v c=D:=⟨_,rfl⟩;rw [hD];unfold Qbk at hD;generalize pgV xs n d.fr=PG,decide (d.fr<mpg n)=PB,QbG n d.fr=pb,wsv xs=XX at *;obtain ⟨fr,ln,po,_,re⟩:=d;dsimp only [Nk.C] at *;have cf:IntKind.i64.wrap (fr:Int)=fr:=Qm3;have cl:IntKind.i64.wrap (ln:Int)=ln:=Qm3
 by_cases h4:p=7
 ·rw [zP h4] at hD
  subst hD h4;dsimp only [oS,oR];refine fnW Tryz.func102 ?_;exact QKh
 rw [zN h4] at hD
 by_cases h5:p=8
 ·rw [zP h5] at hD
  subst hD h5;dsimp only [oS,oR];refine fnW Tryz.func102 ?_;exact QKh
 rw [zN h5] at hD
 by_cases h6:¬ p=9
 ·rw [zP h6] at hD
  subst hD;dsimp only [oS,oR];refine fnW Tryz.func102 ?_;exact QKh
 rw [zN h6] at hD;obtain rfl:p=9:=by omega
 by_cases h7:(v:Int)=0
 ·rw [zP h7] at hD
  subst hD;obtain rfl:v=0:=by omega
  dsimp only [oS,oR];refine fnW Tryz.func102 ?_;exact QKh
 rw [zN h7] at hD
 by_cases h8:(v:Int)=1∧1≤(ln:Int)∧(ln:Int)≤128∧pb=true
 ·rw [zP h8] at hD
  obtain ⟨h81,h82,h83,rfl⟩:=h8;have wO:=wO rfl;have sb:(0:Int)≤0∧(0:Int)≤(ln:Int)∧(ln:Int)≤(PG.size:Nat):=by omega
  subst hD;obtain rfl:v=1:=by omega
  dsimp only [oS,oR];refine fnW Tryz.func102 ?_;exact QCY
 rw [zN h8] at hD
 by_cases h9:(v:Int)=2∧pb=true∧po=false∧re=false
 ·rw [zP h9] at hD
  obtain ⟨h91,rfl,rfl,rfl⟩:=h9;subst hD;obtain rfl:v=2:=by omega
  dsimp only [oS,oR];refine fnW Tryz.func102 ?_;exact QfF
 rw [zN h9] at hD
 by_cases w1:v=1
 ·obtain rfl:=w1
  by_cases w2:1≤(ln:Int)
  ·by_cases w3:(ln:Int)≤128
   ·obtain rfl:pb=false:=by cases pb;rfl;exact absurd ⟨rfl,w2,w3,rfl⟩ h8
    subst hD;dsimp only [oS,oR];refine fnW Tryz.func102 ?_;exact QfF
   ·subst hD
    dsimp only [oS,oR];refine fnW Tryz.func102 ?_;exact QKh
  ·subst hD
   dsimp only [oS,oR];refine fnW Tryz.func102 ?_;exact QKh
 by_cases w2:v=2
 ·obtain rfl:=w2
  subst hD;cases pb
  all_goals cases po
  all_goals cases re
  all_goals try (exfalso;exact h9 ⟨rfl,rfl,rfl,rfl⟩)
  all_goals
   skip;dsimp only [oS,oR];refine fnW Tryz.func102 ?_;exact QfF
 subst hD;dsimp only [oS,oR];refine fnW Tryz.func102 ?_;exact QBP
theorem QAQ (P:Nat) (h:P<4294967296):IntKind.u32.wrap (P:Int)=(P:Nat):=QeS (by omega) (by omega)
def anV (a b:Nat):Nat:=(bits .andNot .u32 (a:Int) (b:Int)).toNat
theorem QiH (a b:Nat):bits .andNot .u32 (a:Int) (b:Int)=((anV a b:Nat):Int)∧anV a b<4294967296:=by
 have h:0≤bits .andNot .u32 (a:Int) (b:Int)∧bits .andNot .u32 (a:Int) (b:Int)<4294967296:=by
  show 0≤IntKind.u32.wrap _∧IntKind.u32.wrap _<4294967296;rw [Qcf];omega
 unfold anV;omega
def zrL (xs:List Nat) (v:Nat):Nat→List Nat
 | 0=>xs
 | j+1=>(zrL xs v j).set (v*32+j) 0
theorem Qfb (xs:List Nat) (v:Nat):∀ j,(zrL xs v j).length=xs.length
 | 0=>rfl
 | j+1=>by unfold zrL;rw [List.length_set,Qfb xs v j]
theorem Qvn (xs:List Nat) (v:Nat) (h:∀ y∈xs,y<4294967296):∀ j,∀ y∈zrL xs v j,y<4294967296
 | 0=>h
 | j+1=>fun y hy=>by
  unfold zrL at hy;rcases List.mem_or_eq_of_mem_set hy with h1|h1
  ·exact Qvn xs v h j y h1
  ·omega
def gvQ (bg n:Nat) (p:Int) (v:Nat):Prop:=p=10∧QbG n v=true∧bg / 2^v%2=0
instance (bg n:Nat) (p:Int) (v:Nat):Decidable (gvQ bg n p v):=by unfold gvQ;infer_instance
def Qg0 (bg n:Nat) (p:Int) (v:Nat):Nat:=if gvQ bg n p v then bg ||| 2^v else if p=11∧(v:Int)<32 then anV bg (2^v) else bg
def QfG (xs:List Nat) (bg n:Nat) (p:Int) (v:Nat):List Nat:=if gvQ bg n p v then zrL xs v 32 else xs
def QAn (n v j:Nat) (X:List SV) (bt bg:Nat):St :=
 ⟨[(1,.a (.s (.sl 0 0 n))),(3,.a (.s (.u v))),(4,.a (.s (.ptr 1 0))),(8,.a (.s (.ptr 2 0))),(9,.a (.s (.i j)))],[(0,some ⟨true,1,X⟩),(1,some ⟨true,1,[.u bt,.u bg]⟩),(2,some ⟨true,1,[.u 0,.u 0]⟩)],[0]⟩
theorem QsP (bt bg:Nat) (hb:bg<4294967296) (xs:List Nat) (n:Nat) (hl:xs.length=n) (hn:n≤1000000) (p:Int) (v:Nat) (hv:v<4294967296) (hq:¬ gvQ bg n p v) :
  FN 103 [.agg [.u bt,.u bg],.s (.sl 0 0 n),.s (.i p),.s (.u v)] [⟨true,1,wsv xs⟩] (· =⟨.a (.agg [.u bt,.u (Qg0 bg n p v)]),[(0,some ⟨true,1,wsv (QfG xs bg n p v)⟩)],[]⟩):=by
 have q1:=QfT xs n hl (by omega) v hv;have gL:=Qaa xs;have zS:=QaU n;have hmn:mpg n*32≤n:=QcQ;have KY:=(QiH bg (2^v)).1;have yM:QbG n v=true→v<mpg n:=fun h=>by unfold QbG at h;have:=of_decide_eq_true h;omega
 unfold Qg0 QfG;rw [zN hq,zN hq];unfold gvQ at hq
 by_cases yR:p=11
 ·subst yR
  by_cases zO:(v:Int)<32
  ·rw [zP ⟨rfl,zO⟩]
   have FG:(2:Nat)^v<4294967296:=by
    have:=Nat.pow_lt_pow_right (a:=2) (by omega) (show v<32 by omega);simpa using this
   have s3:(1:Int)*2^min ((v:Nat):Int).toNat IntKind.u32.bits=((2^v:Nat):Int):=by rw [QH1 1 v (by omega)];simp
   have s4:IntKind.u32.wrap ((2^v:Nat):Int)=((2^v:Nat):Int):=QAQ _ FG;have s4':IntKind.u32.wrap ((1:Int)*2^min ((v:Nat):Int).toNat IntKind.u32.bits)=((2^v:Nat):Int):=by rw [s3,s4]
   clear hq yM;generalize 2^v=pw at *;generalize anV bg pw=b2,wsv xs=XX at *;refine fnW Tryz.func103 ?_;(repeat' ((conv=>whnf);first|exact zi2|(refine zj0 ?_;intro hb)|(with_reducible first|refine zv s4' ?_|refine zv s3 ?_|refine zv s4 ?_|refine zv KY ?_)|refine zse ?_|refine zbb ?_ ?_))
   all_goals exact QCb
  ·rw [zN (fun h=>zO h.2)]
   clear hq yM KY;generalize wsv xs=XX at *;refine fnW Tryz.func103 ?_;(repeat' ((conv=>whnf);first|exact zi2|(refine zj0 ?_;intro hb)|refine zse ?_|refine zbb ?_ ?_))
   all_goals exact QCb
 rw [zN (fun h=>yR h.1)]
 by_cases jW:p=10
 ·subst jW
  by_cases h2:QbG n v=true
  ·rw [h2] at q1
   have hvm:=yM h2;have zO:v<32:=by omega
   have h3:bg / 2^v%2=1:=by
    have:¬ bg / 2^v%2=0:=fun h=>hq ⟨rfl,h2,h⟩
    omega
   have s1:=Qnd bg v zO;have s2:=Qj4 (bg / 2^v) (Nat.lt_of_le_of_lt (Nat.div_le_self _ _) hb);rw [h3] at s2;clear hq yM KY h3;generalize bg / 2^v=bv,wsv xs=XX at *;refine fnW Tryz.func103 ?_;(repeat' ((conv=>whnf);first|exact zi2|(refine zj0 ?_;intro hb)|refine QFU ?_|(refine QaD q1 ?_)|refine zse ?_|refine zbb ?_ ?_))
   all_goals exact QCb
  ·rw [Bool.eq_false_iff.2 h2] at q1
   clear hq yM KY;generalize wsv xs=XX at *;refine fnW Tryz.func103 ?_;(repeat' ((conv=>whnf);first|exact zi2|(refine zj0 ?_;intro hb)|(refine QaD q1 ?_)|refine zse ?_|refine zbb ?_ ?_))
   all_goals exact QCb
 clear hq yM KY;generalize wsv xs=XX at *;refine fnW Tryz.func103 ?_;exact QAv
theorem Qqu (bt bg:Nat) (hb:bg<4294967296) (xs:List Nat) (n:Nat) (hl:xs.length=n) (hn:n≤1000000) (p:Int) (v:Nat) (hv:v<4294967296) (hq:gvQ bg n p v) :
  FN 103 [.agg [.u bt,.u bg],.s (.sl 0 0 n),.s (.i p),.s (.u v)] [⟨true,1,wsv xs⟩] (· =⟨.a (.agg [.u bt,.u (Qg0 bg n p v)]),[(0,some ⟨true,1,wsv (QfG xs bg n p v)⟩)],[]⟩):=by
 have q1:=QfT xs n hl (by omega) v hv;have gL:=Qaa xs;have zS:=QaU n;have hmn:mpg n*32≤n:=QcQ;have KY:=(QiH bg (2^v)).1;have yM:QbG n v=true→v<mpg n:=fun h=>by unfold QbG at h;have:=of_decide_eq_true h;omega
 unfold Qg0 QfG;rw [zP hq,zP hq];obtain ⟨ZZ,JP⟩:∃ ZZ,∀ k,k=32→zrL xs v k=ZZ:=⟨zrL xs v 32,fun k h=>by rw [h]⟩;rw [JP 32 rfl];obtain ⟨rfl,h2,h3⟩:=hq;rw [h2] at q1;have hvm:=yM h2;have zO:v<32:=by omega
 have s1:=Qnd bg v zO;have s2:=Qj4 (bg / 2^v) (Nat.lt_of_le_of_lt (Nat.div_le_self _ _) hb);rw [h3] at s2
 have FG:(2:Nat)^v<4294967296:=by
  have:=Nat.pow_lt_pow_right (a:=2) (by omega) zO;simpa using this
 have s3:(1:Int)*2^min ((v:Nat):Int).toNat IntKind.u32.bits=((2^v:Nat):Int):=by rw [QH1 1 v (by omega)];simp
 have s4:IntKind.u32.wrap ((2^v:Nat):Int)=((2^v:Nat):Int):=QAQ _ FG;have s4':IntKind.u32.wrap ((1:Int)*2^min ((v:Nat):Int).toNat IntKind.u32.bits)=((2^v:Nat):Int):=by rw [s3,s4]
 have s5:=Qyz bg (2^v) hb FG;have q0:IntKind.i64.wrap (v:Int)=v:=Qm3;have q3:IntKind.i64.wrap ((v:Int)*32)=((v*32:Nat):Int):=QbP;clear yM zS h2 h3 KY;generalize bg / 2^v=bv at *;generalize 2^v=pw at *;generalize bg ||| pw=b2,hX:wsv xs=XX at *;refine fnW Tryz.func103 ?_;(repeat' ((conv=>whnf);first|exact zi2|(refine zj0 ?_;intro hb)|(with_reducible first|refine zv s1 ?_|refine zv s2 ?_|refine zv s4' ?_|refine zv s5 ?_)|(refine QaD q1 ?_)|refine zse ?_|refine zbb ?_ ?_));all_goals (conv=>whnf)
 all_goals try (exfalso;simp at hb;done)
 refine Lp.inv (fun mm σ=>∃ j:Nat,mm+j=32∧σ=QAn n v j (wsv (zrL xs v j)) bt b2) ?_ ?_
 ·refine ⟨32,QAn n v 0 XX bt b2,?_,0,by omega,by rw [← hX];rfl⟩
  (exact zwL [(0,some 0),(1,some _),(2,some _)])
 clear s1 s2 s3 s4 s4' s5 q1;rintro mm σ ⟨j,yP,rfl⟩;unfold QAn;have hZ:=Qaa (zrL xs v (j+1));have UD:=Qaa (zrL xs v j)
 by_cases hj:j<32
 ·have fC:QaC (wsv (zrL xs v j)) (v*32+j) [Qmw (Value.int IntKind.u32 0)]=wsv (zrL xs v (j+1)) :=
    QbB (zrL xs v j) (v*32+j) 0 (by rw [Qfb];omega)
  have ZU:(wsv (zrL xs v j)).length=n:=by simp [Qfb,hl]
  have q2:IntKind.i64.wrap ((j:Int)+1)=((j+1:Nat):Int):=QbP;have q4:IntKind.i64.wrap (((v*32:Nat):Int)+(j:Int))=((v*32+j:Nat):Int):=QbP;have WZ:(0:Int)≤((v*32+j:Nat):Int)∧((v*32+j:Nat):Int)<(n:Int):=by omega
  generalize wsv (zrL xs v j)=Z0,hZ1:wsv (zrL xs v (j+1))=Z1,v*32+j=ix at *;generalize v*32=v32 at *;have UY:ix+1≤Z0.length:=by omega
  (repeat' ((conv=>whnf);first|exact zi2|(refine zj0 ?_;intro hb)|(with_reducible first|refine zv q0 ?_|refine zv q2 ?_|refine zv q3 ?_|refine zv q4 ?_)|(apply Sd.mk; · first|with_reducible exact WZ|exact ⟨rfl,rfl,rfl,UY⟩)|refine zq7 ?_|refine zse ?_|refine zbb ?_ ?_));all_goals (conv=>whnf)
  all_goals first
   | (
     refine ⟨mm-1,QAn n v (j+1) Z1 bt b2,by omega,?_,j+1,by omega,by unfold QAn;rw [hZ1]⟩
     (exact zwL [(0,some 0),(1,some 1),(2,some 2)]))
 ·obtain rfl:j=32:=by omega
  clear hZ;rw [JP 32 rfl] at UD ⊢;clear JP;generalize wsv ZZ=Z0 at *;exact QKh
theorem QtF (bt bg:Nat) (hb:bg<4294967296) (xs:List Nat) (n:Nat) (hl:xs.length=n) (hn:n≤1000000) (p:Int) (v:Nat) (hv:v<4294967296) :
  FN 103 [.agg [.u bt,.u bg],.s (.sl 0 0 n),.s (.i p),.s (.u v)] [⟨true,1,wsv xs⟩] (· =⟨.a (.agg [.u bt,.u (Qg0 bg n p v)]),[(0,some ⟨true,1,wsv (QfG xs bg n p v)⟩)],[]⟩):=by grind [gvQ,Qqu,QsP,Fn,wsv,Qg0,QfG]
theorem QwV (bg n:Nat) (hb:bg<4294967296) (p:Int) (v:Nat):Qg0 bg n p v<4294967296:=by
 unfold Qg0;split
 ·rename_i h
  have hv:v<32:=by
   have:=h.2.1;have hm:=QaU n;unfold QbG at this;have:=of_decide_eq_true this;omega
  have FG:(2:Nat)^v<2^32:=Nat.pow_lt_pow_right (a:=2) (by omega) hv;exact Nat.or_lt_two_pow (n:=32) hb FG
 ·split
  ·exact (QiH bg (2^v)).2
  ·exact hb
theorem QeH (xs:List Nat) (bg n:Nat) (p:Int) (v:Nat):(QfG xs bg n p v).length=xs.length:=by grind [QfG,Qfb]
theorem QyP (xs:List Nat) (bg n:Nat) (p:Int) (v:Nat) (h:∀ y∈xs,y<4294967296):∀ y∈QfG xs bg n p v,y<4294967296:=by
 unfold QfG;split
 ·exact Qvn xs v h 32
 ·exact h
theorem QqP (xs:List Nat) (n f:Nat):(pgV xs n f).size≤128:=by
 unfold pgV;split
 ·rw [strOfNums_size,Qgg];omega
 ·exact Nat.zero_le _
theorem QqA (d:Dk) (hd:d.ok) (xs:List Nat) (n:Nat) (p:Int) (v:Nat) (hv:v<4294967296) (c:Nat):(Qa6 d xs n p v c).1.ok:=by
 obtain ⟨e1,e2,e3,e4,e5,e6,e7,e8⟩:=hd;have w:∀ i:Int,0≤i→i<4294967296→(Lit.int .i64 i).wf=true:=fun i h h'=>by simp [Lit.wf];exact ⟨by show (-9223372036854775808:Int)≤i;omega,by omega⟩
 unfold Qa6;split
 ·exact ⟨e1,hv,e3,e4,e5,e6,e7,e8⟩
 split
 ·exact ⟨e1,e2,hv,e4,e5,e6,e7,e8⟩
 split
 ·exact ⟨e1,e2,e3,e4,e5,e6,e7,e8⟩
 split
 ·exact ⟨e1,e2,e3,e4,e5,e6,w 0 (by omega) (by omega),e8⟩
 split
 ·split
  ·exact ⟨e1,e2,e3,e4,e5,e6,w 3 (by omega) (by omega),e8⟩
  split
  ·exact ⟨e1,e2,e3,e4,e5,e6,w 3 (by omega) (by omega),e8⟩
  ·refine ⟨e1,e2,e3,e2,e3,?_,w 1 (by omega) (by omega),w v (by omega) (by omega)⟩
   show (if (v:Int)=2 then pgV xs n d.fr else ⟨#[]⟩:ByteArray).size≤1000000;split
   ·grind [QqP,Qa6]
   ·exact Nat.zero_le _
 ·exact ⟨e1,e2,e3,e4,e5,e6,e7,e8⟩
def Qi6 (O:Option (List SV)):Prop:=∀ l,O=some l→l.length=4∧Qau l=true∧Qas l=true
theorem QdO (d:Dk) (xs:List Nat) (n:Nat) (p:Int) (v c:Nat):Qi6 (Qa6 d xs n p v c).2:=by
 unfold Qa6 Qi6;intro l h;split at h
 ·cases h
 split at h
 ·cases h
 split at h
 ·cases h
 split at h
 ·cases h
 split at h
 ·split at h
  ·cases h
  split at h
  ·cases h
  ·injection h with h
   subst h;unfold QnQ;split<;>(try split)<;>(try split)<;>exact ⟨rfl,rfl,rfl⟩
 ·cases h
theorem Qrw (d:Nk) (hd:d.ok) (xs:List Nat) (n:Nat) (p:Int) (v:Nat) (hv:v<4294967296) (c:Nat):(Qbk d xs n p v c).1.ok:=by
 obtain ⟨e1,e2,e3,e4⟩:=hd;unfold Qbk;split
 ·exact ⟨hv,e2,e3,e4⟩
 split
 ·exact ⟨e1,hv,e3,e4⟩
 split
 ·exact ⟨e1,e2,e3,e4⟩
 split
 ·exact ⟨e1,e2,e3,by show (0:Nat)<_;omega⟩
 split
 ·exact ⟨e1,e2,e3,e4⟩
 split
 ·exact ⟨e1,e2,e1,e4⟩
 ·exact ⟨e1,e2,e3,e4⟩
theorem QdE (d:Nk) (xs:List Nat) (n:Nat) (p:Int) (v c:Nat):Qi6 (Qbk d xs n p v c).2:=by
 unfold Qbk Qi6;intro l h;split at h
 ·cases h
 split at h
 ·cases h
 split at h
 ·cases h
 split at h
 ·cases h
 split at h
 ·injection h with h
  subst h;exact ⟨rfl,rfl,rfl⟩
 split at h
 ·cases h
 ·cases h
theorem QBw (M:Mc) (hM:M.ok) (p:Int):(inM M p).ok:=by
 unfold inM;split
 ·obtain ⟨h1,h2,h3,h4,h5,h6,h7,h8,h9,g1,g2,g3,g4,g5⟩:=hM
  refine ⟨h1,h2,h3,h4,h5,h6,h7,h8,h9,g1,g2,g3,g4,?_⟩;show (Qll M.ks p).size≤1000000;unfold Qll;split
  ·grind [ByteArray.size_extract,inM]
  ·exact g5
 ·exact hM
def Qbz (M:Mc) (p:Int) (v:Nat):Mc × Option (List SV) :=
 if p=0 then (M,some [.i 1,.w M.ct,.u 0,.str (strOfNums [v%256])])
 else if p≤2 then (M,none)
 else if p=3 then ({ M with ta:=decide (¬ (v:Int)=0),td:=v,tf:=false },none)
 else if p≤6 then ({ M with d:=(Qa6 M.d M.m M.m.length p v M.ct).1 },(Qa6 M.d M.m M.m.length p v M.ct).2)
 else if p≤9 then ({ M with n:=(Qbk M.n M.m M.m.length p v M.ct).1 },(Qbk M.n M.m M.m.length p v M.ct).2)
 else ({ M with bg:=Qg0 M.bg M.m.length p v,m:=QfG M.m M.bg M.m.length p v },none)
theorem Qie (M:Mc) (p:Int) (v:Nat):Qi6 (Qbz M p v).2:=by
 unfold Qbz;split
 ·intro l h;injection h with h;subst h;exact ⟨rfl,rfl,rfl⟩
 split
 ·intro l h;cases h
 split
 ·intro l h;cases h
 split
 ·exact QdO _ _ _ _ _ _
 split
 ·exact QdE _ _ _ _ _ _
 ·intro l h;cases h
theorem QyM (M:Mc) (hM:M.ok) (p:Int) (v:Nat) (hv:v<4294967296):(Qbz M p v).1.ok:=by
 have k:=hM;obtain ⟨h1,h2,h3,h4,h5,h6,h7,h8,h9,g1,g2,g3,g4,g5⟩:=hM;unfold Qbz;split
 ·exact k
 split
 ·exact k
 split
 ·exact ⟨h1,h2,h3,h4,h5,h6,h7,h8,h9,hv,g2,g3,g4,g5⟩
 split
 ·exact ⟨h1,h2,h3,h4,h5,h6,h7,QqA _ h8 _ _ _ _ hv _,h9,g1,g2,g3,g4,g5⟩
 split
 ·exact ⟨h1,h2,h3,h4,h5,h6,h7,h8,Qrw _ h9 _ _ _ _ hv _,g1,g2,g3,g4,g5⟩
 ·refine ⟨h1,h2,h3,h4,h5,QyP _ _ _ _ _ h6,?_,h8,h9,g1,g2,QwV _ _ g3 _ _,g4,g5⟩
  show (QfG M.m M.bg M.m.length p v).length≤1000000;rw [QeH];exact h7
theorem Qib (M:Mc) (p:Int) (v:Nat):(Qbz M p v).1.m.length=M.m.length:=by
 unfold Qbz;split
 ·rfl
 split
 ·rfl
 split
 ·rfl
 split
 ·rfl
 split
 ·rfl
 ·exact QeH _ _ _ _ _
end Go.Proofs.YtflelebfmdggkaaGreat
