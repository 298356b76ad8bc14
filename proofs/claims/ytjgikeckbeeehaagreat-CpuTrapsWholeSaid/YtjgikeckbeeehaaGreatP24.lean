import Derived.Test.YtjgikeckbeeehaaGreatP18
import Derived.Test.YtjgikeckbeeehaaGreatP19
import Derived.Test.YtjgikeckbeeehaaGreatP23
set_option linter.unusedSimpArgs false
set_option linter.unusedVariables false
set_option maxHeartbeats 100000000
set_option maxRecDepth 100000
namespace Go.Proofs.YtjgikeckbeeehaaGreat
open Go Go.RowKit
theorem Qvl (x:Int):bits .and .i64 x 4294967295=x%4294967296:=by
 have e:((BitVec.ofInt 64 x) &&& (BitVec.ofInt 64 4294967295)).toNat=(x%4294967296).toNat:=by
  rw [BitVec.toNat_and,show (BitVec.ofInt 64 4294967295).toNat=2^32-1 by simp [BitVec.toNat_ofInt],Nat.and_two_pow_sub_one_eq_mod,BitVec.toNat_ofInt]
  simp only [Nat.reducePow]
  omega
 show IntKind.i64.wrap (((BitVec.ofInt 64 x) &&& (BitVec.ofInt 64 4294967295)).toNat:Int)=_
 rw [e,QbI (by omega) (by omega)];omega
def cw (x:Int):Nat:=if x%17=0 then (x%4294967296).toNat else Qrh (Qd1 x)
theorem QxG (x:Int):cw x<4294967296:=by
 unfold cw
 split
 ·omega
 ·exact (Qh2 x).2.1
def Qbz (ls:List Int):List Nat:=ls.map cw
theorem Qdw (a b:List Nat):wsv (a++b)=wsv a++wsv b:=by unfold wsv;rw [List.map_append]
def Qu3 (n:Nat) (L:List SV) (i:Nat) (R:List SV):St :=
 ⟨[(0,.a (.s (.sl 0 0 n))),(3,.a (.s (.sl 1 0 i))),(4,.a (.s (.int .i64 i)))],[(0,some ⟨false,1,L⟩),(1,some ⟨true,1,R⟩)],[0]⟩
theorem Qgf (ls:List Int):(Qbz ls).length=ls.length:=by unfold Qbz;rw [List.length_map]
theorem QiB (ls:List Int):∀ y∈Qbz ls,y<4294967296:=fun y hy=>by
 obtain ⟨x,_,rfl⟩:=List.mem_map.1 hy
 exact QxG x
theorem QlI (ls:List Int) (n:Nat) (hn:ls.length=n) (hn2:n*8≤140737488351232):Fn Tryz.prog 82 [.s (.sl 0 0 n)] [⟨false,1,isv .i64 ls⟩] (· =⟨.a (.s (.sl 1 0 n)),[],[⟨true,1,wsv (Qbz ls)⟩]⟩):=by
 have hsc:=QaH .i64 ls
 refine fnW Tryz.func82 ?_
 (repeat' ((conv=>whnf);first|(intro hb;first|exact zk0 hb|(try (replace hb:=zn0 hb)))|refine zs0 ?_|refine zbx ?_ ?_|refine zgx ?_ ?_));(all_goals (try (conv=>whnf)))
 refine Lp.inv (fun mm σ=>∃ (i:Nat),mm+i=n∧σ=Qu3 n (isv .i64 ls) i (wsv (Qbz (ls.take i)))) ?_ ?_
 ·refine ⟨n,Qu3 n (isv .i64 ls) 0 [],?_,0,by omega,by rw [List.take_zero];rfl⟩
  apply Qhw (m:= [(0,some 0),(1,none)])
  ·repeat' (first|exact Qc4|apply Qci)
   all_goals first|exact Qcu (Qcx (Qcd rfl))|exact Qcu (Qcx (Qcw rfl))|exact Qcu (Qcx (Qes rfl))
  ·show HlS _ _ [] _
   refine QbG (Qb0 rfl rfl rfl rfl (Qa8 hsc)) ?_
   refine QbG (QcF rfl rfl) ?_
   exact Qcy
  ·rfl
 ·rintro mm σ ⟨i,hmi,rfl⟩
  unfold Qu3
  by_cases hi:i<n
  ·obtain ⟨x,hx⟩:∃ x,ls[i]?=some x:=⟨ls[i]'(by omega),List.getElem?_eq_getElem (by omega)⟩
   have hge:(isv .i64 ls)[0+((i:Nat):Int).toNat * 1]?=some (.int .i64 x):=by
    rw [Nat.zero_add,Nat.mul_one,Int.toNat_natCast,QhP .i64 ls i (by omega)]
    rw [List.getD_eq_getElem?_getD,hx];rfl
   have htk:Qbz (ls.take (i+1))=Qbz (ls.take i)++ [cw x]:=by
    unfold Qbz
    rw [List.take_add_one,hx,List.map_append];rfl
   have hlen:(wsv (Qbz (ls.take i))).length=i:=by simp [Qbz];omega
   have happ:wsv (Qbz (ls.take i))++ [.int .u32 (cw x:Nat)]=wsv (Qbz (ls.take (i+1))):=by rw [htk,Qdw];rfl
   have hRs:=Qaa (Qbz (ls.take (i+1)))
   have q2:IntKind.i64.wrap ((i:Int)+1)=((i+1:Nat):Int):=by rw [QbI (by omega) (by omega)];omega
   have hi1:=Qle x
   have he:=Qh2 x
   obtain ⟨he1,_,o,a,b,c,m,he3⟩:=he
   have a32:=Qvl x
   have hc1:x%17=0→x%4294967296=((cw x:Nat):Int):=fun h=>by unfold cw;rw [if_pos h];omega
   have hc2:x%17≠0→cw x=Qrh (Qd1 x):=fun h=>by unfold cw;rw [if_neg h]
   have hm17:∀ t:Int,x.tmod 17=t→(t=0↔x%17=0):=fun t h=>by
    rw [← h,Int.tmod_eq_emod]
    split<;>omega
   rw [he3] at hi1 he1 hc2
   generalize hR2d:Qbz (ls.take (i+1))=R2 at *
   generalize wsv (Qbz (ls.take i))=RR at *
   generalize hRM:wsv R2=RM at *
   generalize Qrh (iv o a b c m)=E at *
   generalize hCW:cw x=CW at *
   generalize hLL:isv .i64 ls=LL at *
   by_cases h17:x%17=0
   ·have t17:x.tmod 17=0:=by rw [Int.tmod_eq_emod];split<;>omega
    have g1:=hc1 h17
    rw [g1] at a32
    have g2:IntKind.u32.wrap ((CW:Nat):Int)=((CW:Nat):Int):=Qcf (by omega) (by omega)
    unfold iv at hi1 he1
    (repeat' ((conv=>whnf);first|(intro hb;first|exact zk0 hb|(try (replace hb:=zn0 hb)))|(with_reducible first|refine zv q2 ?_|refine zv t17 ?_|refine zv a32 ?_|refine zv g2 ?_)|(apply Sd.mk; · refine ⟨rfl,rfl,?_,?_,?_⟩;(focus (show RR.length=i*1;omega));(focus (show (i+1)*4≤_;omega));(focus omega))|((with_reducible apply Vl.mk (α:=List SV)); · with_reducible exact happ)|((with_reducible apply Ge.mk (α:=SV)); · exact hge)|refine zs0 ?_|refine zbx ?_ ?_|refine zgx ?_ ?_));(all_goals (try (conv=>whnf)))
    all_goals first
     | (
       refine ⟨mm-1,Qu3 n LL (i+1) RM,by omega,?_,i+1,by omega,by rw [hR2d,hRM];rfl⟩
       apply Qhw (m:= [(0,some 0),(1,some _)])
       ·repeat' (first|exact Qc4|apply Qci)
        all_goals first|exact Qcu (Qcx (Qcd rfl))|exact Qcu (Qcx (Qes rfl))
       ·show HlS _ _ [] _
        refine QbG (Qb0 rfl rfl rfl rfl (Qa8 hsc)) ?_
        refine QbG (Qb0 rfl rfl rfl rfl (Qa8 hRs)) ?_
        exact Qcy
       ·rfl)
    
   ·have t17:(x.tmod 17==0)=false:=by
     rw [beq_eq_false_iff_ne,Int.tmod_eq_emod];split<;>omega
    have g3:=hc2 h17
    subst g3
    unfold iv at hi1 he1
    (repeat' ((conv=>whnf);first|(intro hb;first|exact zk0 hb|(try (replace hb:=zn0 hb)))|(with_reducible first|refine zv q2 ?_|refine zv a32 ?_|refine zv rfl ?_)|(apply Sd.mk; · refine ⟨rfl,rfl,?_,?_,?_⟩;(focus (show RR.length=i*1;omega));(focus (show (i+1)*4≤_;omega));(focus omega))|((with_reducible apply Vl.mk (α:=List SV)); · with_reducible exact happ)|((with_reducible apply Ge.mk (α:=SV)); · exact hge)|((with_reducible apply Vl.mk (α:=Bool)); · with_reducible exact t17)|(refine Qag (f:=40) (hi1) rfl ?_)|(refine Qag (f:=39) (he1) rfl ?_)|refine zs0 ?_|refine zbx ?_ ?_|refine zgx ?_ ?_));(all_goals (try (conv=>whnf)))
    all_goals first
     | (
       refine ⟨mm-1,Qu3 n LL (i+1) RM,by omega,?_,i+1,by omega,by rw [hR2d,hRM];rfl⟩
       apply Qhw (m:= [(0,some 0),(1,some _)])
       ·repeat' (first|exact Qc4|apply Qci)
        all_goals first|exact Qcu (Qcx (Qcd rfl))|exact Qcu (Qcx (Qes rfl))
       ·show HlS _ _ [] _
        refine QbG (Qb0 rfl rfl rfl rfl (Qa8 hsc)) ?_
        refine QbG (Qb0 rfl rfl rfl rfl (Qa8 hRs)) ?_
        exact Qcy
       ·rfl)
    
  ·have hiN:i=n:=by omega
   subst hiN
   rw [← hn,List.take_length]
   have hRs:=Qaa (Qbz ls)
   generalize wsv (Qbz ls)=RR at *
   generalize isv .i64 ls=LL at *
   (repeat' ((conv=>whnf);first|(intro hb;first|exact zk0 hb|(try (replace hb:=zn0 hb)))|refine zs0 ?_|refine zbx ?_ ?_|refine zgx ?_ ?_));(all_goals (try (conv=>whnf)))
   all_goals exact QbS
theorem QoI (ws:List Nat) (h:ws.length≤256):QiZ (QeX ws)=true:=by
 have hl:(QeX ws).m.length=256:=Qet ws h
 unfold QiZ
 rw [hl]
 unfold QeX
 dsimp only
 have hd:Qem ⟨4,0,0,0,0,0,0,⟨#[]⟩⟩ ((mpg 256:Nat):Int)=true:=by
  unfold Qem
  exact decide_eq_true ⟨by decide,by decide,by decide,fun _=>⟨rfl,rfl,rfl,by unfold noD;exact beq_self_eq_true _⟩,fun h=>by exact absurd h (by decide)⟩
 exact decide_eq_true ⟨by decide,by decide,by decide,by decide,by decide,by decide,by rfl,by rfl,hd,by rfl,by rfl,by decide,by decide⟩
theorem Qa5 {mm:List Em} {k n0 i n es:Nat} {cells cells':List SV} {own:Bool} (h:Qau cells'=true) (hp:∀ (q:Nat) s,cells'[q]?=some s→cells[q]?=some s) (hl:cells'.length≤cells.length):Qdg mm k n0 i ⟨n,0⟩ ⟨false,es,cells'⟩ ⟨own,es,cells⟩ :=
 ⟨rfl,fun q s hs=>by
  simp only [] at hs ⊢
  rw [Nat.zero_add,hp q s hs]
  have:=Qcc h s (List.mem_of_getElem? hs)
  cases s<;>simp [SV.scal] at this<;>rfl,by simpa using hl,fun h=>by cases h⟩
def asQ (R:Res):Prop:=∃ (ws:List Nat) (e:Int) (l:Int),ws.length≤200∧(∀ y∈ws,y<4294967296)∧ws=kws∧R=⟨.tup [.s (.sl 0 0 ws.length),.agg [.int .i64 e,.int .i64 l]],[],[⟨true,1,wsv ws⟩]⟩
def mcQ (R:Res):Prop:=∃ M:Mc,M.ok∧M.m.length=256∧R=⟨.a (.agg (M.C 1)),[],[⟨true,1,wsv M.m⟩]⟩
def Qm2 (n k:Nat) (kd:Int) (A0 Z X:List SV):St :=
 ⟨[(0,.a (.s (.int .i64 kd))),(1,.a (.s (.sl 0 0 n))),(4,.a (.s (.ptr 1 0))),(5,.a (.s (.sl 2 0 k)))],[(0,some ⟨false,1,A0⟩),(1,some ⟨true,1,Z⟩),(2,some ⟨true,1,X⟩)],[0]⟩
theorem Qt6:∀ y∈kws,y<4294967296:=by decide
theorem QAZ:Fn Tryz.prog 81 [.s (.str srcK)] [] asQ:=Qvw QwL fun R h=>⟨kws,0,0,by decide,Qt6,rfl,h⟩
theorem Qmx:kws++zer 85=kA++([0,0,0,0,0,0,0,0]++zer 24):=by decide
theorem Qwv (cl:List Nat) (n:Nat) (hcl:cl.length=n) (hn:n≤40):QeX ((kws++zer 85)++cl)=kS0 (cl++zer (96-n)):=by
 have h1:((kws++zer 85)++cl).length=160+n:=by
  rw [List.length_append,hcl,List.length_append,Qde];rfl
 have e:cpW ((kws++zer 85)++cl)=kA++([0,0,0,0,0,0,0,0]++(zer 24++(cl++zer (96-n)))):=by
  unfold cpW
  rw [h1,show 256-(160+n)=96-n by omega,Qmx]
  simp only [List.append_assoc]
 unfold QeX
 rw [e]
 rfl
theorem Qz4 (cl:List Nat) (n:Nat) (hcl:cl.length=n) (hn:n≤40):∃ I:Mc→Prop,I (QeX ((kws++zer 85)++cl))∧(∀ M:Mc,M.ok→I M→M.ct<87→M.ht=false→Qq9 M=false→Qm6 M=false∧I (Qb8 M 0).1)∧∀ M,I M→M.m.length=256:=by
 rw [Qwv cl n hcl hn]
 have hu:(cl++zer (96-n)).length=96:=by rw [List.length_append,hcl,Qde];omega
 generalize cl++zer (96-n)=u at *
 refine ⟨fun M=>M∈kS0 u::(kL u++ [Qw1 u])∧M.m.length=256,⟨List.mem_cons_self ..,?_⟩,fun M hM ⟨hm,hl⟩ hct _ _=>?_,fun M h=>h.2⟩
 ·show (kA++([0,0,0,0,0,0,0,0]++(zer 24++u))).length=256
  rw [List.length_append,List.length_append,List.length_append,hu,Qde]
  rfl
 ·rcases Ql2 256 (Qw1 u) (kL u) (kS0 u) M (kC u) hm with rfl|⟨M',h1,h2⟩
  ·exact absurd hct (by show ¬ (87<87);omega)
  ·obtain ⟨h3,h4⟩:=Qs3 hM hl h1
   refine ⟨h3,by rw [h4];exact h2,?_⟩
   rw [Qec M hM 0,hl]
theorem Qhy (kind:Int) (ls:List Int) (n:Nat) (hn:ls.length=n) (hn2:n≤40) (h2:kind%3=2):Fn Tryz.prog 43 [.s (.int .i64 kind),.s (.sl 0 0 n)] [⟨false,1,isv .i64 ls⟩] mcQ:=by
 have q0:=QaK kind 3 (by decide) (by decide)
 rw [h2] at q0
 have q1:=QlI ls n hn (by omega)
 have hsA:=QaH .i64 ls
 have hcl:(Qbz ls).length=n:=by rw [Qgf,hn]
 have hcr:=QiB ls
 have hsc:=Qaa (Qbz ls)
 have hkc:=QbB (Qbz ls)
 have hlw:(wsv (Qbz ls)).length=n*ty23.size:=by rw [wsv_length,hcl];show n=n*1;omega
 generalize isv .i64 ls=A0 at *
 generalize Qbz ls=cl at *
 have q2:=Ql3 cl n hcl (by omega)
 have hok:=Qkq cl (by omega) hcr
 have hsm:=Qaa (QeX cl).m
 have hfinQ:mcQ ⟨.a (.agg ((QeX cl).C 1)),[],[⟨true,1,wsv (QeX cl).m⟩]⟩:=⟨QeX cl,hok,Qet cl (by omega),rfl⟩
 unfold QeX at q2 hsm hfinQ
 clear hok
 generalize wsv cl=X1 at *
 dsimp only [Mc.C,Mc.D,Dk.C,Nk.C] at *
 simp only [Qaf,List.cons_append,List.nil_append] at *
 generalize (cpW cl).length=nn at *
 generalize wsv (cpW cl)=X2 at *
 refine fnW Tryz.func43 ?_
 (repeat' ((conv=>whnf);first|(intro hb;first|exact zk4 hb|(try (replace hb:=zn4 hb)))|(apply Sd.mk; · first|exact ⟨rfl,rfl,rfl,bnd (by omega) (by decide),by omega⟩)|(apply Sk.mk; · exact Qbs X1 hlw hkc)|(refine zpu q0 ?_)|(refine Qay q1 ?_)|(refine Qay q2 ?_)|refine zst ?_|refine zbx ?_ ?_|refine zgx ?_ ?_|refine eqR ?_));(all_goals (try (conv=>whnf)))
 all_goals first|(exfalso;omega)|(exfalso;simp at hb;done)|(refine QaS hfinQ ?_;(exact Qa2))
theorem Qgq (hA:Fn Tryz.prog 81 [.s (.str srcK)] [] asQ) (kind:Int) (ls:List Int) (n:Nat) (hn:ls.length=n) (hn2:n≤40) (h2:kind%3<2):Fn Tryz.prog 43 [.s (.int .i64 kind),.s (.sl 0 0 n)] [⟨false,1,isv .i64 ls⟩] mcQ:=by
 have q0:=QaK kind 3 (by decide) (by decide)
 have hk0:0≤kind%3:=by omega
 have q1:=QlI ls n hn (by omega)
 have hsA:=QaH .i64 ls
 have hcl:(Qbz ls).length=n:=by rw [Qgf,hn]
 have hcr:=QiB ls
 have hsc:=Qaa (Qbz ls)
 have hkc:=QbB (Qbz ls)
 have hlw:(wsv (Qbz ls)).length=n*ty23.size:=by rw [wsv_length,hcl];show n=n*1;omega
 generalize isv .i64 ls=A0 at *
 generalize Qbz ls=cl at *
 generalize kind%3=kd at *
 obtain ⟨Z,hZ⟩:∃ Z,Z41=Z:=⟨_,rfl⟩
 have hZl:Z.length=49:=by rw [← hZ];rfl
 have hZs:Qau Z=true:=by rw [← hZ];rfl
 refine fnW Tryz.func43 ?_
 (repeat' ((conv=>whnf);first|(intro hb;first|exact zk4 hb|(try (replace hb:=zn4 hb)))|(refine zpu q0 ?_)|(refine QbK hA [] [] ?_ trivial trivial ?_ ?_;(focus kernel_rfl);(focus (rintro R ⟨ws,e,l,_,_,_,rfl⟩;exact ⟨(by show 1≤Qam;decide),fun p h=>by cases h⟩));rintro R ⟨ws,ee,el,hwl,hwr,hwk,rfl⟩)|refine zst ?_|refine zbx ?_ ?_|refine zgx ?_ ?_|refine eqR ?_));(all_goals (try (conv=>whnf)))
 all_goals try (first|(exfalso;omega)|(exfalso;simp at hb;done))
 refine Lp.inv (fun mm σ=>∃ img:List Nat,mm=160-img.length∧img.length≤160∧(75≤img.length∧img=kws++zer (img.length-75))∧(∀ y∈img,y<4294967296)∧σ=Qm2 n img.length kd A0 Z (wsv img)) ?_ ?_
 ·refine ⟨160-ws.length,Qm2 n ws.length kd A0 Z (wsv ws),?_,ws,rfl,(by rw [hwk];decide),(by rw [hwk];exact ⟨by decide,rfl⟩),hwr,rfl⟩
  have hsw:=Qaa ws
  generalize wsv ws=W at *
  generalize ws.length=k at *
  clear hwk
  rw [← hZ]
  unfold Qm2 Z41
  (exact zwL [(0,some 0),(1,some 65536),(2,some 327680)])
 clear hwl hwr hwk
 rintro mm σ ⟨img,hmm,hil,⟨hi75,hik⟩,hir,rfl⟩
 have hsi:=Qaa img
 have hki:=QbB img
 have hli:(wsv img).length=img.length*ty23.size:=by rw [wsv_length];show _=img.length*1;omega
 by_cases hlt:img.length<160
 ·have hap:wsv img++ [.int .u32 0]=wsv (img++ [0]):=by rw [Qdw];rfl
  have hl2:(img++ [0]).length=img.length+1:=by simp
  have hr2:∀ y∈img++ [0],y<4294967296:=fun y hy=>by
   rcases List.mem_append.1 hy with h|h
   ·exact hir y h
   ·rcases List.mem_singleton.1 h with rfl
    decide
  have hs2:=Qaa (img++ [0])
  have hik2:img++ [0]=kws++zer ((img++ [0]).length-75):=by rw [hl2,show img.length+1-75=(img.length-75)+1 by omega,QhX,← List.append_assoc,← hik];rfl
  clear hik
  have hfin:Qm2 n (img.length+1) kd A0 Z (wsv (img++ [0]))=Qm2 n (img++ [0]).length kd A0 Z (wsv (img++ [0])):=by rw [hl2]
  generalize hW2:wsv (img++ [0])=W2 at *
  generalize wsv img=W at *
  unfold Qm2
  (repeat' ((conv=>whnf);first|(intro hb;first|exact zk4 hb|(try (replace hb:=zn4 hb)))|(apply Sd.mk; · exact ⟨rfl,rfl,hli,bnd (by omega) (by decide),by omega⟩)|((with_reducible apply Vl.mk (α:=List SV)); · with_reducible exact hap)|refine zst ?_|refine zbx ?_ ?_|refine zgx ?_ ?_|refine eqR ?_));(all_goals (try (conv=>whnf)))
  all_goals first|(exfalso;omega)|(exfalso;simp at hb;done)|(refine ⟨160-(img.length+1),Qm2 n (img.length+1) kd A0 Z W2,by omega,?_,img++ [0],by rw [hl2],by rw [hl2];omega,⟨by rw [hl2];omega,hik2⟩,hr2,by unfold Qm2;rw [hW2,hl2]⟩;generalize img.length=k at *;unfold Qm2;(exact zwL [(0,some 0),(1,some 1),(2,some 131200)]))
 ·have hap:wsv img++wsv cl=wsv (img++cl):=(Qdw img cl).symm
  have hl2:(img++cl).length=img.length+n:=by rw [List.length_append,hcl]
  have hr2:∀ y∈img++cl,y<4294967296:=fun y hy=>by
   rcases List.mem_append.1 hy with h|h
   ·exact hir y h
   ·exact hcr y h
  have hs2:=Qaa (img++cl)
  have q2:=Ql3 (img++cl) (img.length+n) hl2 (by omega)
  have hok:=Qkq (img++cl) (by omega) hr2
  have hsm:=Qaa (QeX (img++cl)).m
  obtain ⟨I,hI0,hI1,hI2⟩:=Qz4 cl n hcl hn2
  rw [show img.length=160 by omega] at hik
  rw [← (show img=kws++zer 85 from hik)] at hI0
  have hR:=Qtj I (QeX (img++cl)) hok (QoI _ (by omega)) rfl hI0 hI1
  have hfinQ:mcQ ⟨.a (.agg ((QeX (img++cl)).C 1)),[],[⟨true,1,wsv (QeX (img++cl)).m⟩]⟩:=⟨QeX (img++cl),hok,Qet _ (by omega),rfl⟩
  unfold QeX at q2 hsm hfinQ hR
  clear hok hr2 hl2 hir hcr hmm hI0 hI1 hik hi75
  generalize wsv (img++cl)=W2 at *
  generalize wsv img=W at *
  generalize wsv cl=X1 at *
  dsimp only [Mc.C,Mc.D,Dk.C,Nk.C] at *
  simp only [Qaf,List.cons_append,List.nil_append] at *
  generalize (cpW (img++cl)).length=nn at *
  generalize wsv (cpW (img++cl))=X2 at *
  generalize img.length=k at *
  unfold Qm2
  have e:kd=0∨kd=1:=by omega
  rcases e with rfl|rfl
  ·skip
   (repeat' ((conv=>whnf);first|(intro hb;first|exact zk4 hb|(try (replace hb:=zn4 hb)))|(apply Sd.mk; · first|exact ⟨rfl,rfl,hli,bnd (by omega) (by decide),by omega⟩|exact ⟨rfl,rfl,rfl,(by show 0+_≤Z.length;rw [hZl];exact Nat.le_refl 49)⟩)|(apply Sk.mk; · exact Qbs X1 hlw hkc)|((with_reducible apply Vl.mk (α:=List SV)); · first|with_reducible exact hap|exact QaR (by rw [hZl];rfl))|(refine Qay q1 ?_)|(refine Qay q2 ?_)|refine zst ?_|refine zbx ?_ ?_|refine zgx ?_ ?_|refine eqR ?_));(all_goals (try (conv=>whnf)))
   all_goals first|(exfalso;omega)|(exfalso;simp at hb;done)|(refine QaS hfinQ ?_;(exact Qa2))
  ·skip
   (repeat' ((conv=>whnf);first|(intro hb;first|exact zk4 hb|(try (replace hb:=zn4 hb)))|(apply Sd.mk; · first|exact ⟨rfl,rfl,hli,bnd (by omega) (by decide),by omega⟩|exact ⟨rfl,rfl,rfl,(by show 0+_≤Z.length;rw [hZl];exact Nat.le_refl 49)⟩)|(apply Sk.mk; · exact Qbs X1 hlw hkc)|((with_reducible apply Vl.mk (α:=List SV)); · first|with_reducible exact hap|exact QaR (by rw [hZl];rfl))|(refine Qay q1 ?_)|(refine Qay q2 ?_)|(refine QbK hR [⟨_,0⟩] [(_,_)] aRn ⟨rfl,trivial⟩ ⟨rfl,Qaw (by assumption),trivial⟩ ?_ ?_;(focus (rintro R ⟨M3,os,_,_,_,rfl⟩;exact ⟨(by show 2≤Qam;decide),fun p h=>by cases h⟩));rintro R ⟨M3,os3,hI3,hok3,hos3,rfl⟩;have hl3:=hI2 M3 hI3;have hs3:=Qaa M3.m;have hfinQ3:mcQ ⟨.a (.agg (M3.C 1)),[],[⟨true,1,wsv M3.m⟩]⟩:=⟨M3,hok3,hl3,rfl⟩;clear hI3 hl3;have hx3:=hok3.x;have hc3:=hok3.c;obtain ⟨hO31,hO32,hO33⟩:=QdO hos3;generalize OLs os3=OL3 at *;generalize os3.length=ol3 at *;clear hok3 hos3;generalize hX3:wsv M3.m=X3 at *;obtain ⟨_,_,_,mg,_,_,_,_,dg,ng,_,_,_,_,_⟩:=M3;dsimp only at *;obtain ⟨_,_,_,_,_,_,_,_,_,_,_,_,_,_,_,_,rfl⟩:=Qaq hx3;obtain ⟨_,_,_,_,_,_,_,_,rfl⟩:=QaJ hc3;obtain ⟨_,_,_,_,_,_,_,_⟩:=dg;obtain ⟨_,_,_,_,_,_⟩:=ng;simp only [Qaf,List.cons_append,List.nil_append,Mc.C,Mc.D,Dk.C,Nk.C] at *;generalize mg.length=nn3 at *)|refine zst ?_|refine zbx ?_ ?_|refine zgx ?_ ?_|refine eqR ?_));(all_goals (try (conv=>whnf)))
   all_goals first|(exfalso;omega)|(exfalso;simp at hb;done)|(refine QaS hfinQ3 ?_;(exact Qa2))
theorem Qe4 (kind:Int) (ls:List Int) (n:Nat) (hn:ls.length=n) (hn2:n≤40):Fn Tryz.prog 43 [.s (.int .i64 kind),.s (.sl 0 0 n)] [⟨false,1,isv .i64 ls⟩] mcQ:=by
 by_cases h:kind%3=2
 ·exact Qhy kind ls n hn hn2 h
 ·exact Qgq QAZ kind ls n hn hn2 (by omega)
end Go.Proofs.YtjgikeckbeeehaaGreat
