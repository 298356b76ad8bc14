import Derived.Test.YtpgkkfajljekpabGreatQ8
set_option linter.unusedSimpArgs false
set_option linter.unusedVariables false
set_option maxHeartbeats 0
set_option maxRecDepth 100000
namespace Go.Proofs.YtpgkkfajljekpabGreat
open Go Go.RowKit
theorem Qvt (n a:Nat) (s:Int) (ha:ZU a):blA n a s<4294967296:=by unfold blA;split<;>omega
def fdB (xs:List Nat) (n a:Nat) (s:Int):Bk:=⟨blA n a s,((blL xs n a s).length:Nat),if (blL xs n a s).length=0 then [] else (Qqk (blL xs n a s)).map Mi.z⟩
def FP (xs:List Nat) (n a:Nat) (s:Int) (b:Bk):Prop:=b.A=blA n a s/\b.ok/\((blL xs n a s).length≠0->Qe5 b.A b.L b.l=true) /\
 FN 61 [.agg [.u (blA n a s:Nat),.i ((blL xs n a s).length:Nat),.sl 0 0 (blL xs n a s).length]] [⟨false,6,mcs (blL xs n a s)⟩] (. =⟨.a (.agg b.C),[],[]⟩)
theorem QvQ (xs:List Nat) (n a:Nat) (s:Int) (ha:ZU a) (hY:ZL xs):FP xs n a s (fdB xs n a s):=by
 obtain ⟨_,h2,h3⟩:=Qja xs n a s hY;have hA:=Qvt n a s ha;have hs:=Qbb (blL xs n a s);unfold fdB FP;generalize blA n a s=A,blL xs n a s=l at *
 by_cases h0:l.length=0
 .obtain rfl:=List.eq_nil_of_length_eq_zero h0
  have f1:=QtO A hA (0:Nat) [] 0 rfl (by omega) (QIQ _ _);rw [zP h0];refine ⟨rfl,⟨hA,Nat.zero_le _,fun m hm=>by cases hm⟩,fun h=>absurd rfl h,?_⟩;exact Qqr f1 rfl hs
 .rw [zN h0]
  have HH:=h3 h0;have f1:=QtN A hA (l.length:Nat) l l.length _ rfl (by omega) (by omega) h2 HH rfl;have hf:=Qgd ((Qqk l).map Mi.z);have jZ:=Qql l;refine ⟨rfl,⟨hA,by show ((Qqk l).map Mi.z).length<=_;rw [List.length_map];omega,fun m hm=>?_⟩,fun _=>Qmm A _ l (by omega) h2 HH,?_⟩
  .obtain ⟨q,hq,rfl⟩:=List.mem_map.1 hm
   exact (Qqm l h2 q hq).2.2.2
  .dsimp only [Bk.C]
   rw [List.length_map];rw [Qiu] at hf |-;exact Qqr f1 hf hs
theorem QtY (c:List Bk) (b:Bk) (h:c.length<=16):(Qkz c b).length<=16:=by
 unfold Qkz;split
 .simp;omega
 .exact h
theorem QxZ (c:List Bk) (b:Bk) (h:∀ e∈c,e.ok) (hb:b.ok):∀ e∈Qkz c b,e.ok:=fun e he=>by
 unfold Qkz at he;split at he
 .rcases List.mem_cons.1 he with rfl|he
  .exact hb
  .exact h e (List.mem_filter.1 (List.mem_of_mem_take he)).1
 .exact h e he
def fk (b:Bk):Int:=((b.A / 128:Nat):Int)
def QDh (n r:Nat) (x:Int) (i:Nat) (K0 V0 KW VV:List SV):St :=
 ⟨[(0,.a (.s (.ptr 0 0))),(1,.a (.s (.i x))),(4,.a (.s (.ptr 3 0))),(5,.a (.s (.ptr 4 0))),(11,.a (.s (.sl 1 0 n))),(12,.a (.s (.i n))),(13,.a (.s (.i i)))],
  [(0,some ⟨false,1,[.sl 1 0 n,.sl 2 0 n]⟩),(1,some ⟨false,1,K0⟩),(2,some ⟨false,3,V0⟩),(3,some ⟨true,1,[.nilsl,.nilsl]⟩),(4,some ⟨true,1,[.sl 5 0 r,.sl 6 0 r]⟩),(5,some ⟨true,1,KW⟩),(6,some ⟨true,3,VV⟩)],[0]⟩
theorem QlR (vs:List Bk) (n:Nat) (hv:vs.length=n) (hn:n<=1000000) (x:Int) (W:List Bk) (hW:vs.filter (fun b=>decide (fk b≠x))=W) (r:Nat) (hr:W.length=r) :
  FN 262 [.s (.ptr 0 0),.s (.i x)] [⟨false,1,[.sl 1 0 n,.sl 2 0 n]⟩,⟨false,1,isv .i64 (vs.map fk)⟩,⟨false,3,bks vs⟩]
   (. =⟨.a (.agg [.sl 3 0 r,.sl 4 0 r]),[],[⟨true,1,isv .i64 (W.map fk)⟩,⟨true,3,bks W⟩]⟩):=by
 have fD:=QaM .i64 (vs.map fk);have gO:=Qac vs;have jK:=Qdr vs;have hg:=fun i (h:i<n)=>Qim .i64 (vs.map fk) i (by simp;omega)
 generalize isv .i64 (vs.map fk)=K0,bks vs=V0 at *;refine fnW Tryz.func262 ?_;(conv=>whnf);(repeat' ((first|exact zi0|refine zj0 fun hb=>?_|refine zs0 ?_|refine zbb ?_ ?_)<;>conv=>whnf))
 refine Lp.inv (fun mm σ=>∃ (i:Nat) (w:List Bk),mm+i=n/\(vs.take i).filter (fun b=>decide (fk b≠x))=w/\w.length<=i/\σ=QDh n w.length x i K0 V0 (isv .i64 (w.map fk)) (bks w)) ?_ ?_
 .refine ⟨n,QDh n 0 x 0 K0 V0 [] [],?_,0,[],by omega,rfl,Nat.le_refl _,rfl⟩
  (exact zwL [(0,some 0),(1,some 1),(2,some 2),(3,some _),(4,some _),(5,none),(6,none)])
 rintro mm σ ⟨i,w,zA,hw,zS,rfl⟩;unfold QDh;have h1:=QaM .i64 (w.map fk);have h2:=Qac w
 by_cases hi:i<n
 .obtain ⟨b,hb⟩:∃ b,vs[i]?=some b:=⟨vs[i]'(by omega),zgg (by omega)⟩
  have seg:=jK i b hb;have g0:=hg i hi;rw [show (vs.map fk).getD i 0=fk b by rw [zgd,zgm,hb];rfl] at g0;have yQ:=QgD (fun b=>decide (fk b≠x)) vs i b hb;rw [hw] at yQ;have q2:IntKind.i64.wrap ((i:Int)+1)=((i+1:Nat):Int):=QaS;have x1:0+((i:Nat):Int).toNat * ty3.size=i:=QAb;have x3:0+((i:Nat):Int).toNat * ty125.size=i*3:=QAc
  by_cases hc:fk b=x
  .rw [zN (by rw [zde];exact fun h=>h hc)] at yQ
   have YM:fk b=x:=hc;generalize fk b=A at *;clear jK hg seg hb;generalize UR:isv .i64 (w.map fk)=K1,WB:bks w=V1 at *;(conv=>whnf);(repeat' ((first|exact zi2|refine zj0 fun hb=>?_|refine QhW ?_|refine QFq ?_|refine Qew ?_|refine Qm7 ?_|refine zse ?_|refine zbb ?_ ?_)<;>conv=>whnf))
   all_goals first
    | (
      refine ⟨mm-1,QDh n w.length x (i+1) K0 V0 K1 V1,by omega,?_,i+1,w,by omega,yQ,by omega,by rw [UR,WB];try rfl⟩
      (exact zwL [(0,some 0),(1,some 1),(2,some 2),(3,some 3),(4,some 4),(5,some 5),(6,some 6)]))
  .rw [zP (by rw [zde];exact hc)] at yQ
   have YM:¬ fk b=x:=hc;have ca:=QoA (w.map fk) w w.length (by simp) rfl (by omega) (fk b) b;rw [show w.map fk++ [fk b]=(w++ [b]).map fk by rw [List.map_append];rfl] at ca;have h3:=QaM .i64 ((w++ [b]).map fk);have h4:=Qac (w++ [b]);have hl2:(w++ [b]).length=w.length+1:=by simp
   clear jK hg hb;obtain ⟨kf,hkf⟩:∃ kf,fk b=kf:=⟨_,rfl⟩;rw [hkf] at ca YM g0;clear hc;obtain ⟨A,L,l⟩:=b;dsimp only [Bk.C] at ca seg;generalize w++ [(⟨A,L,l⟩:Bk)]=w2 at *;generalize uL:isv .i64 (w2.map fk)=K2,hV2:bks w2=V2,isv .i64 (w.map fk)=K1 at *;generalize bks w=V1,w.length=R,l.length=NL,mzs l=M at *;(conv=>whnf);(repeat' ((first|exact zi2|refine zj0 fun hb=>?_|refine QhW ?_|((with_reducible apply Vl.mk (α:=Nat)); . first|exact x1|exact x3)|refine Qew ?_|refine Qm7 ?_|refine QfL ?_|(refine Qag ca [⟨4,0⟩,⟨5,0⟩,⟨6,0⟩] [(4,⟨true,1,[.sl 5 0 R,.sl 6 0 R]⟩),(5,⟨true,1,K1⟩),(6,⟨true,3,V1⟩)] rfl ⟨rfl,rfl,rfl,trivial⟩ ⟨rfl,QbO rfl rfl,rfl,QaE (by assumption) rfl,rfl,QaE (by assumption) rfl,trivial⟩ ⟨rfl,Qcu rfl⟩ ?_)|refine zse ?_|refine zbb ?_ ?_)<;>conv=>whnf))
   all_goals first
    | (
      refine ⟨mm-1,QDh n (R+1) x (i+1) K0 V0 K2 V2,by omega,?_,i+1,w2,by omega,yQ,by omega,by rw [uL,hV2,hl2];rfl⟩
      (exact zwL [(0,some 0),(1,some 1),(2,some 2),(3,some 3),(4,some 4),(5,some 262656),(6,some 262657)]))
 .rw [List.take_of_length_le (by omega),hW] at hw
  subst hw;subst hr;generalize isv .i64 (W.map fk)=K1,bks W=V1 at *;exact QEw
theorem Qjv (A:Nat) (hA:ZU A) (L:Int) (l:List Mz) (N:Nat):FN 92 [.agg [.u A,.i L,.fz 6 N (mzs l)]] [] (. =⟨.a (.s (.i ((A / 128:Nat):Int))),[],[]⟩):=by
 refine QgE (H:= []) (es:=6) (n:=N) (cells:=mzs l) (R':=⟨.a (.s (.i ((A / 128:Nat):Int))),[],[]⟩) [] (QtS A hA L N (mzs l) (QbW l)) (fun ρ vs h=>QvZ (pre:= []) (post:= []) (l1:= [.u A,.i L]) (l2:= []) ρ vs h) ?_ ?_ rfl
 .exact QcN (Qcx (QaK rfl))
 .exact QaL
def QEX (N i:Nat) (fr:Int) (CC KW VV:List SV):St :=
 ⟨[(1,.a (.s (.i fr))),(5,.a (.s (.ptr 1 0))),(8,.a (.s (.sl 0 0 N))),(9,.a (.s (.i N))),(10,.a (.s (.i i)))],
  [(0,some ⟨false,3,CC⟩),(1,some ⟨true,1,[.sl 2 0 i,.sl 3 0 i]⟩),(2,some ⟨true,1,KW⟩),(3,some ⟨true,3,VV⟩)],[0]⟩
theorem QeP (c:List Bk) (N:Nat) (hN:c.length=N) (fP:N<=1000000) (hok:∀ b∈c,b.ok) (fr:Int) (W:List Bk) (hW:c.filter (fun b=>decide (fk b≠fr))=W) (r:Nat) (hr:W.length=r) :
  FN 223 [.s (.sl 0 0 N),.s (.i fr)] [⟨false,3,bks c⟩] (. =⟨.a (.s (.sl 1 0 r)),[],[⟨true,3,bks W⟩]⟩):=by
 have hs:=Qac c;have jK:=Qdr c;have cw:=QlR c N hN fP fr W hW r hr;have wN:=QaM .i64 (W.map fk);have qZ:=Qac W;generalize isv .i64 (W.map fk)=WK,bks W=WV,UL:bks c=CC at *;refine fnW Tryz.func223 ?_;(conv=>whnf);(repeat' ((first|exact zi0|refine zj0 fun hb=>?_|refine zs0 ?_|refine zbb ?_ ?_)<;>conv=>whnf))
 refine Lp.inv (fun mm σ=>∃ i:Nat,mm+i=N/\σ=QEX N i fr CC (isv .i64 ((c.take i).map fk)) (bks (c.take i))) ?_ ?_
 .refine ⟨N,QEX N 0 fr CC [] [],?_,0,by omega,rfl⟩
  (exact zwL [(0,some 0),(1,some _),(2,none),(3,none)])
 rintro mm σ ⟨i,zA,rfl⟩;unfold QEX;have h1:=QaM .i64 ((c.take i).map fk);have h2:=Qac (c.take i)
 by_cases hi:i<N
 .obtain ⟨b,hb⟩:∃ b,c[i]?=some b:=⟨c[i]'(by omega),zgg (by omega)⟩
  have seg:=jK i b hb;obtain ⟨hA,hl,hk⟩:=hok b (List.mem_of_getElem? hb);have ca:=QoA ((c.take i).map fk) (c.take i) i (by simp;omega) (by simp;omega) (by omega) (fk b) b;rw [show (c.take i).map fk++ [fk b]=(c.take (i+1)).map fk by rw [<- QdX c i b hb,List.map_append];rfl,QdX c i b hb] at ca;have h3:=QaM .i64 ((c.take (i+1)).map fk);have h4:=Qac (c.take (i+1));have q2:IntKind.i64.wrap ((i:Int)+1)=((i+1:Nat):Int):=QaS;have cf:=Qjv b.A hA b.L b.l b.l.length;change Fn _ _ _ _ (. =⟨.a (.s (.i (fk b))),[],[]⟩) at cf;generalize fk b=kf at *;obtain ⟨A,L,l⟩:=b;dsimp only [Bk.C] at ca seg cf;have cl:=QeC A L l _ rfl hl;clear hk hb jK cw;generalize uL:isv .i64 ((c.take (i+1)).map fk)=K2,hV2:bks (c.take (i+1))=V2,isv .i64 ((c.take i).map fk)=K1,bks (c.take i)=V1,l.length=NL,mzs l=M at *;(conv=>whnf);(repeat' ((first|exact zi0|refine zj0 fun hb=>?_|refine QhW ?_|refine Qew ?_|refine QfL ?_|(refine zpu cl ?_)|(refine zpu cf ?_)|(refine Qag ca [⟨1,0⟩,⟨2,0⟩,⟨3,0⟩] [(1,⟨true,1,[.sl 2 0 i,.sl 3 0 i]⟩),(2,⟨true,1,K1⟩),(3,⟨true,3,V1⟩)] rfl ⟨rfl,rfl,rfl,trivial⟩ ⟨rfl,QbO rfl rfl,rfl,QaE (by assumption) rfl,rfl,QaE (by assumption) rfl,trivial⟩ ⟨rfl,Qcu rfl⟩ ?_)|refine zst ?_|refine zbb ?_ ?_)<;>conv=>whnf))
  all_goals first
   | (
     refine ⟨mm-1,QEX N (i+1) fr CC K2 V2,by omega,?_,i+1,by omega,by rw [uL,hV2];rfl⟩
     (exact zwL [(0,some 0),(1,some 1),(2,some 196864),(3,some 196865)]))
 .obtain rfl:i=N:=by omega
  rw [List.take_of_length_le (by omega)] at h1 h2 |-;rw [UL] at h2 |-;generalize isv .i64 (c.map fk)=K1 at *;(repeat' ((conv=>whnf);first|exact zi0|refine zj0 fun hb=>?_|(refine Qag cw [⟨1,0⟩,⟨2,0⟩,⟨3,0⟩] [(1,⟨true,1,[.sl 2 0 i,.sl 3 0 i]⟩),(2,⟨true,1,K1⟩),(3,⟨true,3,CC⟩)] rfl ⟨rfl,rfl,rfl,trivial⟩ ⟨rfl,QmM rfl,rfl,Qap (by assumption),rfl,Qap (by assumption),trivial⟩ ⟨rfl,Qbp⟩ ?_)|refine zst ?_|refine zbb ?_ ?_))
  all_goals exact QbJ
instance mzDec:DecidableEq Mz:=fun a b =>
 if h:a.o=b.o/\a.a=b.a/\a.b=b.b/\a.c=b.c/\a.k=b.k/\a.n=b.n then
  isTrue (by cases a;cases b;obtain ⟨h1,h2,h3,h4,h5,h6⟩:=h;dsimp only at *;subst h1 h2 h3 h4 h5 h6;rfl)
 else isFalse (fun e=>h (by subst e;exact ⟨rfl,rfl,rfl,rfl,rfl,rfl⟩))
theorem QIF (m m':Mz):QaQ ks6 m.C m'.C=some (decide (m=m')):=by
 have e:∀ (k:IntKind) (x y:Int),k= .i64\/k= .u32->eqS .int (SV.int k x) (SV.int k y)=some (x==y):=fun k x y h=>by
  rcases h with rfl|rfl<;>rfl
 unfold Mz.C ks6;simp only [QaQ,e _ _ _ (.inl rfl),e _ _ _ (.inr rfl)];congr 1
 cases hd:decide (m=m') with
 | true =>
  obtain rfl:=of_decide_eq_true hd;simp
 | false =>
  have fQ:=of_decide_eq_false hd;obtain ⟨_,_,_,_,k,_⟩:=m;obtain ⟨_,_,_,_,_,_⟩:=m';dsimp only;rw [Bool.eq_false_iff];intro h;simp only [zba,beq_iff_eq,and_true] at h;obtain ⟨h1,h2,h3,h4,h5,h6⟩:=h;exact fQ (by subst h1 h2 h3 h4 h6;have:=Int.ofNat_inj.1 h5;subst this;rfl)
theorem QfI {α:Type} {l l':List α} {i:Nat} {m m':α} (h:l.take i=l'.take i) (h1:l[i]?=some m) (h2:l'[i]?=some m') (e:m=m'):l.take (i+1)=l'.take (i+1):=by
 rw [List.take_add_one,List.take_add_one,h,h1,h2,e]
theorem QmB {α:Type} {l l':List α} {i:Nat} {m m':α} (h1:l[i]?=some m) (h2:l'[i]?=some m') (e:¬ m=m'):¬ l=l':=fun h=>by
 subst h;rw [h1] at h2;exact e (Option.some.inj h2)
def QER (N i:Nat) (LL L2:List SV):St :=
 ⟨[(0,.a (.s (.sl 0 0 N))),(1,.a (.s (.sl 1 0 N))),(12,.a (.s (.i N))),(13,.a (.s (.i i)))],[(0,some ⟨false,6,LL⟩),(1,some ⟨false,6,L2⟩)],[0]⟩
theorem QpE (l l':List Mz) (N N':Nat) (hN:l.length=N) (UT:l'.length=N') (fP:N<=1000000) (B:Bool) (hB:decide (l=l')=B) :
  FN 128 [.s (.sl 0 0 N),.s (.sl 1 0 N')] [⟨false,6,mzs l⟩,⟨false,6,mzs l'⟩] (. =⟨.a (.s (.bool B)),[],[]⟩):=by
 have fK:=QbW l;have KG:=Qlj l;have hsc':=QbW l';have hseg':=Qlj l';generalize mzs l=LL at *;generalize mzs l'=L2 at *
 by_cases fQ:N=N'
 case neg =>
  obtain rfl:B=false:=by rw [<- hB];exact zdf (fun h=>fQ (by rw [<- hN,<- UT,h]))
  refine fnW Tryz.func128 ?_;exact QAl
 subst fQ;refine fnW Tryz.func128 ?_;(conv=>whnf);(repeat' ((first|exact zi2|refine zj0 fun hb=>?_|refine zse ?_|refine zbb ?_ ?_)<;>conv=>whnf))
 refine Lp.inv (fun mm σ=>∃ i,mm+i=N/\l.take i=l'.take i/\σ=QER N i LL L2) ?_ ?_
 .refine ⟨N,QER N 0 LL L2,?_,0,by omega,rfl,rfl⟩
  (exact zwL [(0,some 0),(1,some 1)])
 rintro mm σ ⟨i,zA,fG,rfl⟩;unfold QER
 by_cases JY:i<N
 .obtain ⟨m,hm⟩:∃ m,l[i]?=some m:=⟨l[i]'(by omega),zgg (by omega)⟩
  obtain ⟨m',vH⟩:∃ m,l'[i]?=some m:=⟨l'[i]'(by omega),zgg (by omega)⟩;have seg:=KG i _ hm;have seg':=hseg' i _ vH;have he:=QIF m m';have q2:IntKind.i64.wrap ((i:Int)+1)=((i+1:Nat):Int):=QaS
  by_cases yF:m=m'
  .have gW:=QfI fG hm vH yF
   rw [zdt yF] at he;obtain ⟨_,a,_,_,k,_⟩:=m;obtain ⟨_,_,_,_,_,_⟩:=m';dsimp only [Mz.C] at seg seg' he;clear yF hm vH fG hB;(conv=>whnf);(repeat' ((first|exact zi2|refine zj0 fun hb=>?_|(refine Eqs.mk true (Qjr _ ks6 rfl _ _ _ (by with_reducible exact he)) ?_)|refine QhW ?_|(apply Sg.mk; . first|exact seg|exact seg')|refine zse ?_|refine zbb ?_ ?_)<;>conv=>whnf))
   all_goals first
    | (
      refine ⟨mm-1,QER N (i+1) LL L2,by omega,?_,i+1,by omega,gW,rfl⟩
      (exact zwL [(0,some 0),(1,some 1)]))
  .obtain rfl:B=false:=by rw [<- hB];exact zdf (QmB hm vH yF)
   rw [zdf yF] at he;obtain ⟨_,a,_,_,k,_⟩:=m;obtain ⟨_,_,_,_,_,_⟩:=m';dsimp only [Mz.C] at seg seg' he;clear yF hm vH fG hB;(repeat' ((conv=>whnf);first|exact zi2|refine zj0 fun hb=>?_|(refine Eqs.mk false (Qjr _ ks6 rfl _ _ _ (by with_reducible exact he)) ?_)|(apply Sg.mk; . first|exact seg|exact seg')|refine zse ?_|refine zbb ?_ ?_))
   all_goals exact Qdg
 .obtain rfl:i=N:=by omega
  obtain rfl:B=true:=by
   rw [<- hB];rw [List.take_of_length_le (by omega),List.take_of_length_le (by omega)] at fG;exact zdt fG
  exact Qvl
theorem QpC (l l':List Mz) (N N':Nat) (hN:l.length=N) (UT:l'.length=N') (fP:N<=1000000) (B:Bool) (hB:decide (l=l')=B) :
  FN 128 [.s (.fz 6 N (mzs l)),.s (.fz 6 N' (mzs l'))] [] (. =⟨.a (.s (.bool B)),[],[]⟩):=by
 have h1:=QpE l l' N N' hN UT fP B hB
 have h2:FN 128 [.s (.sl 0 0 N),.s (.fz 6 N' (mzs l'))] [⟨false,6,mzs l⟩] (. =⟨.a (.s (.bool B)),[],[]⟩):=by
  refine QgE (H:= [⟨false,6,mzs l⟩]) (es:=6) (n:=N') (cells:=mzs l') (R':=⟨.a (.s (.bool B)),[],[]⟩) [(0,some 0)] h1 (fun ρ vs h=>Qqx (pre:= [.s (.sl 0 0 N)]) (post:= []) ρ vs h) ?_ ?_ rfl
  .exact QcN (Qcx (QaK rfl))
  .show HlS _ _ [] _
   refine Qas (Qan rfl rfl rfl rfl (Qaj (QbW l))) ?_;exact QaL
 refine QgE (H:= []) (es:=6) (n:=N) (cells:=mzs l) (R':=⟨.a (.s (.bool B)),[],[]⟩) [] h2 (fun ρ vs h=>Qqx (pre:= []) (post:= [.s (.fz 6 N' (mzs l'))]) ρ vs h) ?_ ?_ rfl
 .exact QcN (Qcx (QaK rfl))
 .exact QaL
def QAr (b b':Bk):Bool:=decide (b.A=b'.A/\b.L=b'.L/\b.l=b'.l)
theorem Ql5 (b b':Bk):QAr b b'=true↔b=b':=by
 unfold QAr;rw [zde];constructor
 .rintro ⟨h1,h2,h3⟩
  cases b;cases b';dsimp only at *;subst h1 h2 h3;rfl
 .rintro rfl;exact ⟨rfl,rfl,rfl⟩
theorem Qs4 (b b':Bk) (hb:b.ok) (B:Bool) (hB:QAr b b'=B) :
  FN 64 [.agg b.C,.agg b'.C] [] (. =⟨.a (.s (.bool B)),[],[]⟩):=by
 obtain ⟨A,L,l⟩:=b;obtain ⟨A',L',l'⟩:=b';unfold QAr at hB;dsimp only [Bk.C] at *;have ce:=QpC l l' l.length l'.length rfl rfl hb.2.1 _ rfl;clear hb
 by_cases h1:A=A'
 .by_cases h2:L=L'
  .have h3:decide (l=l')=B:=by rw [<- hB,decide_eq_decide];exact ⟨fun h=>⟨h1,h2,h⟩,fun h=>h.2.2⟩
   rw [h3] at ce;clear hB h3;subst h1 h2;generalize mzs l=M at *;generalize mzs l'=M',l.length=N,l'.length=N' at *;refine fnW Tryz.func64 ?_;(repeat' ((conv=>whnf);first|exact zi2|refine zj0 fun hb=>?_|(refine zpu ce ?_)|refine zse ?_|refine zbb ?_ ?_))
   all_goals exact QiV
  .obtain rfl:B=false:=by rw [<- hB];exact zdf (fun h=>h2 h.2.1)
   subst h1;clear hB ce;generalize mzs l=M at *;generalize mzs l'=M',l.length=N,l'.length=N' at *;refine fnW Tryz.func64 ?_;exact QiW
 .obtain rfl:B=false:=by rw [<- hB];exact zdf (fun h=>h1 h.1)
  clear hB ce;have VP:¬ (A:Int)=(A':Int):=by omega
  clear h1;generalize mzs l=M at *;generalize mzs l'=M',l.length=N,l'.length=N' at *;refine fnW Tryz.func64 ?_;exact QiW
def Qhg (xs:List Nat) (n:Nat) (c:List Bk):Prop :=
 c.length<=16/\∀ (i:Nat) (b:Bk),c[i]?=some b->(Qe5 b.A b.L b.l=true/\b=fdB xs n b.A 16)/\∀ (j:Nat) (e:Bk),j<i->c[j]?=some e->e.A≠b.A
theorem Qvy (xs:List Nat) (n:Nat) (hl:xs.length=n) (hn:ZU n) (hY:ZL xs) (A:Nat) (hA:ZU A) :
  ∃ (F:Bk) (BN BA:Nat) (MV:List SV),F=fdB xs n A 16/\F.ok/\Qao MV=true /\
   FN 62 [.s (.sl 0 0 n),.s (.u A),.s (.i 16)] [⟨false,1,wsv xs⟩] (. =⟨.a (.agg [.u BA,.i BN,.sl 1 0 BN]),[],[⟨true,6,MV⟩]⟩) /\
   FN 61 [.agg [.u BA,.i BN,.sl 0 0 BN]] [⟨false,6,MV⟩] (. =⟨.a (.agg F.C),[],[]⟩):=by
 have cb:=QoW xs n A 16 hl hn hA hY _ rfl;obtain ⟨_,f2,_,f4⟩:=QvQ xs n A 16 hA hY;exact ⟨fdB xs n A 16,_,_,_,rfl,f2,Qbb _,cb,f4⟩
def QEN (N n i:Nat) (TT XX:List SV):St :=
 ⟨[(0,.a (.s (.sl 0 0 N))),(1,.a (.s (.sl 1 0 n))),(13,.a (.s (.sl 0 0 N))),(14,.a (.s (.i N))),(15,.a (.s (.i i)))],[(0,some ⟨false,3,TT⟩),(1,some ⟨false,1,XX⟩)],[0]⟩
def Qs9 (N n i j:Nat) (BC TT XX:List SV):St :=
 ⟨[(0,.a (.s (.sl 0 0 N))),(1,.a (.s (.sl 1 0 n))),(13,.a (.s (.sl 0 0 N))),(14,.a (.s (.i N))),(15,.a (.s (.i i))),(6,.a (.s (.ptr 2 0))),(36,.a (.s (.sl 0 0 i))),(37,.a (.s (.i i))),(38,.a (.s (.i j)))],
  [(0,some ⟨false,3,TT⟩),(1,some ⟨false,1,XX⟩),(2,some ⟨true,1,BC⟩)],[0]⟩
def QEE (xs:List Nat) (n:Nat) (c:List Bk) (i:Nat):Prop :=
 ∀ (k:Nat) (b:Bk),k<i->c[k]?=some b->(Qe5 b.A b.L b.l=true/\b=fdB xs n b.A 16)/\∀ (j:Nat) (e:Bk),j<k->c[j]?=some e->e.A≠b.A
theorem QwW (xs:List Nat) (n:Nat) (c:List Bk) (N:Nat) (hN:c.length=N) (h:N<=16) (h2:QEE xs n c N):Qhg xs n c :=
 ⟨by omega,fun i b hb=>h2 i b (by have:=(zgs.1 hb).1;omega) hb⟩
theorem Qpa (xs:List Nat) (n:Nat) (c:List Bk) (i:Nat) (b:Bk) (hb:c[i]?=some b) (h:QEE xs n c i) (h1:Qe5 b.A b.L b.l=true) (h2:b=fdB xs n b.A 16) (h3:∀ (j:Nat) (e:Bk),j<i->c[j]?=some e->e.A≠b.A):QEE xs n c (i+1):=fun k e hk he=>by
 by_cases hki:k=i
 .subst hki;rw [hb] at he;obtain rfl:=Option.some.inj he;exact ⟨⟨h1,h2⟩,h3⟩
 .exact h k e (by omega) he
theorem QoN {B:Bool} {P:Prop} (h:B=true↔P) (hn:¬ P):B=false:=by
 cases B with
 | false=>rfl
 | true=>exact absurd (h.1 rfl) hn
theorem Qh9 (xs:List Nat) (n:Nat) (hl:xs.length=n) (hn:ZU n) (hY:ZL xs) (c:List Bk) (N:Nat) (hN:c.length=N) (fP:N<=1000000) (hok:∀ b∈c,b.ok) (B:Bool) (hB:B=true↔Qhg xs n c) :
  FN 30 [.s (.sl 0 0 N),.s (.sl 1 0 n)] [⟨false,3,bks c⟩,⟨false,1,wsv xs⟩] (. =⟨.a (.s (.bool B)),[],[]⟩):=by
 have gN:=Qac c;have jK:=Qdr c;have gL:=Qaa xs;have KU:=Qvy xs n hl hn hY;generalize bks c=TT,wsv xs=XX at *
 by_cases HK:N<=16
 case neg =>
  obtain rfl:B=false:=QoN hB (fun h=>by have:=h.1;omega);refine fnW Tryz.func30 ?_;exact QAl
 refine fnW Tryz.func30 ?_;(conv=>whnf);(repeat' ((first|exact zi2|refine zj0 fun hb=>?_|refine zse ?_|refine zbb ?_ ?_)<;>conv=>whnf))
 all_goals first|skip
 refine Lp.inv (fun mm σ=>∃ i,mm+i=N/\QEE xs n c i/\σ=QEN N n i TT XX) ?_ ?_
 .refine ⟨N,QEN N n 0 TT XX,?_,0,by omega,fun k b hk=>by omega,rfl⟩
  (exact zwL [(0,some 0),(1,some 1)])
 rintro mm σ ⟨i,zA,hU,rfl⟩;unfold QEN
 by_cases hi:i<N
 case neg =>
  obtain rfl:i=N:=by omega
  obtain rfl:B=true:=hB.2 (QwW xs n c i hN HK hU);clear KU jK hB;exact Qvl
 obtain ⟨b,hb⟩:∃ b,c[i]?=some b:=⟨c[i]'(by omega),zgg (by omega)⟩;have seg:=jK i b hb;have GQ:=hok b (List.mem_of_getElem? hb);obtain ⟨F,_,_,_,hF,VU,_,cb,cf⟩:=KU b.A GQ.1;clear KU;have q2:IntKind.i64.wrap ((i:Int)+1)=((i+1:Nat):Int):=QaS;have cm:=QqR b.A GQ.1 b.L b.l _ rfl GQ.2.1;have cs:=Qs4 b F GQ _ rfl
 by_cases hgood:Qe5 b.A b.L b.l=true/\b=F
 case neg =>
  obtain rfl:B=false:=QoN hB (fun h=>hgood ⟨(h.2 i b hb).1.1,by rw [hF];exact (h.2 i b hb).1.2⟩)
  cases HH:Qe5 b.A b.L b.l with
  | false =>
   rw [HH] at cm;obtain ⟨A,L,l⟩:=b;obtain ⟨_,_,Fl⟩:=F;dsimp only [Bk.C] at seg cm cs cf cb;clear jK hB hb GQ hgood hF VU hU HH hok;generalize l.length=K,mzs l=M at *;generalize Fl.length=FK,mzs Fl=FM at *;(conv=>whnf);(repeat' ((first|exact zi2|refine zj0 fun hb=>?_|refine QfL ?_|(refine QaA cb ?_)|(refine QaA cf ?_)|(refine zpu cm ?_)|refine zse ?_|refine zbb ?_ ?_)<;>conv=>whnf))
   all_goals first|(exact Qdg)
  | true =>
   have fQ:QAr b F=false:=by
    cases h:QAr b F with
    | false=>rfl
    | true=>exact absurd ⟨HH,(Ql5 b F).1 h⟩ hgood
   rw [HH] at cm;rw [fQ] at cs;obtain ⟨A,L,l⟩:=b;obtain ⟨_,_,Fl⟩:=F;dsimp only [Bk.C] at seg cm cs cf cb;clear jK hB hb GQ hgood hF VU hU HH hok fQ;generalize l.length=K,mzs l=M at *;generalize Fl.length=FK,mzs Fl=FM at *;(repeat' ((conv=>whnf);first|exact zi2|refine zj0 fun hb=>?_|refine QfL ?_|(refine QaA cb ?_)|(refine QaA cf ?_)|(refine zpu cm ?_)|(refine zpu cs ?_)|refine zse ?_|refine zbb ?_ ?_))
   all_goals exact Qhs
 obtain ⟨HH,rfl⟩:=hgood;rw [HH] at cm;rw [(Ql5 b b).2 rfl] at cs;have gW:=Qpa xs n c i b hb hU HH hF;have qH:∀ (j:Nat) (e:Bk),j<i->c[j]?=some e->e.A=b.A->B=false:=fun j e hj he hA=>QoN hB (fun h=>(h.2 i b hb).2 j e hj he hA)
 obtain ⟨A,L,l⟩:=b;dsimp only [Bk.C] at seg cm cs cf cb gW qH;clear hB hb GQ hF VU hU HH;generalize l.length=K,mzs l=M at *;(conv=>whnf);(repeat' ((first|exact zi2|refine zj0 fun hb=>?_|refine QfL ?_|(refine QaA cb ?_)|(refine QaA cf ?_)|(refine zpu cm ?_)|(refine zpu cs ?_)|refine zse ?_|refine zbb ?_ ?_)<;>conv=>whnf))
 all_goals first|skip
 refine Lp.inv (fun m2 σ=>∃ j,m2+j=i/\(∀ (k:Nat) (e:Bk),k<j->c[k]?=some e->e.A≠A)/\σ=Qs9 N n i j [.u A,.i L,.fz 6 K M] TT XX) ?_ ?_
 .refine ⟨i,Qs9 N n i 0 [.u A,.i L,.fz 6 K M] TT XX,?_,0,by omega,fun k e hk=>by omega,rfl⟩
  (exact zwL [(0,some 0),(1,some 1),(2,some _)])
 rintro m2 σ ⟨j,yT,fG,rfl⟩;unfold Qs9;have q3:IntKind.i64.wrap ((j:Int)+1)=((j+1:Nat):Int):=QaS
 by_cases hj:j<i
 case neg =>
  obtain rfl:j=i:=by omega
  have hst2:=gW fG;clear gW qH fG jK hok cb cf cm cs;(conv=>whnf);(repeat' ((first|exact zi2|refine zj0 fun hb=>?_|refine QhW ?_|refine zse ?_|refine zbb ?_ ?_)<;>conv=>whnf))
  all_goals first
   | (
     refine ⟨mm-1,QEN N n (j+1) TT XX,by omega,?_,j+1,by omega,hst2,rfl⟩
     (exact zwL [(0,some 0),(1,some 1)]))
 obtain ⟨e,he⟩:∃ e,c[j]?=some e:=⟨c[j]'(by omega),zgg (by omega)⟩;have sege:=jK j e he
 by_cases hA:e.A=A
 .obtain rfl:B=false:=qH j e hj he hA
  obtain ⟨eA,_,el⟩:=e;dsimp only [Bk.C] at sege hA;subst hA;clear qH fG jK hok cb cf cm cs gW he seg;generalize el.length=eK,mzs el=eM at *;(repeat' ((conv=>whnf);first|exact zi2|refine zj0 fun hb=>?_|(apply Sg.mk; . exact sege)|refine zse ?_|refine zbb ?_ ?_))
  all_goals exact Qhs
 .have vM:∀ (k:Nat) (x:Bk),k<j+1->c[k]?=some x->x.A≠A:=fun k x hk hx=>by
   by_cases hkj:k=j
   .subst hkj;rw [he] at hx;obtain rfl:=Option.some.inj hx;exact hA
   .exact fG k x (by omega) hx
  obtain ⟨eA,_,el⟩:=e;dsimp only [Bk.C] at sege hA;have hA':¬ ((eA:Nat):Int)=(A:Int):=by omega
  clear qH fG jK hok cb cf cm cs gW he seg hA;generalize el.length=eK,mzs el=eM at *;(conv=>whnf);(repeat' ((first|exact zi2|refine zj0 fun hb=>?_|(apply Sg.mk; . exact sege)|(with_reducible refine zv q3 ?_)|refine zse ?_|refine zbb ?_ ?_)<;>conv=>whnf))
  all_goals first
   | (exfalso;simp at hb;done)
   | (
     refine ⟨m2-1,Qs9 N n i (j+1) [.u A,.i L,.fz 6 K M] TT XX,by omega,?_,j+1,by omega,vM,rfl⟩
     (exact zwL [(0,some 0),(1,some 1),(2,some 2)]))
def GB (xs:List Nat) (n:Nat) (b:Bk):Prop:=Qe5 b.A b.L b.l=true/\b=fdB xs n b.A 16
theorem Qf0 (xs:List Nat) (n:Nat) (c:List Bk):Qhg xs n c↔c.length<=16/\(∀ b∈c,GB xs n b)/\(c.map (·.A)).Nodup:=by
 unfold Qhg;constructor
 .rintro ⟨h1,h2⟩
  refine ⟨h1,fun b hb=>?_,?_⟩
  .obtain ⟨i,hi⟩:=List.getElem?_of_mem hb
   exact (h2 i b hi).1
  .refine List.pairwise_iff_getElem.2 fun i j hi hj zM h=>?_
   rw [List.length_map] at hi hj;rw [List.getElem_map,List.getElem_map] at h;exact (h2 j c[j] (zgg hj)).2 i c[i] zM (zgg hi) h
 .rintro ⟨h1,h2,h3⟩
  refine ⟨h1,fun i b hb=>⟨h2 b (List.mem_of_getElem? hb),fun j e hj he hA=>?_⟩⟩;obtain ⟨hi,ZI⟩:=zgs.1 hb;obtain ⟨YO,HF⟩:=zgs.1 he;refine List.pairwise_iff_getElem.1 h3 j i (by rw [List.length_map];exact YO) (by rw [List.length_map];exact hi) hj ?_;rw [List.getElem_map,List.getElem_map,ZI,HF];exact hA
theorem QoR (xs ys:List Nat):∀ (f q:Nat),(∀ j,q<=j->j<q+f->xs.getD j 0=ys.getD j 0)->bl xs f q=bl ys f q
 | 0,_,_=>rfl
 | f+1,q,h=>by
  have e:∀ zs:List Nat,bl zs (f+1) q=if dOk (zs.getD q 0)=true then (if Qco (dOp (zs.getD q 0))=true then [bM (zs.getD q 0)] else bM (zs.getD q 0)::bl zs f (q+1)) else []:=fun _=>rfl
  rw [e,e,h q (by omega) (by omega),QoR xs ys f (q+1) (fun j h1 h2=>h j (by omega) (by omega))]
theorem Qs3 (xs ys:List Nat) (n a:Nat) (h:∀ j,j / 32=a / 128->xs.getD j 0=ys.getD j 0):blL xs n a 16=blL ys n a 16:=by
 unfold blL;split
 .rename_i hb
  have h4:a%4=0:=by
   unfold bok ld4 at hb;simp only [zba,zde] at hb;exact hb.2.1
  have hl:lmt a 16<=32-a%128 / 4:=by unfold lmt;omega
  exact QoR xs ys _ _ (fun j h1 h2=>h j (by omega))
 .rfl
theorem QtJ (xs ys:List Nat) (n a:Nat) (h:∀ j,j / 32=a / 128->xs.getD j 0=ys.getD j 0):fdB xs n a 16=fdB ys n a 16:=by
 unfold fdB;rw [Qs3 xs ys n a h]
theorem QkT (xs ys:List Nat) (n:Nat) (c d:List Bk) (hs:d.Sublist c) (hd:∀ b∈d,∀ j,j / 32=b.A / 128->xs.getD j 0=ys.getD j 0) (h:Qhg xs n c):Qhg ys n d:=by
 rw [Qf0] at h |-;obtain ⟨h1,h2,h3⟩:=h;refine ⟨Nat.le_trans hs.length_le h1,fun b hb=>?_,h3.sublist (hs.map _)⟩;have g:=h2 b (hs.subset hb);exact ⟨g.1,by rw [<- QtJ xs ys n b.A (hd b hb)];exact g.2⟩
theorem Qpb (xs:List Nat) (n:Nat) (c:List Bk) (i:Nat) (e:Bk) (he:c[i]?=some e) (h:Qhg xs n c):Qhg xs n (Qbd c i e):=by
 rw [Qf0] at h |-;obtain ⟨h1,h2,h3⟩:=h
 have hp:(Qbd c i e).Perm c:=by
  have gU:=(zgs.1 he).1
  have hs:c=c.take i++e::c.drop (i+1):=by
   conv=>lhs;rw [<- List.take_append_drop i c]
   rw [List.drop_eq_getElem_cons gU,(zgs.1 he).2]
  conv=>rhs;rw [hs]
  exact List.perm_middle.symm
 exact ⟨by rw [hp.length_eq];exact h1,fun b hb=>h2 b (hp.mem_iff.1 hb),(hp.map _).nodup_iff.2 h3⟩
theorem QwY (xs:List Nat) (n:Nat) (c:List Bk) (F:Bk) (hF:F=fdB xs n F.A 16) (h:Qhg xs n c):Qhg xs n (Qkz c F):=by
 unfold Qkz;split
 .rename_i hm
  rw [Qf0] at h |-;obtain ⟨_,h2,h3⟩:=h;refine ⟨by simp;omega,fun b hb=>?_,?_⟩
  .rcases List.mem_cons.1 hb with rfl|hb
   .exact ⟨hm,hF⟩
   .exact h2 b (List.mem_filter.1 (List.mem_of_mem_take hb)).1
  .rw [List.map_cons,List.nodup_cons]
   refine ⟨fun hx=>?_,?_⟩
   .obtain ⟨b,hb,hA⟩:=List.mem_map.1 hx
    have:=(List.mem_filter.1 (List.mem_of_mem_take hb)).2;simp at this;exact this hA
   .exact h3.sublist (((List.take_sublist _ _).trans (List.filter_sublist)).map _)
 .exact h
theorem QxE (xs:List Nat) (n a:Nat) (h:ld4 n a=true):fdB xs n a 16=fdB xs n (fdB xs n a 16).A 16:=by
 have hb:(fdB xs n a 16).A=a:=by
  show blA n a 16=a;unfold blA bok;rw [zP (by rw [h];decide)]
 rw [hb]
end Go.Proofs.YtpgkkfajljekpabGreat
